/- Lemmas of the proof. -/
import Derived.Test.YtadgngamdofhiaaGreatPlH
import Derived.Test.YtadgngamdofhiaaGreatXAa
import Derived.Test.YtadgngamdofhiaaGreatXAe
import Derived.Test.YtadgngamdofhiaaGreatXAi
import Derived.Test.YtadgngamdofhiaaGreatXAz
import Derived.Test.YtadgngamdofhiaaGreatXBc
import Derived.Test.YtadgngamdofhiaaGreatXBd
import Derived.Test.YtadgngamdofhiaaGreatXBs
import Derived.Test.YtadgngamdofhiaaGreatXCc
import Derived.ProofKit
open Inhabited renaming default→Jd
open Go.Proofs.Tryz
open Go Go.PL
open Bool renaming and_eq_true→Ji,false_and→Jk,and_false→Jp,false_eq_true→Js,and_self→Jw,or_eq_false_iff→JK,true_and→JP,not_false→JY,and_true→J3
open Classical renaming not_not→JE
open Decidable renaming not_not→JR,byContradiction→JZ
open Int renaming natCast_nonneg→Ja,mul_le_mul_of_nonneg_right→Jq,mul_le_mul_of_nonneg_left→Jr,zero_add→J5,mul_comm→J6
open List renaming length_map→Jb,map_append→Jc,mem_singleton→Je,length_filter_le→Jf,append_nil→Jh,length_append→Jj,filter_cons_of_neg→Jl,filter_cons_of_pos→Jm,take_of_length_le→Jo,filter_append→Jt,length_take_le→Jv,mem_cons→Jy,mem_append→Jz,pairwise_cons→JA,findIdx?_eq_some_iff_getElem→JB,takeWhile_cons→JC,findIdx?_eq_none_iff→JD,take_length→JF,mem_filter→JG,set_getElem_self→JH,take_append_drop→JI,mem_of_mem_drop→JJ,pairwise_append→JL,filter_sublist→JN,getElem_of_mem→JO,findIdx?_cons→JQ,length_cons→JT,foldl_cons→JU,range→JX,map_cons→J2,findIdx?→J4,mem_map→J7,map_nil→J8
open Nat renaming zero_le→Jg,le_trans→Ju
open Option renaming map_map→JW
open PV renaming ids→Jn,idsL→JM,agg→J9
open Prod renaming ext→JS,mk→JV
open Pub renaming vec0→Ka
namespace Go.Proofs.YtadgngamdofhiaaGreat
set_option maxHeartbeats 64000000
set_option maxRecDepth 20000
set_option linter.unusedVariables false
set_option linter.unusedSimpArgs false
open Go.PL
theorem Ze5 {d f:Int} (hd: -1099511627776<=d/\d<=1099511627776) (h:(Ss 0 d f).2=0):2<=f/\f<=1000/\(Ss 0 d f).1=f*d:=by
 unfold Ss at h ⊢;by_cases hf:2<=f/\f<=1000;rw[if_neg (λg=>g hf)]at h ⊢;have b1: -1099511627776000<=f*d/\f*d<=1099511627776000:=by
  have p1:f*d<=f*1099511627776:=Jr hd.2 (by omega);have p2:f*(-1099511627776)<=f*d:=Jr hd.1 (by omega);omega
 have e:IntKind.i64.wrap (0+IntKind.i64.wrap (f*d))=f*d:=by
  rw[DD (n:=f*d) (by omega),J5,DD (by omega)]
 refine⟨hf.1,hf.2,?_⟩;split at h;cases h;rename_i hp;rw[if_neg hp];split at h;rename_i hfi;rw[if_pos hfi];exact e;cases h;rw[if_pos hf]at h;cases h
theorem Zfp {l m:List Fd} {x:Ln} {o p:Opn} {f:Fd} (ha:ZT l x=(m,0)) (hf:ZJ l o.at'=(f,0)) (h1:f.kind=1) (k3:o.kind=3) (hd: -1099511627776<=o.delta/\o.delta<=1099511627776) (ho:Wu x o=(p,true)):
  ∃g,ZJ m p.at'=(g,0)/\g.kind=1/\p.kind=3/\1<=g.worth/\g.worth<=1048576/\p.delta*g.worth=o.delta*f.worth:=by
 obtain⟨hl,hx,cs,l1,e1,e2,e3⟩:=Gi ha;obtain⟨a1,a2,a3,a4,a5⟩:=F7 hl e2;obtain⟨b1,b2,b3,b4,b5⟩:=T4 a1 e3;have hk:=(Y9 hx).1;have hm:=(Ya.1 b1).2;have hfl:=W4 (l:=l) (r:=o.at') (by rw[hf]);rw[hf]at hfl;simp only at hfl;obtain⟨fm,fa⟩:=hfl;have fr:=(Ya.1 hl).2.2 f fm;have fw:=SU fr h1;have coming:∀g∈cs,ZJ m g.at'=(g,0)/\ZY g=true:=λg hg=>⟨Xf hm.1 ((b2 g).2 (.inr hg)),(b3 g hg).1⟩
 unfold Wu at ho;rw[if_neg (by rw[hx];simp),if_neg (by omega)]at ho;by_cases hp:Yw (Zy x) o.at'<0;rw[if_pos hp]at ho;cases ho;have hfm:f∈m:=(b2 f).2 (.inl ((a2 f).2 ⟨fm,by rw[fa];exact Zci hp⟩));have:=Xf hm.1 hfm;rw[fa]at this;exact⟨f,this,h1,k3,fw.1,fw.2,rfl⟩;rw[if_neg hp]at ho;by_cases hb:(Zp x o).2=false;rw[if_pos hb]at ho;simp at ho;rw[if_neg hb]at ho;simp only[JV.injEq,and_true]at ho;subst ho;have hb':(Zp x o).2=true:=by simpa using hb
 clear hb b4 b5 a3 a4 a5;obtain⟨kind,at',nm,ot,fac,fd,fo,ba⟩:=x;simp only at hk;have mv:∀r,o.at'=at'->cs= [⟨r,f.kind,f.df,f.cases',f.worth⟩]-> ∃g,ZJ m r=(g,0)/\g.kind=1/\1<=g.worth/\g.worth<=1048576/\o.delta*g.worth=o.delta*f.worth:=λr _ hc=>by
  have:=coming ⟨r,f.kind,f.df,f.cases',f.worth⟩ (by rw[hc];simp);exact⟨_,this.1,h1,fw.1,fw.2,rfl⟩
 rcases hk with rfl|rfl|rfl|rfl|rfl|rfl|rfl|rfl|rfl|rfl;have hat:at'=o.at':=Y3 (by simpa[Zy]using hp);subst hat;simp[Vn,Zc,hf]at e1;obtain⟨g,g1,g2,g3,g4,g5⟩:=mv (Zh o.at' nm) rfl e1.symm;exact⟨g,by simpa[Zp,ZB,Zc]using g1,g2,by simpa[Zp,ZB]using k3,g3,g4,by simpa[Zp,ZB]using g5⟩;exact absurd (show Yw (Zy ⟨2,at',nm,ot,fac,fd,fo,ba⟩) o.at'<0 from(by decide:(-1:Int)<0)) hp;simp[Zp]at hb';have hat:at'=o.at':=Y3 (by simpa[Zy]using hp);subst hat;simp[Vn,Zc,hf]at e1;obtain⟨g,g1,g2,g3,g4,g5⟩:=mv ⟨o.at'.sc,[],o.at'.nm⟩ rfl e1.symm;exact⟨g,by simpa[Zp,ZB,Zc]using g1,g2,by simpa[Zp,ZB]using k3,g3,g4,by simpa[Zp,ZB]using g5⟩;have hat:at'=o.at':=Y3 (by simpa[Zy]using hp);subst hat;simp[Vn,Zc,hf]at e1;obtain⟨g,g1,g2,g3,g4,g5⟩:=mv ⟨o.at'.sc,nm,o.at'.nm⟩ rfl e1.symm;exact⟨g,by simpa[Zp,ZB,Zc]using g1,g2,by simpa[Zp,ZB]using k3,g3,g4,by simpa[Zp,ZB]using g5⟩;have hat:at'=o.at':=Y3 (by simpa[Zy]using hp);subst hat;simp[Vn,hf]at e1;have:=coming ⟨Zh o.at' nm,1,[],[],f.worth⟩ (by rw[<-e1.1];simp);exact⟨⟨Zh o.at' nm,1,[],[],f.worth⟩,by simpa[Zp,ZB,Zc]using this.1,rfl,by simpa[Zp,ZB]using k3,fw.1,fw.2,by simp[Zp,ZB]⟩;simp[Zp,k3]at hb';simp[Zp,Ut,k3]at hb';have hgo:Zy ⟨9,at',nm,ot,fac,fd,fo,ba⟩= [Zh at' nm,Zh at' ot]:=by simp[Zy]
 rw[hgo]at hp;obtain⟨g,hg1,hg2,hg3⟩:=Zcj hp;simp[Vn,U2]at e1;split at e1;simp at e1;split at e1;simp at e1;rename_i u1 u2;simp only[not_or,JR]at u1 u2;simp only[JV.injEq,and_true]at e1;obtain⟨q1,q2⟩:=u1;obtain⟨q3,q4,q5⟩:=u2;have hA:=W4 q1;have hAr:=SU ((Ya.1 hl).2.2 _ hA.1) q2;have hcm:=coming ⟨at',1,[],[],(ZJ l (Zh at' nm)).1.worth⟩ (by rw[<-e1];simp);have hb2:Zp ⟨9,at',nm,ot,fac,fd,fo,ba⟩ o=(Z7 o (Y2 o (g:Int) fac).1,(Y2 o (g:Int) fac).2):=by
  simp only[Zp,hgo,hg1];simp
 rw[hb2]at hb' ⊢;simp only at hb';refine⟨⟨at',1,[],[],(ZJ l (Zh at' nm)).1.worth⟩,by simpa[ZB,Zc,Z7]using hcm.1,rfl,by simpa[ZB,Z7]using k3,hAr.1,hAr.2,?_⟩;simp only[ZB,Z7];have hg01:g=0\/g=1:=by simp at hg2;omega
 rcases hg01 with rfl|rfl;have hat:Zh at' nm=o.at':=by simpa using hg3
 rw[hat,hf];simp[Y2,k3];have hat:Zh at' ot=o.at':=by simpa using hg3
 have hdd:Y6 o.delta=true:=Wm.2 ⟨by omega,by omega⟩;have hmd:Y2 o ((1:Nat):Int) fac=((Ss 0 o.delta fac).1,decide ((Ss 0 o.delta fac).2=0)):=by
  unfold Y2;rw[if_neg (λh=>h k3),if_neg (by omega),if_pos hdd]
 rw[hmd]at hb' ⊢;obtain⟨j1,j2,j3⟩:=Ze5 hd (of_decide_eq_true hb');rw[hat,hf]at q5;simp only at q5 ⊢;have hwr:IntKind.i64.wrap ((ZJ l (Zh at' nm)).1.worth*fac)=(ZJ l (Zh at' nm)).1.worth*fac:=by
  have p1:(ZJ l (Zh at' nm)).1.worth*fac<=1048576*fac:=Jq hAr.2 (by omega);have p2:0<=(ZJ l (Zh at' nm)).1.worth*fac:=Int.mul_nonneg (by omega) (by omega);exact DD (by omega)
 rw[hwr]at q5;rw[j3,q5,J6 fac,Int.mul_assoc,J6 fac];simp[Zp,k3]at hb'
def Y7:List Ln->Opn->Opn×Bool
 | [],o=>(o,true)
 |x::xs,o=>if(Wu x o).2=false then(Jd,false)else Y7 xs (Wu x o).1
theorem UQ (x:Ln) (xs:List Ln) (o:Opn):Y7 (x::xs) o=if(Wu x o).2=false then(Jd,false)else Y7 xs (Wu x o).1:=rfl
structure Worth (l:List Fd) (o:Opn) (w:Int):Prop where
 k:o.kind=3
 f:∃f,ZJ l o.at'=(f,0)/\f.kind=1/\1<=f.worth/\f.worth<=1048576/\o.delta*f.worth=w
 b: -1099511627776<=w/\w<=1099511627776
theorem Worth.delta {l:List Fd} {o:Opn} {w:Int} (h:Worth l o w): -1099511627776<=o.delta/\o.delta<=1099511627776:=by
 obtain⟨_,⟨f,_,_,h1,h2,h3⟩,h4,h5⟩:=h;have hw:o.delta*f.worth=w:=h3;constructor;by_cases hn:o.delta < -1099511627776;exfalso;have p:o.delta*f.worth<=o.delta*1:=Int.mul_le_mul_of_nonpos_left (by omega) h1;omega;omega;by_cases hn:1099511627776<o.delta;exfalso;have p:o.delta*1<=o.delta*f.worth:=Jr h1 (by omega);omega;omega
theorem Worth.over {l m:List Fd} {x:Ln} {o p:Opn} {w:Int} (h:Worth l o w) (ha:ZT l x=(m,0)) (ho:Wu x o=(p,true)):Worth m p w:=by
 have hd:=h.delta;obtain⟨k,⟨f,h0,hk,h1,h2,h3⟩,hb⟩:=h;obtain⟨g,g1,g2,g3,g4,g5,g6⟩:=Zfp ha h0 hk k hd ho;exact⟨g3,⟨g,g1,g2,g4,g5,by rw[g6,h3]⟩,hb⟩
theorem Worth.start {l:List Fd} {o:Opn} (hf:Tz l o=true) (hl:Z2 l=true) (k3:o.kind=3):∃w,Worth l o w:=by
 obtain⟨f0,f1,_,_⟩:=SI hf (Zrd k3);have f1:=f1 k3;have hd:=ZfD (FU hf);have hfe:ZJ l o.at'=((ZJ l o.at').1,0):=JS rfl f0;have hz:=W4 f0;generalize (ZJ l o.at').1=f at *;have fw:=SU ((Ya.1 hl).2.2 _ hz.1) f1;refine⟨o.delta*f.worth,k3,⟨f,hfe,f1,fw.1,fw.2,rfl⟩,?_⟩;have p1:o.delta*f.worth<=1048576*f.worth:=Jq hd.2 (by omega);have p2:(-1048576)*f.worth<=o.delta*f.worth:=Jq hd.1 (by omega);omega
open Go.PL
theorem Zhi {x:Ln} {o:Opn} (hx:ZE x=true) (hp:Z1 o=true):Wu x o=if Yw (Zy x) o.at'<0 then(o,true)else if(Zp x o).2=false then(Jd,false)else(ZB (Zp x o).1 ((Zc x).getD 0 Jd),true):=by
 unfold Wu;have:¬(o.kind≠3/\o.kind≠4):=by
  simp[Z1]at hp;omega
 rw[if_neg (by rw[hx];simp),if_neg this]
theorem ZeX {l:List Fd} {o:Opn} {f:Fd} (hf:Tz l o=true) (hp:Z1 o=true) (he:ZJ l o.at'=(f,0)) (hk:f.kind=1):o.kind=3:=by
 obtain⟨_,_,h2,h3⟩:=SI hf hp;rw[he]at h2 h3;refine JZ λh=> ?_
 cases hh:o.has;have:=h3 h hh;simp only at this;omega;have:=h2 h hh;simp[WN,hk]at this
theorem Zpb {x:Ln} {o p:Opn} (h:Wu x o=(p,true)):p.id=o.id/\p.time=o.time/\p.kind=o.kind:=by
 have key:∀q:Opn×Bool,q=Wu x o->q.2=true->q.1.id=o.id/\q.1.time=o.time/\q.1.kind=o.kind:=by
  intro q hq hq2;subst hq;revert hq2;unfold Wu Zp;repeat' split
  all_goals first|(intro _;exact⟨rfl,rfl,rfl⟩)|(intro h;exact absurd h (by simp))
 exact key (p,true) h.symm rfl
open Go.PL
def Zrk (o:Opn) (t:Tg):Opn:=⟨o.id,t,o.time,o.cart,o.kind,o.item,o.at',o.delta,o.has,o.text,o.drops⟩
def ZnE (m:List Eg) (a b:Tg) (o:Opn):Opn×Bool:=
 if Wd m a b≠0 then(Jd,false)else if(Y7 (DV m a b).1 o).2=false then(Jd,false)else(Zrk (Y7 (DV m a b).1 o).1 b,true)
def Xm (m:List Eg) (o:Opn) (b:Tg):Int:=
 if X9 o=false then 5 else if upC m o.sch≠0 then upC m o.sch else if upC m b≠0 then upC m b else if Tz (Ys (Zd m) o.sch).1 o=false then 16 else 0
structure SeenT where
 o:Opn
 ok:Bool
 c:Int
 deriving DecidableEq,Inhabited
def toT (m:List Eg) (o:Opn) (b:Tg):SeenT:=if Xm m o b≠0 then⟨Jd,false,Xm m o b⟩else⟨(ZnE m o.sch b o).1,(ZnE m o.sch b o).2,0⟩
def Vi (m:List Eg) (o:Opn):Bool:=X9 o&&(decide (upC m o.sch=0)&&Tz (Ys (Zd m) o.sch).1 o)
theorem ZbI {m:List Eg} {o:Opn} {b:Tg}:Xm m o b=0↔X9 o=true/\upC m o.sch=0/\upC m b=0/\Tz (Ys (Zd m) o.sch).1 o=true:=by
 unfold Xm;cases h1:X9 o;simp;by_cases h2:upC m o.sch=0;by_cases h3:upC m b=0;cases h4:Tz (Ys (Zd m) o.sch).1 o;simp[h2,h3];simp[h2,h3];simp[h2,h3];simp[h2]
theorem Zjz {m:List Eg} {o:Opn}:Xm m o Jd=0↔Vi m o=true:=by
 rw[ZbI];simp only[Vi,Ji,decide_eq_true_eq];have h0:upC m Jd=0:=rfl;constructor;rintro ⟨h1,h2,_,h4⟩;exact⟨h1,h2,h4⟩;rintro ⟨h1,h2,h4⟩;exact⟨h1,h2,h0,h4⟩
theorem Zpr {m:List Eg} (hm:OkM m) (hr:RightM m) {a b:Tg} (hu:upC m a=0) (hv:upC m b=0):SJ (DV m a b).1 (Ys (Zd m) a).1=some (Ys (Zd m) b).1:=by
 obtain⟨wa,fa,_⟩:=YN hu;obtain⟨wb,fb,_⟩:=YN hv;unfold DV;rw[if_neg (by rw[WS.2 ⟨hu,hv⟩];simp)];have kp:∀e∈WH m a,e.ln.kind<=8:=λe he=>ZeL (hr.r e (wa.mem e he))
 obtain⟨ms,a1,a2⟩:=FY (lcp (WH m a) (WH m b)) fa;obtain⟨ns,b1,b2⟩:=FY (lcp (WH m a) (WH m b)) fb;rw[Zdm,b1]at a1;cases a1;show SJ (Uy m (D4 (WH m a) (WH m b))) _=_;rw[ZjV hm.a wa.mem wb.mem,DM,Zia _ (λe he=>kp e (JJ he)) a2];rw[Option.bind_some,ZjF,b2]
theorem ZfF {m:List Eg} (hr:RightM m) {a:Tg} (hu:upC m a=0):Z2 (Ys (Zd m) a).1=true:=by
 obtain⟨wa,fa,_⟩:=YN hu;exact FX _ (λe he=>ZeL (hr.r e (wa.mem e he))) Zkb fa
theorem Worth.sch {l:List Fd} {o:Opn} {w:Int} (h:Worth l o w) (t:Tg):Worth l (Zrk o t) w:=⟨h.k,h.f,h.b⟩
open Go.PL
theorem Zfr {o:Opn} (h:Z1 o=true):o.kind=3\/o.kind=4:=by simpa[Z1]using h
theorem Zj4 {x:Ln} {o:Opn} (hx:ZE x=true) (h:Z1 o=false):Wu x o=(o,true):=by
 unfold Wu;rw[if_neg (by rw[hx];simp),if_pos];simpa[Z1]using h
open Go.PL
structure AoS (rws:List Ln) (o0:Opn) where
 k:Nat
 o:Opn
 hk:k<=rws.length
 ok:OkOp o
 h:Y7 (rws.drop k) o=Y7 rws o0
def DZ:List PV:= [.int .i64 0,.int .i64 0,.int .i64 0,.int .i64 0,.int .i64 0,.str [],.int .i64 0,.str [],.int .i64 0,.str [],.str [],.int .i64 0,.bool false,.str [],.sl .nil []]
theorem Zgw (rws:List Ln) (o:Opn) (hl:rws.length<=1000) (hx:∀x∈rws,OkLn x) (ho:OkOp o):Pp 205 [Gz rws,opv o] (opb (Y7 rws o)):=by
 have hW:=XU o ho;refine ZA func205 rfl ntmps205 results205 (Zn _) ?_;simp only[go_sem,Gz,opv];refine ZdT (ι:=AoS rws o) 31 (λx=> [(0,Gz rws),(3,.ptr 3 0),(4,.ptr 4 0),(6,.int .i64 (x.k:Int))]) (λx=> [(3,Y8 x.o,false),(4,DZ,false)]) (λx=> []) (λx=>rws.length-x.k) 0 _ (by exact rfl) (λx=>⟨(Fc4 rfl rfl rfl rfl),Fc2 rfl rfl⟩) (λx=> ?_) (λcut=> ?_);obtain⟨k,p,hk,ok,h⟩:=x;simp only;by_cases he:k=rws.length;have hb:((k:Int)==(rws.length:Int))=true:=by simp[he]
 have hd:Y7 rws o=(p,true):=by rw[<-h,he,List.drop_length];rfl
 simp only[go_sem,Gz,hb,hd,opb,opv,Y8,DZ];have hb:((k:Int)==(rws.length:Int))=false:=by simp;omega
 have hka:k<rws.length:=by omega
 have i0:=Ja k
 have i1:(k:Int)<(rws.length:Int):=by omega
 have w1:=wk9 (k:=k) (by omega)
 have hT:=ZkN (rws.getD k Jd) p (hx _ (Ze (d:=Jd) hka)) ok;have okn:=Zpc (x:=rws.getD k Jd) ok;rw[Zlx hka,UQ]at h;cases hz:(Wu (rws.getD k Jd) p).2
 ·rw[if_pos hz]at h;simp only[go_sem,Gz,hb];refine vDq ?_;simp only[go_sem,Zdd hka,lns,i0,i1,Y8,opv];refine vc6 hT ?_;simp only[go_sem,opb,opv,hz,<-h,DZ];try rfl
 rw[if_neg (by rw[hz];simp)]at h;simp only[go_sem,Gz,hb];refine vDq ?_;simp only[go_sem,Zdd hka,lns,i0,i1,Y8,opv];refine vc6 hT ?_;simp only[go_sem,opb,opv,hz,w1,DZ];exact⟨⟨k+1,(Wu (rws.getD k Jd) p).1,by omega,okn,h⟩,nx9 (by omega),⟨rfl,(Fc4 rfl rfl rfl rfl),Fc2 ⟨rfl,rfl⟩ ⟨rfl,rfl⟩,fnl⟩⟩;simp only[go_sem];refine vc6 hW ?_;simp only[go_sem,opv];exact YQ (cut ⟨0,o,Jg _,ho,rfl⟩ _ ⟨rfl,(Fc4 rfl rfl rfl rfl),Fc2 ⟨rfl,rfl⟩ ⟨rfl,rfl⟩,fnl⟩)
theorem Zhx (m:List Eg) (o:Opn) (a b:Tg) (hm:OkM m) (hr:RightM m) (ho:OkOp o):Pp 163 [tr (Zd m),opv o,tg a,tg b] (opb (ZnE m a b o)):=by
 have hR:=ZnZ m a b hm hr;obtain⟨hrl,hro⟩:=Zqr (a:=a) (b:=b) hm;have hA:=Zgw (DV m a b).1 o hrl hro ho;have hc2:(DV m a b).2=Wd m a b:=by unfold DV;split<;>simp_all
 unfold ZnE;by_cases hc:Wd m a b=0;rw[if_neg (λh=>h hc)];rw[hc]at hc2;generalize DV m a b=rw0 at *;obtain⟨rws,c0⟩:=rw0;simp only at hc2 hrl hro hA ⊢;subst hc2;cases hz:(Y7 rws o).2
 ·simp only[if_true];refine ZA func163 rfl ntmps163 results163 (Zn _) ?_;simp only[go_sem,tr,tg,opv];refine vc5 hR ?_;simp only[go_sem,Zim,Gz];refine Yh hA ?_ ?_ ?_;iterate 2 simp only[go_sem,Gz,opv]
  simp only[go_sem,opb,opv,hz];try rfl
 ·simp only[Bool.true_eq_false,if_false];refine ZA func163 rfl ntmps163 results163 (Zn _) ?_;simp only[go_sem,tr,tg,opv];refine vc5 hR ?_;simp only[go_sem,Zim,Gz];refine Yh hA ?_ ?_ ?_;iterate 2 simp only[go_sem,Gz,opv]
  simp only[go_sem,opb,opv,hz,Zrk]
 have hc':(Wd m a b !=0)=true:=by simpa using hc
 rw[if_pos hc];refine ZA func163 rfl ntmps163 results163 (Zn _) ?_;simp only[go_sem,tr,tg,opv];refine vc5 hR ?_;simp only[go_sem,Zim,Gz,hc2,hc',opb,Zv];try rfl
def TN (x:SeenT):PV:= .tup [opv x.o,.bool x.ok,.int .i64 x.c]
theorem WT (x:SeenT):(TN x).dids= []:=by simp only[TN,PV.dids,PV.didsL,GD,Jh]
theorem DR {m:List Eg} {a:Tg} (hm:OkM m) (hu:upC m a=0):OkFs (Ys (Zd m) a).1:=by
 obtain⟨wa,fa,_⟩:=YN hu;exact Zmo _ (λe he=>hm.l e (wa.mem e he)) Zfm fa
theorem ZkT (m:List Eg) (o:Opn) (b:Tg) (hm:OkM m) (hr:RightM m) (ho:OkOp o):Pp 111 [tr (Zd m),opv o,tg b] (TN (toT m o b)):=by
 have hR:=SA o ho.len;have hSa:=X0 m o.sch hm;have hSb:=X0 m b hm;have hA:=Zhx m o o.sch b hm hr ho;cases h1:X9 o
 ·rw[h1]at hR;have ht:toT m o b=⟨Jd,false,5⟩:=by simp[toT,Xm,h1]
  rw[ht];refine ZA func111 rfl ntmps111 results111 (WT _) ?_;simp only[go_sem,tr,tg,opv];refine vc6 hR ?_;simp only[go_sem,TN,Zv];try rfl
 rw[h1]at hR;by_cases h2:upC m o.sch=0;have okA:=DR hm h2;have hF:=Zbt (Ys (Zd m) o.sch).1 o okA ho.len;have v2:(Ys (Zd m) o.sch).2=0:=h2;by_cases h3:upC m b=0;have v3:(Ys (Zd m) b).2=0:=h3;cases h4:Tz (Ys (Zd m) o.sch).1 o
 ·rw[h4]at hF;have ht:toT m o b=⟨Jd,false,16⟩:=by simp[toT,Xm,h1,h2,h3,h4]
  rw[ht];clear ht h4 h2 h3 okA hA;generalize Ys (Zd m) o.sch=ya at *;obtain⟨A,ca⟩:=ya;generalize Ys (Zd m) b=yb at *;obtain⟨B,cb⟩:=yb;simp only at v2 v3 hF;subst v2 v3;refine ZA func111 rfl ntmps111 results111 (WT _) ?_;simp only[go_sem,tr,tg,opv];refine vc6 hR ?_;simp only[go_sem];refine vc5 hSa ?_;simp only[go_sem,ZM,Zi];refine vc5 hSb ?_;simp only[go_sem,ZM,Zi];refine vc6 hF ?_;simp only[go_sem,TN,Zv];try rfl
 rw[h4]at hF;have ht:toT m o b=⟨(ZnE m o.sch b o).1,(ZnE m o.sch b o).2,0⟩:=by simp[toT,Xm,h1,h2,h3,h4]
 rw[ht];clear ht h4 h2 h3 okA;generalize ZnE m o.sch b o=yw at *;obtain⟨wq,wk⟩:=yw;generalize Ys (Zd m) o.sch=ya at *;obtain⟨A,ca⟩:=ya;generalize Ys (Zd m) b=yb at *;obtain⟨B,cb⟩:=yb;simp only at v2 v3 hF;subst v2 v3;refine ZA func111 rfl ntmps111 results111 (WT _) ?_;simp only[go_sem,tr,tg,opv];refine vc6 hR ?_;simp only[go_sem];refine vc5 hSa ?_;simp only[go_sem,ZM,Zi];refine vc5 hSb ?_;simp only[go_sem,ZM,Zi];refine vc6 hF ?_;simp only[go_sem];refine vcn hA ?_;simp only[go_sem,opb,opv,TN]
 ·have v3:((Ys (Zd m) b).2 !=0)=true:=by have h':(Ys (Zd m) b).2≠0:=h3;simpa using h'
  have ht:toT m o b=⟨Jd,false,(Ys (Zd m) b).2⟩:=by
   have e:upC m b=(Ys (Zd m) b).2:=rfl;rw[<-e];simp[toT,Xm,h1,h2,h3]
  rw[ht];clear ht h2 h3 okA hA;generalize Ys (Zd m) o.sch=ya at *;obtain⟨A,ca⟩:=ya;generalize Ys (Zd m) b=yb at *;obtain⟨B,cb⟩:=yb;simp only at v2 v3 hF;subst v2;refine ZA func111 rfl ntmps111 results111 (WT _) ?_;simp only[go_sem,tr,tg,opv];refine vc6 hR ?_;simp only[go_sem];refine vc5 hSa ?_;simp only[go_sem,ZM,Zi];refine vc5 hSb ?_;simp only[go_sem,ZM,Zi,v3,TN,Zv];try rfl
 have v2:((Ys (Zd m) o.sch).2 !=0)=true:=by have h':(Ys (Zd m) o.sch).2≠0:=h2;simpa using h'
 have ht:toT m o b=⟨Jd,false,(Ys (Zd m) o.sch).2⟩:=by
  have e:upC m o.sch=(Ys (Zd m) o.sch).2:=rfl;rw[<-e];simp[toT,Xm,h1,h2]
 rw[ht];clear ht h2 hA;generalize Ys (Zd m) o.sch=ya at *;obtain⟨A,ca⟩:=ya;simp only at v2;refine ZA func111 rfl ntmps111 results111 (WT _) ?_;simp only[go_sem,tr,tg,opv];refine vc6 hR ?_;simp only[go_sem];refine vc5 hSa ?_;simp only[go_sem,ZM,Zi,v2,TN,Zv];try rfl
theorem Zgy (m:List Eg) (o:Opn) (hm:OkM m) (ho:OkOp o):Pp 109 [tr (Zd m),opv o] (.bool (Vi m o)):=by
 have hR:=SA o ho.len;have hSa:=X0 m o.sch hm;unfold Vi;cases h1:X9 o;rw[h1]at hR;refine ZH func109 rfl ntmps109 results109 ?_;simp only[go_sem,tr,opv];refine vc6 hR ?_;simp only[go_sem,Jk];rw[h1]at hR;by_cases h2:upC m o.sch=0;have hF:=Zbt (Ys (Zd m) o.sch).1 o (DR hm h2) ho.len;rw[decide_eq_true h2];have v2:(Ys (Zd m) o.sch).2=0:=h2;generalize Ys (Zd m) o.sch=ya at *;obtain⟨A,ca⟩:=ya;simp only at v2 hF;subst v2;refine ZH func109 rfl ntmps109 results109 ?_;simp only[go_sem,tr,opv];refine vc6 hR ?_;simp only[go_sem,tg];refine vc5 hSa ?_;simp only[go_sem,ZM,Zi];refine vc6 hF ?_;simp only[go_sem,JP];have v2:((Ys (Zd m) o.sch).2==0)=false:=by have h':(Ys (Zd m) o.sch).2≠0:=h2;simpa using h'
 rw[decide_eq_false h2];refine ZH func109 rfl ntmps109 results109 ?_;simp only[go_sem,tr,opv];refine vc6 hR ?_;simp only[go_sem,tg];refine vc5 hSa ?_;simp only[go_sem,ZM,Zi,v2,Jk,Jp]
open Go.PL Go.PL.Srt
def Va (m:List Eg) (l:List Opn):List Opn:=l.filter λo=>Vi m o
def WD (l:List Opn) (t:Tg):Bool:=l.any λo=>decide (t∈o.drops)
def Ge (m:List Eg) (l:List Opn):List Opn:=(Va m l).filter λo=> !WD (Va m l) o.id
def Wp (m:List Eg) (l:List Opn):List Opn:=srt Z4 (Ge m l)
theorem Zaz (m:List Eg) (l:List Opn):(Va m l).Sublist l:=JN
theorem TZ (m:List Eg) (l:List Opn):(Ge m l).Sublist l:=JN.trans (Zaz m l)
theorem ZhC {l:List Opn} (h:(l.map Opn.id).Nodup):Unl Z4 l:=by
 rw[List.nodup_iff_pairwise_ne,List.pairwise_map]at h;exact h.imp λh=>Zms h
theorem Zah (m:List Eg) (l:List Opn):(Wp m l).Perm (Ge m l):=YU _
theorem Sd (m:List Eg) (l:List Opn):(Wp m l).length<=l.length:=by rw[(Zah m l).length_eq];exact(TZ m l).length_le
theorem Zil {m:List Eg} {l:List Opn} {o:Opn} (h:o∈Wp m l):o∈l:=(TZ m l).mem ((Zah m l).mem_iff.1 h)
theorem ZeR (t:Tg):∀(l:List Tg) (i:Nat),UW [.int,.int] [.int .i64 t.r,.int .i64 t.n] (l.map tg) i=some ((l.findIdx? λx=>decide (t=x)).map (· + i))
 | [],i=>rfl
 |n::l,i=>by
  have ih:=ZeR t l (i+1);simp only[J2,tg,UW,ZO,Uw,if_true,JQ,J3,ZN];by_cases h:t=n;simp[h];simp only[h,decide_false,ih];simp only[Js,if_false,JW];congr 2;funext x;simp;omega
theorem WM (t:Tg) (l:List Tg):UW [.int,.int] [.int .i64 t.r,.int .i64 t.n] (l.map tg) 0=some (l.findIdx? λx=>decide (t=x)):=by
 rw[ZeR];congr 1;cases J4 (λx=>decide (t=x)) l<;>rfl
theorem T9 {t:Tg} {l:List Tg}:(l.findIdx? λx=>decide (t=x))=none↔t∉l:=by
 rw[JD];constructor;intro h hm;have:=h t hm;simp at this;intro h x hx;simp only[decide_eq_false_iff_not];intro e;exact h (e▸hx)
theorem Zj9 (m:List Eg) {l:List Opn} {k:Nat} (h:k<l.length):Va m (l.take (k+1))=Va m (l.take k)++(if Vi m (l.getD k Jd)=true then [l.getD k Jd]else []):=by
 unfold Va;rw[ZW (d:=Jd) h,Jt];congr 1;generalize l.getD k Jd=x;cases hr:Vi m x;rw[Jl (by rw[hr];simp),if_neg (by simp)];rfl;rw[Jm (by exact hr),if_pos rfl];rfl
structure LivS (m:List Eg) (l:List Opn) where
 k:Nat
 ks:List Tg
 hk:k<=l.length
 h:∀t,t∈ks↔WD (Va m (l.take k)) t=true
def tgm (ks:List Tg):MapC:=⟨ks.map tg,ks.map λ_=> .agg []⟩
theorem ZjC (l:List Opn) (o:Opn) (t:Tg):WD (l++ [o]) t=true↔WD l t=true\/t∈o.drops:=by simp[WD]
theorem Zcv {i:Nat} {l:List Tg}:(l.map λ_=>J9 []).set i (J9 [])=l.map λ_=>J9 []:=by
 apply List.ext_getElem;simp;intro j h1 h2;rw[List.getElem_set];split<;>simp
theorem Zca (m:List Eg) (l:List Opn) (hm:OkM m) (hl:l.length<=100000) (ho:∀o∈l,OkOp o) (hU:(l.map Opn.id).Nodup):
  Eff prog 68 [tr (Zd m),Zq l] noV (.vsl 63 (Wp m l).length 15) (Zgb 63 (Wp m l).length 15 62 ((Wp m l).map opv)):=by
 have hcl:∀l:List Opn,∀p∈l.map opv,p.ids= []:=λl=>YM X2 l
 refine Eff.vn [63] func68 (by decide) rfl ntmps68 results68 (by simp) (hcl _) (by simp[Jn,tr,Zq]) (by simp[Jn]) ?_;have hlm:l.length<=maxLen:=by rw[Zb];omega
 simp only[go_sem,tr,Zq];intro b;refine YO 5 32 15 62 rfl rfl ?_;refine Xa (ι:=LivS m l) 68 (λx=> [(0,tr (Zd m)),(5,.sl (.row 32) ((Va m (l.take x.k)).map opv)),(6,.mref b),(19,Zq l),(20,.int .i64 (l.length:Int)),(21,.int .i64 (x.k:Int))]) (λ_=> []) (λx=> [(32,.live (Va m (l.take x.k)).length 15 62)]) (λx=> [(b,tgm x.ks)]) (λ_=> []) (λ_=> []) (λ_=> []) [] [] [63] (λx=>l.length-x.k) ⟨0,[],Jg _,λt=>by simp[WD,Va]⟩
  (Zb3 rfl (Fc6 rfl rfl rfl rfl rfl rfl) rfl (by simp[upd,Hp.setq,St.with,tgm])) (λx=>ZiT (Fc6 rfl rfl rfl rfl rfl rfl)) (λx=> ?_)
 obtain⟨k,ks,hk,h⟩:=x;simp only;by_cases hlt:(k:Int)<(l.length:Int);have hka:k<l.length:=by omega
 have i0:=Ja k
 have w1:=wk9 (k:=k) (by omega)
 have hR:=Zgy m (l.getD k Jd) hm (ho _ (Zs hka));have hsn:=Zj9 m hka;have hrl:(Va m (l.take k)).length<=100000:=Ju (Ju (Zaz _ _).length_le (Jv _ _)) (by omega);cases hrd:Vi m (l.getD k Jd);rw[hrd]at hR;rw[hrd]at hsn;simp only[Js,if_false,Jh]at hsn;simp only[go_sem,Zq,hlt,Zl hka,opv,i0];refine vc7 hR ?_;simp only[go_sem,w1];exact⟨⟨k+1,ks,by omega,λt=>by rw[hsn];exact h t⟩,nx9 (by omega),Zb3 rfl (by simp only;rw[hsn];exact(Fc6 rfl rfl rfl rfl rfl rfl)) (by simp only;rw[hsn];rfl) (by simp[upd,Hp.setq,St.with,mkStX,Yz])⟩;rw[hrd]at hR;rw[hrd]at hsn;simp only[if_true]at hsn;have hrm:=Yb (show(Va m (l.take k)).length+1<=1000000 by omega) (show 176<=1000 by omega);have hdl:=(ho (l.getD k Jd) (Zs hka)).d;generalize hx:l.getD k Jd=x at *;have hsz:=Yx (Va m (l.take k));have hsx:Sized 15 [opv x]:=Yx [x];have hax:Xw [opv x]:=Wi [x];have hml:((Va m (l.take k)).map opv).length=(Va m (l.take k)).length:=Jb _;simp only[opv]at hsx hax;simp only[go_sem,Zq,hlt,Zl hka,hx,opv,i0];refine vc7 hR ?_;simp only[go_sem,hml,hrm,hsz,hsx,hax];refine Xa (ι:= { jk:Nat×List Tg // jk.1<=x.drops.length/\ ∀t,t∈jk.2↔(WD (Va m (l.take k)) t=true\/t∈x.drops.take jk.1) }) 68 (λy=> [(0,tr (Zd m)),(5,.sl (.row 32) ((Va m (l.take k)++ [x]).map opv)),(6,.mref b),(19,Zq l),(20,.int .i64 (l.length:Int)),(21,.int .i64 (k:Int)),(34,tgs x.drops),(35,.int .i64 (x.drops.length:Int)),(36,.int .i64 (y.1.1:Int))]) (λ_=> []) (λy=> [(32,.live ((Va m (l.take k)).length+1) 15 62)]) (λy=> [(b,tgm y.1.2)]) (λ_=> []) (λ_=> []) (λ_=> []) [] [] [63] (λy=>x.drops.length-y.1.1) ⟨(0,ks),Jg _,λt=>by rw[h t];simp⟩
  (Zb3 rfl (by rw[Jc];exact(Fc9 rfl rfl rfl rfl rfl rfl rfl rfl rfl)) rfl (by simp[upd,Hp.setq,St.with,mkStX,Yz])) (λy=>ZiT (Fc9 rfl rfl rfl rfl rfl rfl rfl rfl rfl)) (λy=> ?_)
 obtain⟨⟨j,ks'⟩,hj,h'⟩:=y;simp only at hj h' ⊢;by_cases hjt:(j:Int)<(x.drops.length:Int);have hja:j<x.drops.length:=by omega
 have j0:=Ja j
 have w2:=wk9 (k:=j) (by omega)
 have hmem:∀t,t∈x.drops.take (j+1)↔t∈x.drops.take j\/t=x.drops.getD j Jd:=λt=>by rw[ZW (d:=Jd) hja];simp
 generalize ht:x.drops.getD j Jd=t at *;cases hf:ks'.findIdx? (λy=>decide (t=y))with
 |none=>
  simp only[go_sem,tgs,hjt,ZK hja,ht,tg,j0,tgm,WM,hf,w2];refine⟨⟨(j+1,ks'++ [t]),hja,λu=> ?_⟩,nx9 (by omega),Zb3 rfl (Fc9 rfl rfl rfl rfl rfl rfl rfl rfl rfl) rfl (by simp[upd,Hp.setq,St.with,mkStX,Yz,tgm,tg])⟩;rw[hmem,Jz,h',Je,or_assoc]
 |some i=>
  simp only[go_sem,tgs,hjt,ZK hja,ht,tg,j0,tgm,WM,hf,w2];have hin:t∈ks':=JE.1 λhn=>by rw[T9.2 hn]at hf;cases hf
  refine⟨⟨(j+1,ks'),hja,λu=> ?_⟩,nx9 (by omega),Zb3 rfl (Fc9 rfl rfl rfl rfl rfl rfl rfl rfl rfl) rfl (by simp[upd,Hp.setq,St.with,mkStX,Yz,tgm,Zcv])⟩;rw[hmem,<-or_assoc,<-h'];constructor
  ·exact .inl
  ·rintro (e|e)
   ·exact e
   ·rw[e];exact hin
 obtain rfl:j=x.drops.length:=by omega
 rw[JF]at h';simp only[go_sem,hjt,w1];refine⟨⟨k+1,ks',by omega,λt=>by rw[hsn,ZjC];exact h' t⟩,nx9 (by omega),Zb3 rfl (by simp only;rw[hsn];exact(Fc6 rfl rfl rfl rfl rfl rfl)) (by simp only;rw[hsn,Jj];rfl) (by simp[upd,Hp.setq,St.with,mkStX,Yz])⟩;obtain rfl:k=l.length:=by omega
 rw[JF]at h;simp only[go_sem,hlt,JF];generalize hrd:Va m l=rd at *;have hrl:rd.length<=100000:=by rw[<-hrd];exact Ju (Zaz _ _).length_le hl
 have hal:Ge m l=rd.filter λo=> !WD rd o.id:=by unfold Ge;rw[hrd]
 refine ZbH 11 63 15 62 rfl rfl ?_;refine Xa (ι:= { k:Nat // k<=rd.length }) 68 (λy=> [(6,.mref b),(11,.vsl 63 ((rd.take y.1).filter λo=> !WD rd o.id).length 15),(45,.sl (.row 32) (rd.map opv)),(46,.int .i64 (rd.length:Int)),(47,.int .i64 (y.1:Int))]) (λ_=> []) (λy=> [(63,.vec ((rd.take y.1).filter λo=> !WD rd o.id).length 15 62),(32,.live rd.length 15 62)]) (λy=> [(b,tgm ks)]) (λ_=> []) (λy=> [(63,((rd.take y.1).filter λo=> !WD rd o.id).map opv)]) (λ_=> []) [] [] [63] (λy=>rd.length-y.1) ⟨0,Jg _⟩
  (Zdf rfl (Fc5 rfl rfl rfl rfl rfl) rfl rfl rfl (by simp[upd,Hp.setq,St.with,mkStX,Yz,tgm])) (λy=>ZnK (by simp[Jn,JM,ZG]) (Yk X2 _)) (λy=> ?_)
 obtain⟨k,hk⟩:=y;simp only;by_cases hlt2:(k:Int)<(rd.length:Int);have hka:k<rd.length:=by omega
 have i0:=Ja k
 have w1:=wk9 (k:=k) (by omega)
 have hsn:(rd.take (k+1)).filter (λo=> !WD rd o.id)=(rd.take k).filter (λo=> !WD rd o.id)++(if WD rd (rd.getD k Jd).id=true then []else [rd.getD k Jd]):=by
  rw[ZW (d:=Jd) hka,Jt];congr 1;generalize rd.getD k Jd=x;cases hr:WD rd x.id;rw[Jm (by rw[hr];rfl),if_neg (by simp)];rfl;rw[Jl (by rw[hr];simp),if_pos rfl];rfl
 have hfl:((rd.take k).filter λo=> !WD rd o.id).length<=k:=Ju (Jf _ _) (Jv _ _);have hrm:=Yb (show((rd.take k).filter λo=> !WD rd o.id).length+1<=1000000 by omega) (show 176<=1000 by omega);generalize hx:rd.getD k Jd=x at *;generalize hal2:(rd.take k).filter (λo=> !WD rd o.id)=al at *;have hml:(al.map opv).length=al.length:=Jb _;have hai:∀p∈al.map opv,p.ids= []:=hcl al;cases hf:ks.findIdx? (λy=>decide (x.id=y))with
 |none=>
  have hd:WD rd x.id=false:=by
   rw[Bool.eq_false_iff];exact λhh=>T9.1 hf ((h _).2 hh)
  rw[hd,if_neg (by simp)]at hsn;simp only[go_sem,Zq,hlt2,Zl hka,hx,opv,i0,tgm,tg,WM,hf,w1,hml,hrm];refine⟨λp hp=>by rw[Je.1 hp];exact⟨rfl,rfl⟩,λp hp=>by rw[Je.1 hp];exact X2 x,λp hp=> ?_,⟨k+1,by omega⟩,nx9 (by omega),Zdf rfl ?_ ?_ rfl ?_ ?_⟩
  ·rcases Jz.1 hp with hp|hp
   ·rw[hai p hp];simp
   ·rw[Je.1 hp];simp[Jn,JM]
  ·simp only;rw[hsn,Jj];exact(Fc5 rfl rfl rfl rfl rfl)
  ·simp only;rw[hsn,Jj];rfl
  ·simp only;rw[hsn,Jc];rfl
  ·simp[upd,Hp.setq,St.with,mkStX,Yz,Zoh]
 |some i=>
  have hd:WD rd x.id=true:=(h _).1 (JE.1 λhn=>by rw[T9.2 hn]at hf;cases hf);rw[hd,if_pos rfl,Jh]at hsn;have hik:i<ks.length:=(JB.1 hf).1;have hgd:(ks.map λ_=>J9 []).getD i .any= .agg []:=by rw[getD_lt (by simpa using hik)];simp
  simp only[go_sem,Zq,hlt2,Zl hka,hx,opv,i0,tgm,tg,WM,hf,w1,hgd];refine⟨⟨k+1,by omega⟩,nx9 (by omega),Zdf rfl ?_ ?_ rfl ?_ ?_⟩
  ·simp only;rw[hsn];exact(Fc5 rfl rfl rfl rfl rfl)
  ·simp only;rw[hsn];rfl
  ·simp only;rw[hsn];rfl
  ·simp[upd,Hp.setq,St.with,mkStX,Yz]
 have htk:rd.take k=rd:=Jo (by omega);have hSS:=Sv ops_sort 62 (Ge m l).length (by have:=(TZ m l).length_le;omega) (Ge m l) (ZhC (List.Nodup.sublist ((TZ m l).map _) hU)) rfl _ rfl;rw[hal]at hSS;simp only[go_sem,Zq,hlt2,htk];refine YY 63 hSS (by simp[Jn,JM]) (hcl _) (hcl _) rfl rfl rfl ?_;simp only[go_sem];have hlv:Wp m l=srt Z4 (rd.filter λo=> !WD rd o.id):=by unfold Wp;rw[hal]
 have hll:(Wp m l).length=(rd.filter λo=> !WD rd o.id).length:=by rw[hlv,ZQ]
 rw[hll,hlv];exact Zda (r0:= .vsl 63 _ 15) (hcl _) rfl (.keep _ (by intro i hi;simp[Jn]at hi;subst hi;exact⟨_,Je.2 rfl,rfl⟩)) rfl rfl
open Go.PL
def Zpg (a b:Int):PV:=if Y6 a=true/\Y6 b=true then .tup [.cpx .f64 (WC a) (WC b),.int .i64 0]else .tup [.cpx .f64 0 0,.int .i64 3]
theorem ZlD:WC 0=0:=by decide+kernel
theorem ZkP (a b c d:Int) (ha:Lim a) (hb:Lim b) (hc:Lim c) (hd:Lim d):Pp 165 [.cpx .f64 (WC a) (WC b),.cpx .f64 (WC c) (WC d)] (Zpg (a+c) (b+d)):=by
 have hW1:=G7 a b ha hb;have hW2:=G7 c d hc hd;have hP1:=TX a b ha hb;have hP2:=TX c d hc hd;have hO:=Zgg (a+c) (b+d);have w1:IntKind.i64.wrap (a+c)=a+c:=w64 (by obtain⟨_,_⟩:=ha;obtain⟨_,_⟩:=hc;omega);have w2:IntKind.i64.wrap (b+d)=b+d:=w64 (by obtain⟨_,_⟩:=hb;obtain⟨_,_⟩:=hd;omega);unfold Zpg;generalize Y6 (a+c)=x at *;generalize Y6 (b+d)=y at *;by_cases h:x=true/\y=true;rw[if_pos h]at hO ⊢;refine ZH func165 rfl ntmps165 results165 ?_;simp only[go_sem];refine vc1 hW1 ?_;simp only[go_sem];refine vc1 hW2 ?_;simp only[go_sem];refine vc1 hP1 ?_;simp only[go_sem];refine vc1 hP2 ?_;simp only[go_sem,w1,w2];refine vc1 hO ?_;simp only[go_sem];rw[if_neg h]at hO ⊢;refine ZH func165 rfl ntmps165 results165 ?_;simp only[go_sem];refine vc1 hW1 ?_;simp only[go_sem];refine vc1 hW2 ?_;simp only[go_sem];refine vc1 hP1 ?_;simp only[go_sem];refine vc1 hP2 ?_;simp only[go_sem,w1,w2];refine vc1 hO ?_;simp only[go_sem]
def Su (s:Int) (o:Opn):Int:=if o.kind=3/\Y6 o.delta=true/\Y6 (s+o.delta)=true then s+o.delta else s
def Zng (l:List Opn):Int:=l.foldl Su 0
theorem Zm7 {s:Int} {o:Opn} (h:Lim s):Lim (Su s o):=by
 unfold Su;split;rename_i h2;exact Wm.1 h2.2.2;exact h
theorem ZdO:∀(l:List Opn) {s:Int},Lim s->Lim (l.foldl Su s)
 | [],s,h=>h
 |o::l,s,h=>ZdO l (Zm7 h)
theorem ZsL:Lim 0:=by unfold Lim;omega
theorem Znh {l:List Opn} {k:Nat} (h:k<l.length):Zng (l.take (k+1))=Su (Zng (l.take k)) (l.getD k Jd):=by
 unfold Zng;rw[ZW (d:=Jd) h,List.foldl_append];rfl
theorem Zkp (l:List Opn) (hl:l.length<=maxLen):Pp 114 [Zq l] (.int .i64 (Zng l)):=by
 have f0:Y6 0=true:=by decide
 have hP:=TX (Zng l) 0 (ZdO l ZsL) ZsL;have hl2:=hl;rw[Zb]at hl2;refine ZH func114 rfl ntmps114 results114 ?_;simp only[go_sem,Zq];refine Zt (ι:= { k:Nat // k<=l.length }) 47 (λx=> [(3,.cpx .f64 (WC (Zng (l.take x.1))) (WC 0)),(13,Zq l),(14,.int .i64 (l.length:Int)),(15,.int .i64 (x.1:Int))]) (λx=> []) (λx=> []) (λx=>l.length-x.1) ⟨0,Jg _⟩
  ⟨rfl,Fc4 (by show PV.cpx .f64 0 0=PV.cpx .f64 (WC 0) (WC 0);rw[ZlD]) rfl rfl rfl,fnl,fnl⟩ (λx=>⟨(Fc4 rfl rfl rfl rfl),fnl⟩) (λx=> ?_)
 obtain⟨k,hk⟩:=x;simp only;by_cases h:(k:Int)<(l.length:Int);have hka:k<l.length:=by omega
 have i1:=Ja k
 have w1:=wk9 (k:=k) (by omega)
 have hsn:=Znh hka;have hs:Lim (Zng (l.take k)):=ZdO _ ZsL;generalize Zng (l.take k)=s at *;generalize hx:l.getD k Jd=x at *;by_cases k3:x.kind=3;have e3:(x.kind !=3)=false:=by simpa using k3
 have hO:=Zgg x.delta 0;cases f1:Y6 x.delta;rw[f1]at hO;have hz:Su s x=s:=by unfold Su;rw[if_neg (by rw[f1];simp)]
 rw[hz]at hsn;simp only[Js,false_and,if_false]at hO;simp only[go_sem,Zq,h,Zl hka,hx,opv,i1,e3];refine vc1 hO ?_;simp only[go_sem,w1];exact⟨⟨k+1,by omega⟩,nx9 (by omega),⟨rfl,Fc4 (by simp only;rw[hsn];rfl) rfl rfl rfl,fnl,fnl⟩⟩;have hd:Lim x.delta:=Wm.1 f1;rw[f1,f0]at hO;simp only[and_self,if_true]at hO;have hPl:=ZkP s 0 x.delta 0 hs ZsL hd ZsL;cases f2:Y6 (s+x.delta);have hz:Su s x=s:=by unfold Su;rw[if_neg (by rw[f2];simp)]
 rw[hz]at hsn;unfold Zpg at hPl;rw[f2]at hPl;simp only[Js,false_and,if_false]at hPl;simp only[go_sem,Zq,h,Zl hka,hx,opv,i1,e3];refine vc1 hO ?_;simp only[go_sem];refine vc1 hPl ?_;simp only[go_sem,w1];exact⟨⟨k+1,by omega⟩,nx9 (by omega),⟨rfl,Fc4 (by simp only;rw[hsn];rfl) rfl rfl rfl,fnl,fnl⟩⟩;have hz:Su s x=s+x.delta:=by unfold Su;rw[if_pos ⟨k3,f1,f2⟩]
 rw[hz]at hsn;unfold Zpg at hPl;rw[f2,show Y6 (0+0)=true by decide]at hPl;simp only[and_self,if_true,J5]at hPl;simp only[go_sem,Zq,h,Zl hka,hx,opv,i1,e3];refine vc1 hO ?_;simp only[go_sem];refine vc1 hPl ?_;simp only[go_sem,w1];exact⟨⟨k+1,by omega⟩,nx9 (by omega),⟨rfl,Fc4 (by simp only;rw[hsn];rfl) rfl rfl rfl,fnl,fnl⟩⟩;have e3:(x.kind !=3)=true:=by simpa using k3
 have hz:Su s x=s:=by unfold Su;rw[if_neg (λhh=>k3 hh.1)]
 rw[hz]at hsn;simp only[go_sem,Zq,h,Zl hka,hx,opv,i1,e3,w1];exact⟨⟨k+1,by omega⟩,nx9 (by omega),⟨rfl,Fc4 (by simp only;rw[hsn];rfl) rfl rfl rfl,fnl,fnl⟩⟩;have htk:l.take k=l:=Jo (by omega);simp only[go_sem,Zq,h,htk];refine vc1 hP ?_;simp only[go_sem]
def Z5 (l:List Opn):List Str:=(l.filter λo=>o.kind==4&&o.has).map Opn.text
theorem Zhy {l:List Opn} {k:Nat} (h:k<l.length):Z5 (l.take (k+1))=Z5 (l.take k)++(if((l.getD k Jd).kind==4&&(l.getD k Jd).has)=true then [(l.getD k Jd).text]else []):=by
 unfold Z5;rw[ZW (d:=Jd) h,Jt,Jc];congr 1;generalize l.getD k Jd=x;cases hr:(x.kind==4&&x.has);rw[Jl (by rw[hr];simp),if_neg (by simp)];rfl;rw[Jm (by exact hr),if_pos rfl];rfl
theorem So (l:List Opn):(Z5 l).length<=l.length:=by unfold Z5;rw[Jb];exact Jf _ _
def ZdU (f:Fd) (ops:List Opn):En:=
 if f.kind=1 then⟨f.at',Zng ops,(YK f).l⟩
 else⟨f.at',0,if f.kind=4 then Z5 ops else if(Z5 ops).length=0 then(YK f).l else [(Z5 ops).getD ((Z5 ops).length-1) []]⟩
theorem Zkx (f:Fd) (l:List Opn) (hl:l.length<=100000):Pp 72 [fld f,Zq l] (ent (ZdU f l)):=by
 have hV:=Zjq f;have hlm:l.length<=maxLen:=by rw[Zb];omega
 have hT:=Zkp l hlm;have hva:(YK f).at'=f.at':=rfl;have hvn:(YK f).n=0:=rfl;unfold ZdU;generalize YK f=v at *;obtain⟨va,vn,vl⟩:=v;simp only at hva hvn;subst hva hvn;by_cases k1:f.kind=1;have e1:(f.kind==1)=true:=by simpa using k1
 rw[if_pos k1];refine ZA func72 rfl ntmps72 results72 (Xe _) ?_;simp only[go_sem,fld,Zq];refine vc2 hV ?_;simp only[go_sem,ent,e1];refine vc7 hT ?_;simp only[go_sem,ent];have e1:(f.kind==1)=false:=by simpa using k1
 rw[if_neg k1];refine ZA func72 rfl ntmps72 results72 (Xe _) ?_;simp only[go_sem,fld,Zq];refine vc2 hV ?_;simp only[go_sem,ent,e1];refine YO 6 35 1 9 rfl rfl ?_;refine Zt (ι:= { x:Nat // x<=(l).length }) 56 (λx=> [(2,.ptr 2 0),(4,.ptr 4 0),(5,.ptr 5 0),(6,.sl (.row 35) ((Z5 (l.take x.1)).map .str)),(18,Zq l),(19,.int .i64 (l.length:Int)),(20,.int .i64 (x.1:Int))]) (λx=> [(2,[.int .i64 f.at'.sc,.str f.at'.gr,.str f.at'.nm,.int .i64 f.kind,.str f.df,.sl .no (f.cases'.map .str),.int .i64 f.worth],false),(4,[.int .i64 0,.str [],.str [],.int .i64 0,.sl .nil []],false),(5,[.int .i64 f.at'.sc,.str f.at'.gr,.str f.at'.nm,.int .i64 0,.sl .no (vl.map .str)],false)]) (λx=> [(35,.live ((Z5 (l.take x.1)).length) (1) (9))]) (λx=>(l).length-x.1) ⟨0,Jg _⟩ ⟨rfl,(Fc7 rfl rfl rfl rfl rfl rfl rfl),(Fc3 ⟨rfl,rfl⟩ ⟨rfl,rfl⟩ ⟨rfl,rfl⟩),(fcs rfl fnl)⟩ (λx=>⟨(Fc7 rfl rfl rfl (by simp[Jn,ZG]) rfl rfl rfl),(Fc3 rfl rfl rfl)⟩) (λx=> ?_);obtain⟨k,hk⟩:=x;simp only at hk ⊢;by_cases h:(k:Int)<(l.length:Int)
 (have hka:k<(l).length:=by omega);(have w1:=Xb hka (hlm));(have i1:=Ja k)
 have hsn:=Zhy hka;have hnl:=So (l.take k);have htl:(l.take k).length<=k:=Jv _ _;have hrm:=Yb (show(Z5 (l.take k)).length+1<=1000000 by omega) (show 16<=1000 by omega);have hml:((Z5 (l.take k)).map PV.str).length=(Z5 (l.take k)).length:=Jb _;have hsz:=Dw (Z5 (l.take k));generalize hx:l.getD k Jd=x at *;cases k1:(x.kind==4);rw[k1,Jk,if_neg (by simp),Jh]at hsn;simp only[go_sem,Zq,h,Zl hka,hx,opv,i1,k1,w1];exact⟨⟨k+1,by omega⟩,nx9 (by omega),⟨rfl,by simp only;rw[hsn];exact(Fc7 rfl rfl rfl rfl rfl rfl rfl),(Fc3 ⟨rfl,rfl⟩ ⟨rfl,rfl⟩ ⟨rfl,rfl⟩),by simp only;rw[hsn];exact fcs rfl fnl⟩⟩;cases k2:x.has;rw[k1,k2,Jp,if_neg (by simp),Jh]at hsn;simp only[go_sem,Zq,h,Zl hka,hx,opv,i1,k1,k2,w1];exact⟨⟨k+1,by omega⟩,nx9 (by omega),⟨rfl,by simp only;rw[hsn];exact(Fc7 rfl rfl rfl rfl rfl rfl rfl),(Fc3 ⟨rfl,rfl⟩ ⟨rfl,rfl⟩ ⟨rfl,rfl⟩),by simp only;rw[hsn];exact fcs rfl fnl⟩⟩;rw[k1,k2,Jw,if_pos rfl]at hsn;simp only[go_sem,Zq,h,Zl hka,hx,opv,i1,k1,k2,w1,hml,hsz,hrm];exact⟨⟨k+1,by omega⟩,nx9 (by omega),⟨rfl,by simp only;rw[hsn,Jc];exact(Fc7 rfl rfl rfl rfl rfl rfl rfl),(Fc3 ⟨rfl,rfl⟩ ⟨rfl,rfl⟩ ⟨rfl,rfl⟩),by simp only;rw[hsn,Jj];exact fcs rfl fnl⟩⟩;have htk:l.take k=l:=Jo (by omega);rw[htk];have hnl:=So l;by_cases k4:f.kind=4;have e4:(f.kind==4)=true:=by simpa using k4
 rw[if_pos k4];simp only[go_sem,Zq,h,e4,ent];have e4:(f.kind==4)=false:=by simpa using k4
 rw[if_neg k4];have hml:((Z5 l).map PV.str).length=(Z5 l).length:=Jb _;by_cases k5:(Z5 l).length=0;have e5:¬(0:Int)<((Z5 l).length:Int):=by omega
 rw[if_pos k5];simp only[go_sem,Zq,h,e4,ent,hml,e5];have e5:(0:Int)<((Z5 l).length:Int):=by omega
 have w5:IntKind.i64.wrap (((Z5 l).length:Int)-1)=(((Z5 l).length-1:Nat):Int):=by rw[w64 (by omega)];omega
 have hlt:(Z5 l).length-1<(Z5 l).length:=by omega
 have b5:(0:Int)<=(((Z5 l).length-1:Nat):Int)/\(((Z5 l).length-1:Nat):Int)<((Z5 l).length:Int):=by omega
 rw[if_neg k5];simp only[go_sem,Zq,h,e4,ent,hml,e5,w5,b5.1,b5.2,ZV hlt]
open Go.PL Go.PL.Srt
theorem ZiW (m:List Eg) (l:List Opn) (hm:OkM m) (hl:l.length<=100000) (ho:∀o∈l,OkOp o) (hU:(l.map Opn.id).Nodup):Pp 78 [tr (Zd m),Zq l] (Zq (Wp m l)):=by
 have hcl:∀l:List Opn,∀p∈l.map opv,p.ids= []:=λl=>YM X2 l
 have hL:=Zca m l hm hl ho hU;have hll:=Sd m l;have hlo:∀o∈Wp m l,OkOp o:=λo h=>ho o (Zil h)
 generalize Wp m l=A at *;refine PL.Pure.of_p [] func78 (by decide) rfl ntmps78 results78 (by simp) (VQ _) ?_;simp only[go_sem,tr,Zq];refine GS 10 hL (hcl _) (by simp[Jn,tr,Zq]) rfl rfl ?_;simp only[go_sem,PV.ren,id];refine Xa (ι:= { k:Nat // k<=A.length }) 25 (λx=> [(5,.vsl 10 A.length 15),(11,.vsl 10 A.length 15),(12,.int .i64 (A.length:Int)),(13,.int .i64 (x.1:Int))]) (λ_=> []) (λ_=> [(10,.vec A.length 15 62)]) (λ_=> []) (λ_=> []) (λ_=> [(10,A.map opv)]) (λ_=> []) [] [] [] (λx=>A.length-x.1) ⟨0,Jg _⟩
  (Dm rfl (Fc4 rfl rfl rfl rfl) rfl rfl) (λx=>Za3 (by simp[Jn,JM,ZG]) (Yk X2 _)) (λx=> ?_)
 obtain⟨k,hk⟩:=x;simp only;by_cases h:(k:Int)<(A.length:Int);have hka:k<A.length:=by omega
 have i0:=Ja k
 have w1:=wk9 (k:=k) (by omega)
 have hO:=Zd8 (A.getD k Jd) (hlo _ (Zs hka));have hset:(A.map opv).set k (opv (A.getD k Jd))=A.map opv:=by
  rw[Ud];congr 1;rw[getD_lt hka];exact JH hka
 simp only[opv]at hset;simp only[go_sem,h,i0,Zl hka,opv];refine vc6 hO ?_;simp only[go_sem,h,i0,Zl hka,opv,hset,w1];exact⟨⟨k+1,by omega⟩,nx9 (by omega),Dm rfl (Fc4 rfl rfl rfl rfl) rfl rfl⟩;simp only[go_sem,h];exact⟨_,rfl,Ka (by simp) rfl (Jb _) (hcl _)⟩
def YW (m:List Eg) (l:List Opn) (b:Tg):List Opn:=(l.filter λo=>(toT m o b).c==0&&(toT m o b).ok).map λo=>(toT m o b).o
theorem Zct (m:List Eg) {l:List Opn} (b:Tg) {k:Nat} (h:k<l.length):YW m (l.take (k+1)) b=YW m (l.take k) b++(if((toT m (l.getD k Jd) b).c==0&&(toT m (l.getD k Jd) b).ok)=true then [(toT m (l.getD k Jd) b).o]else []):=by
 unfold YW;rw[ZW (d:=Jd) h,Jt,Jc];congr 1;generalize l.getD k Jd=x;cases hr:((toT m x b).c==0&&(toT m x b).ok);rw[Jl (by rw[hr];simp),if_neg (by simp)];rfl;rw[Jm (by exact hr),if_pos rfl];rfl
theorem UE (m:List Eg) (l:List Opn) (b:Tg):(YW m l b).length<=l.length:=by unfold YW;rw[Jb];exact Jf _ _
theorem Zjp (m:List Eg) (l:List Opn) (b:Tg) (hm:OkM m) (hr:RightM m) (hl:l.length<=100000) (ho:∀o∈l,OkOp o):Pp 69 [tr (Zd m),Zq l,tg b] (Zq (YW m l b)):=by
 have hlm:l.length<=maxLen:=by rw[Zb];omega
 refine ZA func69 rfl ntmps69 results69 (VQ _) ?_;simp only[go_sem,tr,Zq,tg];refine YO 7 35 15 62 rfl rfl ?_;refine Zt (ι:= { x:Nat // x<=(l).length }) 38 (λx=> [(0,tr (Zd m)),(5,.ptr 5 0),(7,.sl (.row 35) ((YW m (l.take x.1) b).map opv)),(13,Zq l),(14,.int .i64 (l.length:Int)),(15,.int .i64 (x.1:Int))]) (λx=> [(5,[.int .i64 b.r,.int .i64 b.n],false)]) (λx=> [(35,.live ((YW m (l.take x.1) b).length) (15) (62))]) (λx=>(l).length-x.1) ⟨0,Jg _⟩ ⟨rfl,(Fc6 rfl rfl rfl rfl rfl rfl),(fcs ⟨rfl,rfl⟩ fnl),(fcs rfl fnl)⟩ (λx=>⟨(Fc6 rfl rfl (by simp[Jn,ZG]) rfl rfl rfl),(fcs rfl fnl)⟩) (λx=> ?_);obtain⟨k,hk⟩:=x;simp only at hk ⊢;by_cases h:(k:Int)<(l.length:Int)
 (have hka:k<(l).length:=by omega);(have w1:=Xb hka (hlm));(have i1:=Ja k)
 have hT:=ZkT m (l.getD k Jd) b hm hr (ho _ (Zs hka));have hsn:=Zct m b hka;have hsl:=UE m (l.take k) b;have htl:(l.take k).length<=k:=Jv _ _;have hrm:=Yb (show(YW m (l.take k) b).length+1<=1000000 by omega) (show 176<=1000 by omega);have hml:((YW m (l.take k) b).map opv).length=(YW m (l.take k) b).length:=Jb _;have hsz:=Yx (YW m (l.take k) b);generalize toT m (l.getD k Jd) b=y at *;obtain⟨yo,yk,yc⟩:=y;have hsx:Sized 15 [opv yo]:=Yx [yo];have hax:Xw [opv yo]:=Wi [yo];generalize hx:l.getD k Jd=x at *;simp only at hsn;simp only[opv]at hsx hax;cases k1:(yc==0);rw[k1,Jk,if_neg (by simp),Jh]at hsn;simp only[go_sem,Zq,h,Zl hka,hx,opv,i1];refine vc7 hT ?_;simp only[go_sem,TN,opv,k1,w1];exact⟨⟨k+1,by omega⟩,nx9 (by omega),⟨rfl,by simp only;rw[hsn];exact(Fc6 rfl rfl rfl rfl rfl rfl),fcs ⟨rfl,rfl⟩ fnl,by simp only;rw[hsn];exact fcs rfl fnl⟩⟩;cases yk;rw[k1,Jp,if_neg (by simp),Jh]at hsn;simp only[go_sem,Zq,h,Zl hka,hx,opv,i1];refine vc7 hT ?_;simp only[go_sem,TN,opv,k1,w1];exact⟨⟨k+1,by omega⟩,nx9 (by omega),⟨rfl,by simp only;rw[hsn];exact(Fc6 rfl rfl rfl rfl rfl rfl),fcs ⟨rfl,rfl⟩ fnl,by simp only;rw[hsn];exact fcs rfl fnl⟩⟩;rw[k1,Jw,if_pos rfl]at hsn;simp only[go_sem,Zq,h,Zl hka,hx,opv,i1];refine vc7 hT ?_;simp only[go_sem,TN,opv,k1,w1,hml,hsz,hrm,hsx,hax];exact⟨⟨k+1,by omega⟩,nx9 (by omega),⟨rfl,by simp only;rw[hsn,Jc];exact(Fc6 rfl rfl rfl rfl rfl rfl),fcs ⟨rfl,rfl⟩ fnl,by simp only;rw[hsn,Jj];exact fcs rfl fnl⟩⟩;have htk:l.take k=l:=Jo (by omega);simp only[go_sem,Zq,h,htk]
open Go.PL Go.PL.Srt
structure Sp where
 item:Str
 at':Rf
 deriving DecidableEq,Inhabited
def spv (s:Sp):PV:= .agg [.str s.item,.int .i64 s.at'.sc,.str s.at'.gr,.str s.at'.nm]
def spO (o:Opn):Sp:=⟨o.item,o.at'⟩
def Yi (seen:List Opn) (s:Sp):List Opn:=seen.filter λo=>decide (spO o=s)
theorem Zrl (a b:Sp):(a.item==b.item&&(a.at'.sc==b.at'.sc&&(a.at'.gr==b.at'.gr&&a.at'.nm==b.at'.nm)))=decide (a=b):=by
 obtain⟨i1,r1⟩:=a;obtain⟨i2,r2⟩:=b;cases r1;cases r2;rw[Bool.eq_iff_iff];simp
theorem ZeQ (s:Sp):∀(l:List Sp) (i:Nat),UW [.str,.int,.str,.str] [.str s.item,.int .i64 s.at'.sc,.str s.at'.gr,.str s.at'.nm] (l.map spv) i=some ((l.findIdx? λx=>decide (s=x)).map (· + i))
 | [],i=>rfl
 |n::l,i=>by
  have ih:=ZeQ s l (i+1);simp only[J2,spv,UW,ZO,Uw,if_true,JQ,J3,Zrl];by_cases h:s=n;simp[h];simp only[h,decide_false,ih];simp only[Js,if_false,JW];congr 2;funext x;simp;omega
theorem ZbQ (s:Sp) (l:List Sp):UW [.str,.int,.str,.str] [.str s.item,.int .i64 s.at'.sc,.str s.at'.gr,.str s.at'.nm] (l.map spv) 0=some (l.findIdx? λx=>decide (s=x)):=by
 rw[ZeQ];congr 1;cases J4 (λx=>decide (s=x)) l<;>rfl
theorem Zig {t:Sp} {l:List Sp}:(l.findIdx? λx=>decide (t=x))=none↔t∉l:=by
 rw[JD];constructor;intro h hm;have:=h t hm;simp at this;intro h x hx;simp only[decide_eq_false_iff_not];intro e;exact h (e▸hx)
theorem ZlR {t:Sp} {l:List Sp} {i:Nat} (h:(l.findIdx? λx=>decide (t=x))=some i):i<l.length/\l.getD i Jd=t:=by
 obtain⟨h1,h2,_⟩:=JB.1 h;exact⟨h1,by rw[getD_lt h1];exact(of_decide_eq_true h2).symm⟩
theorem ZcE {seen:List Opn} {s:Sp} (h:¬ ∃o∈seen,spO o=s):Yi seen s= []:=by
 unfold Yi;rw[List.filter_eq_nil_iff];intro o ho hd;exact h ⟨o,ho,of_decide_eq_true hd⟩
theorem ZaR (seen:List Opn) (s:Sp):(Yi seen s).length<=seen.length:=Jf _ _
def Ux (F:List Fd) (seen:List Opn) (sc:Int) (item:Str):List En:=(Z8 F sc).map λf=>ZdU f (Yi seen ⟨item,f.at'⟩)
theorem ZlB (F:List Fd) (seen:List Opn) (ks:List Sp) (sc:Int) (item:Str) (hF:OkFs F) (hs:seen.length<=100000) (hks:∀s,s∈ks↔ ∃o∈seen,spO o=s):
  Pp 70 [.int .i64 sc,.str item,.rptr [Zi F],.rptr [.rmap (ks.map spv) (ks.map λs=>Zq (Yi seen s))]] (YG (Ux F seen sc item)):=by
 have hFn:=hF.n;have hSc:=G4 F sc (by omega) hF.c;have hscl:(Z8 F sc).length<=F.length:=Jf _ _;unfold Ux;generalize hA:Z8 F sc=A at *;have hAm:A.length<=maxLen:=by rw[Zb];omega
 have hV:∀f s,Pp 72 [fld f,Zq (Yi seen s)] (ent (ZdU f (Yi seen s))):=λf s=>Zkx f _ (Ju (ZaR _ _) hs)
 refine ZA func70 rfl ntmps70 results70 (Tt _) ?_;simp only[go_sem,Zi];refine vc2 hSc ?_;simp only[go_sem,Zi];refine YO 7 28 5 65 rfl rfl ?_;refine Zt (ι:= { x:Nat // x<=(A).length }) 31 (λx=> [(1,.str item),(3,.rptr [.rmap (ks.map spv) (ks.map λs=>Zq (Yi seen s))]),(7,.sl (.row 28) (((A.take x.1).map λf=>ZdU f (Yi seen ⟨item,f.at'⟩)).map ent)),(12,Zi A),(13,.int .i64 (A.length:Int)),(14,.int .i64 (x.1:Int))]) (λx=> []) (λx=> [(28,.live (x.1) (5) (65))]) (λx=>(A).length-x.1) ⟨0,Jg _⟩ ⟨rfl,(Fc6 rfl rfl rfl rfl rfl rfl),fnl,(fcs rfl fnl)⟩ (λx=>⟨(Fc6 rfl rfl (by simp[Jn,ZG]) rfl rfl rfl),fnl⟩) (λx=> ?_);obtain⟨k,hk⟩:=x;simp only at hk ⊢;by_cases h:(k:Int)<(A.length:Int)
 (have hka:k<(A).length:=by omega);(have w1:=Xb hka (hAm));(have i1:=Ja k)
 have htk:((A.take (k+1)).map λf=>ZdU f (Yi seen ⟨item,f.at'⟩))=((A.take k).map λf=>ZdU f (Yi seen ⟨item,f.at'⟩))++ [ZdU (A.getD k Jd) (Yi seen ⟨item,(A.getD k Jd).at'⟩)]:=by rw[ZW (d:=Jd) hka,Jc];rfl
 have hlk:((A.take k).map λf=>ZdU f (Yi seen ⟨item,f.at'⟩)).length=k:=by simp;omega
 have hrm:=Yb (show k+1<=1000000 by omega) (show 72<=1000 by omega);have hsz:=TO ((A.take k).map λf=>ZdU f (Yi seen ⟨item,f.at'⟩));have hV1:=hV (A.getD k Jd) ⟨item,(A.getD k Jd).at'⟩;have hfp:=ZbQ ⟨item,(A.getD k Jd).at'⟩ ks;have hget:∀i,i<ks.length->(ks.map λs=>Zq (Yi seen s)).getD i .any=Zq (Yi seen (ks.getD i Jd)):=λi hi=>by rw[getD_lt (by simpa using hi),getD_lt hi,List.getElem_map]
 generalize hx:A.getD k Jd=x at *;generalize ((A.take k).map λf=>ZdU f (Yi seen ⟨item,f.at'⟩))=E at *;generalize hv:ZdU x (Yi seen ⟨item,x.at'⟩)=v at *;have hsx:Sized 5 [ent v]:=TO [v];have hax:Xw [ent v]:=Zeu [v];have hml:(E.map ent).length=k:=by rw[Jb];exact hlk
 simp only[ent]at hsx hax;simp only at hfp;cases hf:ks.findIdx? (λy=>decide ((⟨item,x.at'⟩:Sp)=y))with
 |none=>
  rw[hf]at hfp;have hn:Yi seen ⟨item,x.at'⟩= []:=ZcE (λhh=>Zig.1 hf ((hks _).2 hh));rw[hn]at hV1;simp only[go_sem,Zi,h,Zx hka,hx,fld,i1];refine vDq ?_;simp only[go_sem,hfp];refine vc7 hV1 ?_;simp only[go_sem,ent,hsz,hsx,hax,hml,hrm,w1];exact⟨⟨k+1,by omega⟩,nx9 (by omega),⟨rfl,by simp only;rw[htk,Jc];exact(Fc6 rfl rfl rfl rfl rfl rfl),fnl,fcs rfl fnl⟩⟩
 |some i=>
  rw[hf]at hfp;obtain⟨hi,he⟩:=ZlR hf;have hg:=hget i hi;rw[he]at hg;simp only[go_sem,Zi,h,Zx hka,hx,fld,i1];refine vDq ?_;simp only[go_sem,hfp,hg];refine vc7 hV1 ?_;simp only[go_sem,ent,hsz,hsx,hax,hml,hrm,w1];exact⟨⟨k+1,by omega⟩,nx9 (by omega),⟨rfl,by simp only;rw[htk,Jc];exact(Fc6 rfl rfl rfl rfl rfl rfl),fnl,fcs rfl fnl⟩⟩
 have htk:A.take k=A:=Jo (by omega);simp only[go_sem,Zi,h,htk,YG]
open Go.PL
theorem Fu (l:List Fd) (d:Dc) (hl:l.length<=maxLen) (hl':∀f∈l,f.cases'.length<=1000000) (hd:ZnP d):Pp 79 [Zi l,doc d] (.bool (WI l d)):=by
 obtain⟨d1,d2,d3,d4⟩:=hd;have hl2:∀f∈l,f.cases'.length<=maxLen:=λf hf=>by have:=hl' f hf;rw[Zb];omega
 have hR:=UO l hl hl2;cases hr:Z2 l;rw[hr]at hR;have hx:WI l d=false:=by simp only[WI,Zb4,hr,Jk]
 refine ZH func79 rfl ntmps79 results79 ?_;simp only[go_sem,Zi,doc];refine vc2 hR ?_;simp only[go_sem,hx];rw[hr]at hR;have h16:=Zcp hr;have sl:∀sc,(Z8 l sc).length<=maxLen:=λsc=>Ju (Jf _ _) hl
 have sc:∀s,∀f∈Z8 l s,f.cases'.length<=maxLen:=λs f hf=>hl2 f (JG.1 hf).1
 have hS0:=G4 l 0 (by omega) hl';have hS1:=G4 l 1 (by omega) hl';by_cases h4:(400:Int)<(d.rows.length:Int);have hx:WI l d=false:=by simp only[WI,Zb4,h4,decide_true,Bool.not_true,Jk,Jp]
 refine ZH func79 rfl ntmps79 results79 ?_;simp only[go_sem,Zi,doc];refine vc2 hR ?_;simp only[go_sem,h4,hx];have hE:=UC (Z8 l 0) d.head (sl 0) d1 (sc 0) d3;cases he:XV (Z8 l 0) d.head;rw[he]at hE;have hx:WI l d=false:=by simp only[WI,Zb4,he,Jk,Jp]
 refine ZH func79 rfl ntmps79 results79 ?_;simp only[go_sem,Zi,doc];refine vc2 hR ?_;simp only[go_sem,h4];refine vDq ?_;simp only[go_sem,Zi];refine vc2 hS0 ?_;simp only[go_sem,Zi];refine vc2 hE ?_;simp only[go_sem,hx];rw[he]at hE;have hx:WI l d=(JX d.rows.length).all (TL l d.rows):=by simp only[WI,Zb4,hr,h4,he,decide_false,JY,Jw,JP]
 rw[hx];refine ZH func79 rfl ntmps79 results79 ?_;simp only[go_sem,Zi,doc];refine vc2 hR ?_;simp only[go_sem,h4];refine vDq ?_;simp only[go_sem,Zi];refine vc2 hS0 ?_;simp only[go_sem,Zi];refine vc2 hE ?_;simp only[go_sem,Zi];refine vc2 hS1 ?_;simp only[go_sem];refine Zt (ι:= { x:Nat // x<=(d.rows).length/\(∀j,j<x->TL l d.rows j=true) }) 59 (λx=> [(3,.ptr 3 0),(5,Zi (Z8 l 1)),(26,.sl .no (d.rows.map row)),(27,.int .i64 (d.rows.length:Int)),(28,.int .i64 (x.1:Int))]) (λx=> [(3,[.sl .no (d.head.map ent),.sl .no (d.rows.map row)],false)]) (λx=> []) (λx=>(d.rows).length-x.1) ⟨0,Jg _,λj hj=>absurd hj (Nat.not_lt_zero j)⟩ ⟨rfl,(Fc5 rfl rfl rfl rfl rfl),(fcs ⟨rfl,rfl⟩ fnl),fnl⟩ (λx=>⟨(Fc5 rfl rfl (by simp[Jn,ZG]) (by simp[Jn,ZG]) rfl),(fcs (by simp[Jn,JM,ZG]) fnl)⟩) (λx=> ?_);obtain⟨k,hk,hI⟩:=x;simp only at hk hI ⊢;by_cases h:(k:Int)<(d.rows.length:Int)
 (have hka:k<(d.rows).length:=by omega);(have w1:=Xb hka (d2));(have i1:=Ja k)
 have hN:=Xk (d.rows.getD k Jd).item;have rk:=d4 _ (Zs (d:=Jd) hka);have hE1:=UC (Z8 l 1) (d.rows.getD k Jd).l (sl 1) rk.1 (sc 1) rk.2;have gk:=Ze2 hka;cases hn:Ym (d.rows.getD k Jd).item;rw[hn]at hN;have hz:=Z0 (p:=TL l d.rows) hka (by simp only[TL,hn,Jk]);simp only[go_sem,h,gk,row,i1];refine vDq ?_;simp only[go_sem,h,gk,row,i1];refine vc1 hN ?_;simp only[go_sem,hz];rw[hn]at hN;by_cases h0:0<(k:Int);have hk1:k-1<d.rows.length:=by omega
 have gj:=Ze2 hk1;have w2:IntKind.i64.wrap ((k:Int)-1)=((k-1:Nat):Int):=by
  rw[Zb]at d2;rw[w64 (by omega)];omega
 have j1:(0:Int)<=((k-1:Nat):Int):=by omega
 have j2:((k-1:Nat):Int)<(d.rows.length:Int):=by omega
 cases hb:ZS (d.rows.getD (k-1) Jd).item (d.rows.getD k Jd).item;have hz:=Z0 (p:=TL l d.rows) hka (by simp only[TL,hb,decide_eq_false (show ¬k=0 by omega),Bool.or_self,Jp,Jk]);simp only[go_sem,h,gk,row,i1];refine vDq ?_;simp only[go_sem,h,gk,row,i1];refine vc1 hN ?_;simp only[go_sem,h0,w2,gj,gk,row,h,i1,j1,j2,hb,hz];cases hf:XV (Z8 l 1) (d.rows.getD k Jd).l;rw[hf]at hE1;have hz:=Z0 (p:=TL l d.rows) hka (by simp only[TL,hf,Jp]);simp only[go_sem,h,gk,row,i1];refine vDq ?_;simp only[go_sem,h,gk,row,i1];refine vc1 hN ?_;simp only[go_sem,h0,w2,gj,gk,row,h,i1,j1,j2,hb,Zi];refine vc2 hE1 ?_;simp only[go_sem,hz]
 ·rw[hf]at hE1;have ok:TL l d.rows k=true:=by simp only[TL,hn,hb,hf,Bool.or_true,Jw]
  simp only[go_sem,h,gk,row,i1];refine vDq ?_;simp only[go_sem,h,gk,row,i1];refine vc1 hN ?_;simp only[go_sem,h0,w2,gj,gk,row,h,i1,j1,j2,hb,Zi];refine vc2 hE1 ?_;simp only[go_sem,w1];exact⟨⟨k+1,by(try simp only);omega,Zm hI ok⟩,by show(d.rows).length-(k+1)<(d.rows).length-k;omega,⟨rfl,(Fc5 rfl rfl rfl rfl rfl),(fcs ⟨rfl,rfl⟩ fnl),fnl⟩⟩
 have hk0:k=0:=by omega
 cases hf:XV (Z8 l 1) (d.rows.getD k Jd).l;rw[hf]at hE1;have hz:=Z0 (p:=TL l d.rows) hka (by simp only[TL,hf,Jp]);simp only[go_sem,h,gk,row,i1];refine vDq ?_;simp only[go_sem,h,gk,row,i1];refine vc1 hN ?_;simp only[go_sem,h0,gk,row,h,i1,Zi];refine vc2 hE1 ?_;simp only[go_sem,hz]
 ·rw[hf]at hE1;have ok:TL l d.rows k=true:=by simp only[TL,hn,decide_eq_true hk0,hf,Bool.true_or,Jw]
  simp only[go_sem,h,gk,row,i1];refine vDq ?_;simp only[go_sem,h,gk,row,i1];refine vc1 hN ?_;simp only[go_sem,h0,gk,row,h,i1,Zi];refine vc2 hE1 ?_;simp only[go_sem,w1];exact⟨⟨k+1,by(try simp only);omega,Zm hI ok⟩,by show(d.rows).length-(k+1)<(d.rows).length-k;omega,⟨rfl,(Fc5 rfl rfl rfl rfl rfl),(fcs ⟨rfl,rfl⟩ fnl),fnl⟩⟩
 have hz:=W9 (p:=TL l d.rows) (n:=d.rows.length) (λj hj=>hI j (by omega));simp only[go_sem,h,hz]
theorem Wx (l:List Rw):Sized 2 (l.map row):=λe he=>by
 obtain⟨x,_,rfl⟩:=J7.1 he;rfl
open Go.PL
theorem Zc9 (e:En):(ent e).ids= []:=by simp[ent,Jn,JM]
theorem ZcJ (x:En) (l:List En) (hl:(x::l).length<=100000):
  Eff prog 125 [YG (x::l)] noV (.vsl 7 (x::l).length 5) (Zgb 7 (x::l).length 5 65 ((x::l).map ent)):=by
 have hcl:∀l:List En,∀p∈l.map ent,p.ids= []:=λl=>YM Zc9 l
 refine Eff.vn [5,7] func125 (by decide) rfl ntmps125 results125 (by simp) (hcl _) (by simp[Jn,YG]) (by simp[Jn]) ?_;simp only[go_sem,YG];have hm:∀p∈ent x::l.map ent,∃y,p=ent y:=λp hp=>by
  rcases Jy.1 hp with rfl|hp;exact⟨x,rfl⟩;obtain⟨y,_,rfl⟩:=J7.1 hp;exact⟨y,rfl⟩
 have hc:∀p∈ent x::l.map ent,p.ids= []:=λp hp=>by obtain⟨y,rfl⟩:=hm p hp;exact Zc9 y
 have hrm:=Yb (show l.length+1<=1000000 by simp only[JT]at hl;omega) (show 72<=1000 by omega);refine⟨λp hp=>by obtain⟨y,rfl⟩:=hm p hp;exact⟨rfl,rfl⟩,hc,λp hp=>by rw[hc p hp];simp,hrm,?_⟩;exact Zda (r0:= .vsl 7 _ 5) hc rfl (.keep _ (by intro i hi;simp[Jn]at hi;subst hi;exact⟨_,Je.2 rfl,rfl⟩)) rfl rfl
theorem ZcK:Pp 125 [YG []] (YG []):=by
 refine ZA func125 rfl ntmps125 results125 (Tt _) ?_;simp only[go_sem,YG];intro b;cases b;simp only[go_sem,YG];exact Yr (by omega) (by omega);simp only[go_sem,YG]
theorem S6 (l:List En) (hl:l.length<=100000) (hl':∀e∈l,e.l.length<=1000000):Pp 81 [YG l] (YG l):=by
 have hcl:∀l:List En,∀p∈l.map ent,p.ids= []:=λl=>YM Zc9 l
 cases l with
 |nil=>
  have hC:=ZcK;simp only[YG,J8]at hC;refine ZA func81 rfl ntmps81 results81 (Tt _) ?_;simp only[go_sem,YG];refine vc1 hC ?_;simp only[go_sem,YG];refine Zt (ι:= { x:Nat // x<=(([]:List En)).length }) 21 (λx=> [(0,.sl .no []),(7,.sl .no []),(8,.int .i64 0),(9,.int .i64 (x.1:Int))]) (λx=> []) (λx=> []) (λx=>(([]:List En)).length-x.1) ⟨0,Jg _⟩ ⟨rfl,(Fc4 rfl rfl rfl rfl),fnl,fnl⟩ (λx=>⟨(Fc4 rfl rfl rfl rfl),fnl⟩) (λx=> ?_);obtain⟨k,hk⟩:=x;simp only at hk ⊢;have h0:¬(k:Int)<0:=by omega
  simp only[go_sem,h0];simp only[YG,J8]
 |cons x l0=>
  have hC:=ZcJ x l0 hl;generalize hA:x::l0=A at *;refine PL.Pure.of_p [] func81 (by decide) rfl ntmps81 results81 (by simp) (Tt _) ?_;simp only[go_sem,YG];refine GS 6 hC (hcl _) (by simp[Jn,YG]) rfl (by simp only[go_sem,YG]) ?_;simp only[go_sem,PV.ren,id];refine Xa (ι:= { k:Nat // k<=A.length }) 21 (λx=> [(0,.vsl 6 A.length 5),(7,.vsl 6 A.length 5),(8,.int .i64 (A.length:Int)),(9,.int .i64 (x.1:Int))]) (λ_=> []) (λ_=> [(6,.vec A.length 5 65)]) (λ_=> []) (λ_=> []) (λ_=> [(6,A.map ent)]) (λ_=> []) [] [] [] (λx=>A.length-x.1) ⟨0,Jg _⟩
   (Dm rfl (Fc4 rfl rfl rfl rfl) rfl rfl) (λx=>Za3 (by simp[Jn,JM,ZG]) (Yk Zc9 _)) (λx=> ?_)
  obtain⟨k,hk⟩:=x;simp only;by_cases h:(k:Int)<(A.length:Int);have hka:k<A.length:=by omega
  have i0:=Ja k
  have w1:=wk9 (k:=k) (by omega)
  have hO:=Ui (A.getD k Jd) (hl' _ (Zs hka));have hset:(A.map ent).set k (ent (A.getD k Jd))=A.map ent:=by
   rw[Ud];congr 1;rw[getD_lt hka];exact JH hka
  simp only[ent]at hset;simp only[go_sem,h,i0,ZU hka,ent];refine vc1 hO ?_;simp only[go_sem,h,i0,ZU hka,ent,hset,w1];exact⟨⟨k+1,by omega⟩,nx9 (by omega),Dm rfl (Fc4 rfl rfl rfl rfl) rfl rfl⟩;simp only[go_sem,h];exact⟨_,rfl,Ka (by simp) rfl (Jb _) (hcl _)⟩
open Go.PL
def Xu (it:Str) (a b:List En):List Cg:=((JX a.length).filter λi=> !decide (a.getD i Jd=b.getD i Jd)).map λi=>⟨1,it,a.getD i Jd,b.getD i Jd,[]⟩
def Xi (it:Str) (a b:List En) (k:Nat):List Cg:=((JX k).filter λi=> !decide (a.getD i Jd=b.getD i Jd)).map λi=>⟨1,it,a.getD i Jd,b.getD i Jd,[]⟩
theorem DS (it:Str) (a b:List En) (k:Nat):Xi it a b (k+1)=Xi it a b k++(if a.getD k Jd=b.getD k Jd then []else [⟨1,it,a.getD k Jd,b.getD k Jd,[]⟩]):=by
 unfold Xi;rw[List.range_succ,Jt,Jc];congr 1;by_cases h:a.getD k Jd=b.getD k Jd;rw[if_pos h,Jl (by rw[decide_eq_true h];simp)];rfl;rw[if_neg h,Jm (by rw[decide_eq_false h];rfl)];rfl
theorem SS (it:Str) (a b:List En) (k:Nat):(Xi it a b k).length<=k:=by
 unfold Xi;rw[Jb];exact Ju (Jf _ _) (by simp)
theorem Zhg (it:Str) (a b:List En) (hl:a.length<=100000) (hlb:a.length<=b.length) (ha':∀e∈a,e.l.length<=1000000) (hb':∀e∈b,e.l.length<=1000000):Pp 80 [.str it,YG a,YG b] (Zc5 (Xu it a b)):=by
 have hol:a.length<=maxLen:=by rw[Zb];omega
 have hK:Xu it a b=Xi it a b a.length:=rfl;rw[hK];refine ZA func80 rfl ntmps80 results80 (ZeB _) ?_;simp only[go_sem,YG];refine YO 7 35 13 67 rfl rfl ?_;refine Zt (ι:= { x:Nat // x<=(a).length }) 38 (λx=> [(0,.str it),(2,YG b),(7,.sl (.row 35) ((Xi it a b x.1).map chg)),(10,YG a),(11,.int .i64 (a.length:Int)),(12,.int .i64 (x.1:Int))]) (λx=> []) (λx=> [(35,.live ((Xi it a b x.1).length) (13) (67))]) (λx=>(a).length-x.1) ⟨0,Jg _⟩ ⟨rfl,(Fc6 rfl rfl rfl rfl rfl rfl),fnl,(fcs rfl fnl)⟩ (λx=>⟨(Fc6 rfl rfl (by simp[Jn,ZG]) rfl rfl rfl),fnl⟩) (λx=> ?_);obtain⟨k,hk⟩:=x;simp only at hk ⊢;by_cases h:(k:Int)<(a.length:Int)
 (have hka:k<(a).length:=by omega);(have w1:=Xb hka (hol));(have i1:=Ja k)
 have hkb:k<b.length:=by omega
 have h':(k:Int)<(b.length:Int):=by omega
 have hsn:=DS it a b k;have hkl:=SS it a b k;have hE:=Ft (a.getD k Jd) (b.getD k Jd) (by have:=ha' _ (Zs (d:=Jd) hka);rw[Zb];omega) (by have:=hb' _ (Zs (d:=Jd) hkb);rw[Zb];omega);have hO1:=Ui (a.getD k Jd) (ha' _ (Zs hka));have hO2:=Ui (b.getD k Jd) (hb' _ (Zs hkb));have hml:((Xi it a b k).map chg).length=(Xi it a b k).length:=Jb _;have hsz:=UF (Xi it a b k);have hrm:=Yb (show(Xi it a b k).length+1<=1000000 by omega) (show 192<=1000 by omega);by_cases he:a.getD k Jd=b.getD k Jd;rw[decide_eq_true he]at hE;rw[if_pos he,Jh]at hsn;simp only[go_sem,YG,h,ZU hka,ZU hkb,ent,i1,h'];refine vDq ?_;simp only[go_sem,YG,h,ZU hka,ZU hkb,ent,i1,h'];refine vc1 hE ?_;simp only[go_sem,w1];exact⟨⟨k+1,by omega⟩,nx9 (by omega),⟨rfl,by simp only;rw[hsn];exact(Fc6 rfl rfl rfl rfl rfl rfl),fnl,by simp only;rw[hsn];exact fcs rfl fnl⟩⟩;rw[decide_eq_false he]at hE;rw[if_neg he]at hsn;simp only[go_sem,YG,h,ZU hka,ZU hkb,ent,i1,h'];refine vDq ?_;simp only[go_sem,YG,h,ZU hka,ZU hkb,ent,i1,h'];refine vc1 hE ?_;simp only[go_sem];refine vDq ?_;simp only[go_sem,YG,h,ZU hka,ZU hkb,ent,i1,h'];refine vc1 hO1 ?_;simp only[go_sem,YG,h,ZU hka,ZU hkb,ent,i1,h'];refine vc1 hO2 ?_;simp only[go_sem,ent,hml,hsz,hrm,Z6,Xl,w1];exact⟨⟨k+1,by omega⟩,nx9 (by omega),⟨rfl,by simp only;rw[hsn,Jc];exact(Fc6 rfl rfl rfl rfl rfl rfl),fnl,by simp only;rw[hsn,Jj];exact fcs rfl fnl⟩⟩;obtain rfl:k=a.length:=by omega
 simp only[go_sem,Zc5,h]
open Go.PL
theorem Zj3 (it:Str) (a b:List En) (hl:a.length<=100000) (hlb:a.length<=b.length) (ha':∀e∈a,e.l.length<=1000000) (hb':∀e∈b,e.l.length<=1000000):Eff prog 80 [.str it,YG a,YG b] noV (.sl (.row 35) ((Xu it a b).map chg)) (ZkI 35 (Xu it a b).length 13 67):=by
 have hol:a.length<=maxLen:=by rw[Zb];omega
 have hK:Xu it a b=Xi it a b a.length:=rfl;rw[hK];refine Eff.rn [] func80 (by decide) rfl ntmps80 results80 (by simp) (by simp[Jn,YG]) (by simp[Jn]) ?_;simp only[go_sem,YG];refine YO 7 35 13 67 rfl rfl ?_;refine Zt (ι:= { x:Nat // x<=(a).length }) 38 (λx=> [(0,.str it),(2,YG b),(7,.sl (.row 35) ((Xi it a b x.1).map chg)),(10,YG a),(11,.int .i64 (a.length:Int)),(12,.int .i64 (x.1:Int))]) (λx=> []) (λx=> [(35,.live ((Xi it a b x.1).length) (13) (67))]) (λx=>(a).length-x.1) ⟨0,Jg _⟩ ⟨rfl,(Fc6 rfl rfl rfl rfl rfl rfl),fnl,(fcs rfl fnl)⟩ (λx=>⟨(Fc6 rfl rfl (by simp[Jn,ZG]) rfl rfl rfl),fnl⟩) (λx=> ?_);obtain⟨k,hk⟩:=x;simp only at hk ⊢;by_cases h:(k:Int)<(a.length:Int)
 (have hka:k<(a).length:=by omega);(have w1:=Xb hka (hol));(have i1:=Ja k)
 have hkb:k<b.length:=by omega
 have h':(k:Int)<(b.length:Int):=by omega
 have hsn:=DS it a b k;have hkl:=SS it a b k;have hE:=Ft (a.getD k Jd) (b.getD k Jd) (by have:=ha' _ (Zs (d:=Jd) hka);rw[Zb];omega) (by have:=hb' _ (Zs (d:=Jd) hkb);rw[Zb];omega);have hO1:=Ui (a.getD k Jd) (ha' _ (Zs hka));have hO2:=Ui (b.getD k Jd) (hb' _ (Zs hkb));have hml:((Xi it a b k).map chg).length=(Xi it a b k).length:=Jb _;have hsz:=UF (Xi it a b k);have hrm:=Yb (show(Xi it a b k).length+1<=1000000 by omega) (show 192<=1000 by omega);by_cases he:a.getD k Jd=b.getD k Jd;rw[decide_eq_true he]at hE;rw[if_pos he,Jh]at hsn;simp only[go_sem,YG,h,ZU hka,ZU hkb,ent,i1,h'];refine vDq ?_;simp only[go_sem,YG,h,ZU hka,ZU hkb,ent,i1,h'];refine vc1 hE ?_;simp only[go_sem,w1];exact⟨⟨k+1,by omega⟩,nx9 (by omega),⟨rfl,by simp only;rw[hsn];exact(Fc6 rfl rfl rfl rfl rfl rfl),fnl,by simp only;rw[hsn];exact fcs rfl fnl⟩⟩;rw[decide_eq_false he]at hE;rw[if_neg he]at hsn;simp only[go_sem,YG,h,ZU hka,ZU hkb,ent,i1,h'];refine vDq ?_;simp only[go_sem,YG,h,ZU hka,ZU hkb,ent,i1,h'];refine vc1 hE ?_;simp only[go_sem];refine vDq ?_;simp only[go_sem,YG,h,ZU hka,ZU hkb,ent,i1,h'];refine vc1 hO1 ?_;simp only[go_sem,YG,h,ZU hka,ZU hkb,ent,i1,h'];refine vc1 hO2 ?_;simp only[go_sem,ent,hml,hsz,hrm,Z6,Xl,w1];exact⟨⟨k+1,by omega⟩,nx9 (by omega),⟨rfl,by simp only;rw[hsn,Jc];exact(Fc6 rfl rfl rfl rfl rfl rfl),fnl,by simp only;rw[hsn,Jj];exact fcs rfl fnl⟩⟩;obtain rfl:k=a.length:=by omega
 simp only[go_sem,Zc5,h];exact ZqI (r0:= .sl (.row 35) _) rfl (.keep _ (by intro i hi;simp[Jn]at hi;subst hi;exact⟨_,Je.2 rfl,rfl⟩)) rfl
open Go.PL
def ZkC (r:Rw):Cg:=⟨3,r.item,Jd,Jd,r.l⟩
def Zjy (r:Rw):Cg:=⟨2,r.item,Jd,Jd,r.l⟩
def Ug:List Rw->List Rw->List Cg
 | [],[]=> []
 |p::ps,[]=>ZkC p::Ug ps []
 | [],q::qs=>Zjy q::Ug [] qs
 |p::ps,q::qs=>if ZS p.item q.item=true then ZkC p::Ug ps (q::qs)else if ZS q.item p.item=true then Zjy q::Ug (p::ps) qs else Xu q.item p.l q.l++Ug ps qs
termination_by a b=>a.length+b.length
def FQ (l:List Fd) (a b:Dc):List Cg×Int:=if WI l a=false\/WI l b=false then([],5)else(Xu [] a.head b.head++Ug a.rows b.rows,0)
structure DiS (p q:List Rw) (h0:List Cg) where
 i:Nat
 j:Nat
 acc:List Cg
 row:Nat
 hi:i<=p.length
 hj:j<=q.length
 hl:acc.length<=h0.length+16*(i+j)
 h:acc++Ug (p.drop i) (q.drop j)=h0++Ug p q
open Go.PL
def Zvi (x:Ln) (es:List En) (f:Fd):En×Int:=
 if Yw (Zc x) f.at'<0 then(match ZsG es f.at' with|none=>(Jd,5)|some e=>(e,0))else ZxN x f (Yw (Zc x) f.at') es
def ZsA (x:Ln) (es:List En) (f:Fd):Bool:=(Zvi x es f).2 !=0
def Zj6 (x:Ln) (fs:List Fd) (es:List En):List En×Int:=
 match fs.find? (ZsA x es)with
 |some f=>([],(Zvi x es f).2)
 |none=>(fs.map λf=>(Zvi x es f).1,0)
open Go.PL
structure OkDc (d:Dc):Prop where
 h:d.head.length<=100000
 r:d.rows.length<=100000
 e:∀e∈d.head,e.l.length<=1000000
 s:∀r∈d.rows,r.l.length<=100000/\ ∀e∈r.l,e.l.length<=1000000
def ZsB (x:Ln) (fs:List Fd) (r:Rw):Bool:=(Zj6 x fs r.l).2 !=0
def newRow (x:Ln) (fs:List Fd) (r:Rw):Rw:=⟨r.item,(Zj6 x fs r.l).1⟩
def Zq8 (l:List Fd) (x:Ln) (d:Dc):Dc×Int:=
 if(ZT l x).2≠0 then(Jd,(ZT l x).2)else if WI l d=false then(Jd,5)else
 if(Zj6 x (Z8 (ZT l x).1 0) d.head).2≠0 then(Jd,(Zj6 x (Z8 (ZT l x).1 0) d.head).2)else
 match d.rows.find? (ZsB x (Z8 (ZT l x).1 1))with
 |some r=>(Jd,(Zj6 x (Z8 (ZT l x).1 1) r.l).2)
 |none=>(⟨(Zj6 x (Z8 (ZT l x).1 0) d.head).1,d.rows.map (newRow x (Z8 (ZT l x).1 1))⟩,0)
open Go.PL
open Go.PL
theorem ZbT {f:Fd} (hr:ZY f=true) (k1:f.kind≠1) (k3:f.kind≠3) {s:Str}:WN f s=true↔s.length<41:=by
 simp only[WN,hr,k1,k3,if_false,decide_false,JY,Jw,JP,decide_eq_true_eq];omega
open Go.PL
theorem Zm8 {t o:List Pr} (h:Xv t o=true) {s:Str} (hs:UX t s=true):UX o (Xr t s).1=true/\(Xr t s).2=true:=by
 simp only[UX,List.any_eq_true,beq_iff_eq]at hs;obtain⟨p,hp,rfl⟩:=hs;obtain⟨q,hq⟩:∃q,t.find? (λq=>q.fr'==p.fr')=some q:=by
  cases hf:t.find? (λq=>q.fr'==p.fr')with
  |none=>exact absurd (by simp) (List.find?_eq_none.1 hf p hp)
  |some q=>exact⟨q,rfl⟩
 have hqm:=List.mem_of_find?_eq_some hq;have hc:Xr t p.fr'=(q.to',true):=by unfold Xr;rw[hq]
 rw[hc];refine⟨?_,rfl⟩;simp only[Xv,Ji,List.all_eq_true,List.mem_range]at h;obtain⟨i,hi,rfl⟩:=JO hqm;have h1:=h.2 i hi;simp only[Vl,Ji]at h1;have h2:=h1.2.2;rw[getD_lt hi]at h2;exact h2
theorem Ze1 {t:List Pr} {s:Str}:(Yn t).any (· == s)=UX t s:=by
 unfold Yn UX;rw[List.any_map];rfl
open Go.PL
structure FitW (l:List Fd) (o:Opn):Prop where
 f:Z1 o=true-> ∃f,ZJ l o.at'=(f,0)/\(o.kind=3↔f.kind=1)/\(o.kind=4->o.has=true->WN f o.text=true)
 z:Z1 o=false->o.at'=Jd
 w:o.kind=3-> ∃w,Worth l o w
theorem FV {f g:Fd} {s:Str} (h:WN f s=true) (hk:g.kind=f.kind) (hc:g.cases'=f.cases') (hr:ZY g=true):WN g s=true:=by
 simp only[WN,Ji]at h ⊢;rw[hk,hc,hr];exact⟨⟨rfl,h.1.2⟩,h.2⟩
theorem ZbU {f g:Fd} {s:Str} (h:WN f s=true) (f1:f.kind≠1) (f3:f.kind≠3) (g1:g.kind≠1) (g3:g.kind≠3) (hf:ZY f=true) (hr:ZY g=true):WN g s=true:=
 (ZbT hr g1 g3).2 ((ZbT hf f1 f3).1 h)
theorem ZpB {at' nm ot fac fd fo ba} (hx:ZE ⟨8,at',nm,ot,fac,fd,fo,ba⟩=true):Xv fo ba=true/\Xr fo nm=(ot,true):=by
 unfold ZE at hx;simp only[show ¬((8:Int)=2\/(8:Int)=3)by omega,if_false,if_true,Ji]at hx;exact⟨hx.2.2.1,JS (by simpa using hx.2.2.2.2.2.2.1) hx.2.2.2.2.1⟩
theorem ZoJ {l m:List Fd} {x:Ln} {o p:Opn} (ha:ZT l x=(m,0)) (hf:FitW l o) (ho:Wu x o=(p,true)):FitW m p:=by
 obtain⟨hl,hx,cs,l1,e1,e2,e3⟩:=Gi ha;obtain⟨a1,a2,a3,a4,a5⟩:=F7 hl e2;obtain⟨b1,b2,b3,b4,b5⟩:=T4 a1 e3;have hids:=Zpb ho;have hw:p.kind=3-> ∃w,Worth m p w:=λk3=>by
  obtain⟨w,h⟩:=hf.w (by rw[<-hids.2.2];exact k3);exact⟨w,h.over ha ho⟩
 cases hp:Z1 o;rw[Zj4 hx hp]at ho;cases ho;exact⟨(λh=>by rw[hp]at h;cases h),hf.z,hw⟩;obtain⟨f,hfe,h3,h4⟩:=hf.f hp;have pk:=Zfr hp;have hpp:Z1 p=true:=by simp only[Z1,hids.2.2];exact hp
 refine⟨λ_=> ?_,(λh=>by rw[hpp]at h;cases h),hw⟩;have hkd:=(Y9 hx).1;have hm:=(Ya.1 b1).2;have hfl:=W4 (l:=l) (r:=o.at') (by rw[hfe]);rw[hfe]at hfl;simp only at hfl;obtain⟨fm,fa⟩:=hfl;have hfr:=(Ya.1 hl).2.2 f fm;have coming:∀g∈cs,ZJ m g.at'=(g,0):=λg hg=>Xf hm.1 ((b2 g).2 (.inr hg))
 rw[Zhi hx hp]at ho;by_cases hg:Yw (Zy x) o.at'<0;rw[if_pos hg]at ho;cases ho;have hf1:f∈l1:=(a2 f).2 ⟨fm,by rw[fa];exact Zci hg⟩;have hfm:=Xf hm.1 ((b2 f).2 (.inl hf1));rw[fa]at hfm;exact⟨f,hfm,h3,h4⟩;rw[if_neg hg]at ho;have cm:∀(g:Fd) (q:Opn),g∈cs->q=p->q.at'=g.at'->(q.kind=3↔g.kind=1)->(q.kind=4->q.has=true->ZY g=true->WN g q.text=true)-> ∃f,ZJ m p.at'=(f,0)/\(p.kind=3↔f.kind=1)/\(p.kind=4->p.has=true->WN f p.text=true):=λg q hg e1 e2 e3 e4=>by
  subst e1;exact⟨g,by rw[e2];exact coming g hg,e3,λa b=>e4 a b (b3 g hg).1⟩
 clear b4 b5 a3 a4 a5 coming;obtain⟨kind,at',nm,ot,fac,fd,fo,ba⟩:=x;simp only at hkd;rcases hkd with rfl|rfl|rfl|rfl|rfl|rfl|rfl|rfl|rfl|rfl;have hat:at'=o.at':=Y3 (by simpa[Zy]using hg);subst hat;simp[Vn,Zc,hfe]at e1;simp[Zp,Zc]at ho;exact cm ⟨Zh o.at' nm,f.kind,f.df,f.cases',f.worth⟩ _ (by rw[<-e1];simp) ho rfl h3 (λk4 hh hr=>FV (h4 k4 hh) rfl rfl hr);exact absurd (show Yw (Zy ⟨2,at',nm,ot,fac,fd,fo,ba⟩) o.at'<0 from(by decide:(-1:Int)<0)) hg;simp[Zp]at ho;have hat:at'=o.at':=Y3 (by simpa[Zy]using hg);subst hat;simp[Vn,Zc,hfe]at e1;simp[Zp,Zc]at ho;exact cm ⟨⟨o.at'.sc,[],o.at'.nm⟩,f.kind,f.df,f.cases',f.worth⟩ _ (by rw[<-e1];simp) ho rfl h3 (λk4 hh hr=>FV (h4 k4 hh) rfl rfl hr);have hat:at'=o.at':=Y3 (by simpa[Zy]using hg);subst hat;simp[Vn,Zc,hfe]at e1;simp[Zp,Zc]at ho;exact cm ⟨⟨o.at'.sc,nm,o.at'.nm⟩,f.kind,f.df,f.cases',f.worth⟩ _ (by rw[<-e1];simp) ho rfl h3 (λk4 hh hr=>FV (h4 k4 hh) rfl rfl hr);have hat:at'=o.at':=Y3 (by simpa[Zy]using hg);subst hat;simp[Vn,hfe]at e1;have k3:=h3.2 e1.2;simp[Zp,Zc,k3]at ho;exact cm ⟨Zh o.at' nm,1,[],[],f.worth⟩ _ (by rw[<-e1.1];simp) ho rfl (by simp[ZB,k3]) (λh=>by simp[ZB,k3]at h);have hat:at'=o.at':=Y3 (by simpa[Zy]using hg);subst hat;simp[Vn,hfe]at e1;have k4:o.kind=4:=by
  rcases pk with h|h;have:=h3.1 h;omega;exact h
 simp[Zp,Zc,k4]at ho;exact cm ⟨o.at',4,[],[],0⟩ _ (by rw[<-e1.1];simp) ho rfl (by simp[ZB,k4]) (λ_ hh hr=>ZbU (h4 k4 hh) (by omega) (by omega) (by simp) (by simp) hfr hr);have hat:at'=o.at':=Y3 (by simpa[Zy]using hg);subst hat;simp[Vn,hfe]at e1;have k4:o.kind=4:=by
  rcases pk with h|h;have:=h3.1 h;rw[e1.2]at this;simp at this;exact h
 have hg8:(⟨o.at',3,ot,Yn ba,0⟩:Fd)∈cs:=by rw[<-e1.1];simp
 cases hh:o.has;have hcv:Ut o fo=(o.text,true):=by unfold Ut;rw[if_neg (by omega),if_pos hh]
 simp[Zp,Zc,hcv]at ho;exact cm _ _ hg8 ho rfl (by simp[ZB,YV,k4]) (λ_ h=>by simp[ZB,YV,hh]at h);have hcv:Ut o fo=Xr fo o.text:=by unfold Ut;rw[if_neg (by omega),if_neg (by rw[hh];simp)]
 have hft:=h4 k4 hh;have hfr:UX fo o.text=true:=by
  rw[<-Ze1];simp only[WN,Ji]at hft;have:=hft.2;rw[e1.2]at this;simpa using this
 obtain⟨t1,t2⟩:=Zm8 (ZpB hx).1 hfr;simp[Zp,Zc,hcv,t2]at ho;refine cm _ _ hg8 ho rfl (by simp[ZB,YV,k4]) (λ_ _ hr=> ?_);rw[<-Ze1]at t1;simp only[WN,hr,ZB,YV];simpa using t1;simp[Vn,U2]at e1;have hgo:Zy ⟨9,at',nm,ot,fac,fd,fo,ba⟩= [Zh at' nm,Zh at' ot]:=by simp[Zy]
 split at e1;simp at e1;split at e1;simp at e1;rename_i u1 u2;simp only[not_or,JR]at u1 u2;simp only[JV.injEq,and_true]at e1;split at ho;simp at ho;rename_i hb;have k3:o.kind=3:=by
  rcases pk with h|h;exact h;simp[Zp,Y2,h]at hb
 simp only[JV.injEq,and_true]at ho;exact cm ⟨at',1,[],[],(ZJ l (Zh at' nm)).1.worth⟩ _ (by rw[<-e1];simp) ho (by simp[Zc,ZB]) (by simp[ZB,Zp,Z7,k3]) (λh=>by simp[ZB,Zp,Z7,k3]at h);have hat:at'=o.at':=Y3 (by simpa[Zy]using hg);subst hat;simp[Vn,hfe]at e1;have k4:o.kind=4:=by
  rcases pk with h|h;have:=h3.1 h;omega;exact h
 simp[Zp,Zc,k4]at ho;exact cm ⟨o.at',2,ot,[],0⟩ _ (by rw[<-e1.1];simp) ho rfl (by simp[ZB,k4]) (λ_ hh hr=>ZbU (h4 k4 hh) (by omega) (by omega) (by simp) (by simp) hfr hr)
theorem Zpf {o:Opn} (h:X9 o=true) (hp:Z1 o=false):o.at'=Jd:=by
 simp only[X9,Ji,Bool.not_eq_true',JK,Bool.not_eq_false']at h;have h1:=h.1.1;have h2:=of_decide_eq_true h.1.2;rw[h2];simp only[Z1,JK,beq_eq_false_iff_ne]at hp;unfold Xh;split;rfl;split;rfl;split;rename_i h;exact absurd h hp.1;split;rename_i h;exact absurd h hp.2;split;rfl;rfl
theorem ZlC {l:List Fd} {o:Opn} (hl:Z2 l=true) (h:Tz l o=true):FitW l o:=by
 refine⟨λhp=> ?_,λhp=>Zpf (FU h) hp,λk3=>Worth.start h hl k3⟩;obtain⟨f0,f1,f2,f3⟩:=SI h hp;have hfe:ZJ l o.at'=((ZJ l o.at').1,0):=JS rfl f0;exact⟨_,hfe,⟨f1,λhk=>ZeX h hp hfe hk⟩,λk4 hh=>f2 (by omega) hh⟩
theorem ZeV:∀(xs:List Ln) {l m:List Fd} {o p:Opn},SJ xs l=some m->FitW l o->Y7 xs o=(p,true)->FitW m p
 | [],l,m,o,p,hf,h,ho=>by
  simp only[SJ,Option.some.injEq]at hf;simp only[Y7,JV.injEq,and_true]at ho;subst hf ho;exact h
 |x::xs,l,m,o,p,hf,h,ho=>by
  unfold SJ at hf;split at hf;cases hf;rename_i ha;rw[UQ]at ho;split at ho;simp at ho;rename_i hq;exact ZeV xs hf (ZoJ (m:=(ZT l x).1) (JS rfl (JE.1 ha)) h (JS rfl (by simpa using hq))) ho
open Go.PL
open Go.PL
def Zga (l:List Opn):Int:=(l.map Opn.delta).sum
def Sm (l:List Opn):Prop:=∀o∈l,o.kind=3/\ -1099511627776<=o.delta/\o.delta<=1099511627776
theorem ZeK (o:Opn) (l:List Opn):Zga (o::l)=o.delta+Zga l:=by simp[Zga]
theorem Zqu:∀(l:List Opn) (s:Int) (n:Nat),Sm l->n+l.length<=1000-> -1099511627776*(n:Int)<=s->s<=1099511627776*(n:Int)->l.foldl Su s=s+Zga l
 | [],s,n,_,_,_,_=>by simp[Zga]
 |o::l,s,n,h,hn,h1,h2=>by
  obtain⟨k,d1,d2⟩:=h o (by simp);have hn':n+1+l.length<=1000:=by simp at hn;omega
  have e:Su s o=s+o.delta:=by
   unfold Su;rw[if_pos ⟨k,Wm.2 (by unfold Lim;omega),Wm.2 (by unfold Lim;omega)⟩]
  rw[JU,e,Zqu l (s+o.delta) (n+1) (λx hx=>h x (by simp[hx])) hn' (by omega) (by omega),ZeK];omega
theorem Zru {l:List Opn} (h:Sm l) (hn:l.length<=1000):Zng l=Zga l:=by
 unfold Zng;rw[Zqu l 0 0 h (by omega) (by omega) (by omega)];omega
theorem Zh5:∀ {l:List Opn},Sm l-> -1099511627776*(l.length:Int)<=Zga l/\Zga l<=1099511627776*(l.length:Int)
 | [],_=>by simp[Zga]
 |o::l,h=>by
  obtain⟨_,d1,d2⟩:=h o (by simp);have:=Zh5 (l:=l) (λx hx=>h x (by simp[hx]));rw[ZeK,JT];omega
theorem Zpe {f:Fd} (h:ZY f=true):f.at'≠Jd:=λe=>by
 simp only[ZY,Ji]at h;have:=h.1;rw[e]at this;exact absurd this (by decide)
theorem Znc {S:List Opn} {s:Sp} {o:Opn} (h:o∈Yi S s):o∈S/\spO o=s:=by
 unfold Yi at h;rw[JG]at h;exact⟨h.1,of_decide_eq_true h.2⟩
theorem ZpG {l:List Fd} {S:List Opn} {it:Str} (hl:Z2 l=true) (hS:∀o∈S,FitW l o) {f:Fd} (hf:f∈l) (k1:f.kind=1):Sm (Yi S ⟨it,f.at'⟩):=λo ho=>by
 obtain⟨h1,h2⟩:=Znc ho;have hat:o.at'=f.at':=congrArg Sp.at' h2;have hr:=(Ya.1 hl).2;have hp:Z1 o=true:=by
  cases h:Z1 o;exact absurd (hat▸(hS o h1).z h) (Zpe (hr.2 f hf));rfl
 obtain⟨g,g1,g2,_⟩:=(hS o h1).f hp;rw[hat,Xf hr.1 hf]at g1;cases g1;have k3:=g2.2 k1;obtain⟨w,hw⟩:=(hS o h1).w k3;exact⟨k3,hw.delta⟩
open Go.PL
open Go.PL
open Go.PL
def toL:List Ln->List Fd->Dc->Dc×Int
 | [],_,d=>(d,0)
 |x::xs,l,d=>if(Zq8 l x d).2≠0 then(Jd,(Zq8 l x d).2)else toL xs (ZT l x).1 (Zq8 l x d).1
structure ToS (row:List Ln) (l0:List Fd) (d0:Dc) where
 k:Nat
 l:List Fd
 d:Dc
 hk:k<=row.length
 okl:OkFs l
 okd:OkDc d
 h:toL (row.drop k) l d=toL row l0 d0
open Go.PL
theorem Zo7 {l:List Fd} {sc:Int} {f:Fd} (h:f∈Z8 l sc):f∈l/\f.at'.sc=sc:=by
 obtain⟨h1,h2⟩:=JG.1 h;exact⟨h1,by simpa using h2⟩
open Go.PL
open Go.PL
open Go.PL
open Go.PL
def Zeq (s x:Str):Bool:=ZS x s
def WF (l:List Str) (s:Str):Nat:=(l.takeWhile (Zeq s)).length
def Zfw (l:List Str) (s:Str):List Str:=if WF l s<l.length/\(l.getD (WF l s) []==s)=true then l else l.take (WF l s)++ [s]++l.drop (WF l s)
theorem ZmB (l:List Str) (s:Str):WF l s<=l.length:=(List.takeWhile_prefix (Zeq s)).length_le
theorem Zhk:∀(l:List Str) (s:Str) (k:Nat),k<WF l s->ZS (l.getD k []) s=true
 | [],s,k,h=>by simp[WF]at h
 |x::l,s,k,h=>by
  unfold WF at h;rw[JC]at h;by_cases hx:Zeq s x=true;rw[if_pos hx]at h;cases k with
  |zero=>exact hx
  |succ k=>exact Zhk l s k (by simpa[WF]using h)
  rw[if_neg hx]at h;simp at h
theorem Zaw:∀(l:List Str) (s:Str),WF l s<l.length->ZS (l.getD (WF l s) []) s=false
 | [],s,h=>by simp at h
 |x::l,s,h=>by
  by_cases hx:Zeq s x=true;have hp:WF (x::l) s=WF l s+1:=by unfold WF;rw[JC,if_pos hx];rfl
  rw[hp]at h ⊢;exact Zaw l s (by simpa using h);have hp:WF (x::l) s=0:=by unfold WF;rw[JC,if_neg hx];rfl
  rw[hp];have:Zeq s x=false:=by simpa using hx
  exact this
def Zel (l:List Str):Prop:=l.Pairwise λx y=>ZS x y=true
theorem ZjM {l:List Str} {k:Nat} (h:k<l.length):l.drop k=l.getD k []::l.drop (k+1):=by
 rw[List.drop_eq_getElem_cons h,getD_lt h]
theorem Zpj (l:List Str) (s x:Str):x∈Zfw l s↔x∈l\/x=s:=by
 unfold Zfw;by_cases h:WF l s<l.length/\(l.getD (WF l s) []==s)=true;rw[if_pos h];refine⟨.inl,λh'=>h'.elim id λe=> ?_⟩;have e2:l.getD (WF l s) []=s:=by simpa using h.2
 rw[e,<-e2,getD_lt h.1];exact List.getElem_mem h.1;rw[if_neg h];simp only[Jz,Je];constructor;rintro ((h1|h1)|h1);exact .inl (List.mem_of_mem_take h1);exact .inr h1;exact .inl (JJ h1);rintro (h1|h1);rw[<-JI (WF l s) l,Jz]at h1;exact h1.imp .inl id;exact .inl (.inr h1)
theorem ZmD {l:List Str} (hl:Zel l) (s:Str):Zel (Zfw l s):=by
 unfold Zfw;by_cases h:WF l s<l.length/\(l.getD (WF l s) []==s)=true;rw[if_pos h];exact hl;rw[if_neg h];have hsp:=JI (WF l s) l;have ht:∀x∈l.take (WF l s),ZS x s=true:=λx hx=>by
  obtain⟨i,hi,rfl⟩:=JO hx;have hi':i<WF l s:=by have:=hi;rw[List.length_take]at this;omega
  have:=Zhk l s i hi';rw[getD_lt (by have:=ZmB l s;omega)]at this;rw[List.getElem_take];exact this
 have hd:∀x∈l.drop (WF l s),ZS s x=true:=λx hx=>by
  have hlt:WF l s<l.length:=by
   rcases Nat.lt_or_ge (WF l s) l.length with h1|h1;exact h1;rw[List.drop_eq_nil_of_le h1]at hx;cases hx
  have h0:ZS s (l.getD (WF l s) [])=true:=by
   rcases Gk (l.getD (WF l s) []) s with k|k|k;rw[Zaw l s hlt]at k;cases k;exact absurd ⟨hlt,by simpa using k⟩ h;exact k
  have hp:Zel (l.drop (WF l s)):=List.Pairwise.sublist (List.drop_sublist _ _) hl;rw[ZjM hlt]at hx hp;rcases Jy.1 hx with rfl|hx;exact h0;exact Gl h0 ((JA.1 hp).1 x hx)
 unfold Zel at hl ⊢;rw[<-hsp,JL]at hl;rw[List.append_assoc,JL];refine⟨hl.1,?_,λx hx y hy=> ?_⟩;rw[List.singleton_append,JA];exact⟨hd,hl.2.1⟩;rcases Jz.1 hy with h1|h1;rw[Je.1 h1];exact ht x hx;exact hl.2.2 x hx y h1
theorem ZmM:∀ {a b:List Str},Zel a->Zel b->(∀x,x∈a↔x∈b)->a=b
 | [],[],_,_,_=>rfl
 | [],y::b,_,_,h=>by have:=(h y).2 (by simp);cases this
 |x::a,[],_,_,h=>by have:=(h x).1 (by simp);cases this
 |x::a,y::b,ha,hb,h=>by
  have pa:=JA.1 ha;have pb:=JA.1 hb;have hxy:x=y:=by
   rcases Jy.1 ((h x).1 (by simp))with e|e;exact e;rcases Jy.1 ((h y).2 (by simp))with e'|e';exact e'.symm;have h1:=pb.1 x e;have h2:=pa.1 y e';have:=Gl h1 h2;rw[Up]at this;cases this
  subst hxy;congr 1;refine ZmM pa.2 pb.2 λz=> ?_
  have:=h z;simp only[Jy]at this;constructor;intro hz;rcases this.1 (.inr hz)with rfl|h';have:=pa.1 z hz;rw[Up]at this;cases this;exact h';intro hz;rcases this.2 (.inr hz)with rfl|h';have:=pb.1 z hz;rw[Up]at this;cases this;exact h'
theorem ZjG (xs:List Str):∀(l:List Str),Zel l->Zel (xs.foldl Zfw l):=by
 induction xs with
 |nil=>exact λl h=>h
 |cons x xs ih=>exact λl h=>ih _ (ZmD h x)
theorem ZlE (xs:List Str):∀(l:List Str) (y:Str),y∈xs.foldl Zfw l↔y∈l\/y∈xs:=by
 induction xs with
 |nil=>intro l y;simp
 |cons x xs ih=>
  intro l y;rw[JU,ih,Zpj,Jy,or_assoc]
open Go.PL
open Go.ChangeShapes Go.WideShapes Go.ChangeAt Go.RowKit
theorem ZsQ:Zds prog 60=false:=by kernel_rfl
theorem ZsZ {cs:List PV} (h:PT prog 60 cs):∃l:List Tg,cs= [.sl .no (l.map tg)]/\l.length<=maxLen:=by
 obtain⟨l,rfl,h1,h2⟩:=h.slice_inv ZsQ underlying60;obtain⟨xs,rfl,_⟩:=T0 (enc:=tg) (Q:=λ_=>True) (λp hp=>by
  obtain⟨s,rfl⟩:=pa_tag (h2 p hp);exact⟨s,rfl,trivial⟩)
 exact⟨xs,rfl,by simpa using h1⟩
theorem Zvj {p:PV} (h:PA prog 62 p):∃o:Opn,p=opv o/\o.drops.length<=maxLen:=by
 obtain⟨cs,rfl,h1⟩:=PA.agg Zrq h;have h1:PTs prog [25,25,2,9,3,9,27,2,4,9,60] cs:=h1.struct_inv underlying62;obtain⟨a1,b1,rfl,h2,h3⟩:=h1.cons_inv;obtain⟨a2,b2,rfl,h4,h5⟩:=h3.cons_inv;obtain⟨a3,b3,rfl,h6,h7⟩:=h5.cons_inv;obtain⟨a4,b4,rfl,h8,h9⟩:=h7.cons_inv;obtain⟨a5,b5,rfl,h10,h11⟩:=h9.cons_inv;obtain⟨a6,b6,rfl,h12,h13⟩:=h11.cons_inv;obtain⟨a7,b7,rfl,h14,h15⟩:=h13.cons_inv;obtain⟨a8,b8,rfl,h16,h17⟩:=h15.cons_inv;obtain⟨a9,b9,rfl,h18,h19⟩:=h17.cons_inv;obtain⟨aa,ba,rfl,h20,h21⟩:=h19.cons_inv;obtain⟨ab,bb,rfl,h22,h23⟩:=h21.cons_inv;obtain⟨x1,rfl⟩:=Zft h2;obtain⟨x2,rfl⟩:=Zft h4;obtain⟨x3,rfl,_⟩:=h6.int_inv underlying2;obtain⟨x4,rfl,_⟩:=h8.string_inv underlying9;obtain⟨x5,rfl,_⟩:=h10.int_inv underlying3;obtain⟨x6,rfl,_⟩:=h12.string_inv underlying9;obtain⟨x7,rfl⟩:=ZmC h14;obtain⟨x8,rfl,_⟩:=h16.int_inv underlying2;obtain⟨x9,rfl⟩:=h18.bool_inv underlying4;obtain⟨xa,rfl,_⟩:=h20.string_inv underlying9;obtain⟨xb,rfl,kb⟩:=ZsZ h22;rw[h23.nil_inv];exact⟨⟨x1,x2,x3,x4,x5,x6,x7,x8,x9,xa,xb⟩,rfl,kb⟩
open Go.PL
open Go.ChangeShapes Go.WideShapes Go.ChangeAt Go.RowKit
theorem ZsO:Zds prog 23=false:=by kernel_rfl
theorem pa_ops {p:PV} (h:PA prog 23 p):∃l:List Opn,p=Zq l/\l.length<=maxLen:=by
 obtain⟨l,rfl,h1,h2⟩:=h.slice ZsO underlying23;obtain⟨xs,rfl,h3⟩:=T0 (enc:=opv) (Q:=λ_=>True) (λp hp=>by
  obtain⟨s,rfl,_⟩:=Zvj (h2 p hp);exact⟨s,rfl,trivial⟩)
 exact⟨xs,rfl,by simpa using h1⟩
theorem lenLn {x:Ln} (h:LenLn' x):LenLn x:=⟨h.c,h.f,h.b⟩
end Go.Proofs.YtadgngamdofhiaaGreat
