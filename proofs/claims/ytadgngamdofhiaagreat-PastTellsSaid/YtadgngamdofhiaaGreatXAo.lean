/- Lemmas of the proof. -/
import Derived.Test.YtadgngamdofhiaaGreatPlH
import Derived.Test.YtadgngamdofhiaaGreatXAa
open Inhabited renaming default→Jd
open Option renaming some→Hs
open Bool renaming true→Ht,false→Hf
open Go.Proofs.Tryz
open Go Go.PL
open Bool renaming true_eq_false→Ji,and_eq_true→Jk,true_and→Jl,false_and→Jz,and_false→JA,not_eq_true'→JM,and_self→JQ
open Decidable renaming byContradiction→J6
open Int renaming natCast_nonneg→Jf,reduceEq→Jr,toNat_natCast→JE
open List renaming append_nil→Ja,map_cons→Jc,pairwise_iff_getElem→Je,getElem_map→Jg,getD_cons_zero→Jh,getElem_mem→Jj,mem_singleton→Jm,mem_map→Jn,mem_append→Jo,getElem_of_mem→Jp,map_nil→Jq,nodup_iff_pairwise_ne→Js,findIdx?_eq_some_iff_getElem→Jt,mem_of_find?_eq_some→Ju,nodup_cons→Jv,mem_cons→Jw,length_append→Jy,length_cons→JC,mem_append_right→JF,drop_length→JG,pairwise_cons→JJ,find?_eq_none→JK,findIdx?_eq_none_iff→JL,nodup_append→JP,length_eraseIdx_le→JR,ext_getElem→JT,mem_append_left→JU,find?_append→JW,not_mem_nil→JX,cons_append→JY,take_length→JZ,map_append→J3,range→J4,find?_map→J5,map_map→J7,length→J9
open Nat renaming zero_le→Jb,lt_trichotomy→JO,le_trans→JV,sub_sub→Ka
open Option renaming map_some→JD,bind_some→JH,getD_some→JI,bind_eq_some_iff→JS,some→J2
open PV renaming didsL→JB,dids→JN,ids→J8
namespace Go.Proofs.YtadgngamdofhiaaGreat
set_option maxHeartbeats 64000000
set_option maxRecDepth 20000
set_option linter.unusedVariables false
set_option linter.unusedSimpArgs false
open Go.PL
def XT (l:List Fd) (rs:List Rw) (i:Nat):Bool:=
 (Yj (rs.getD i Jd).item&&(decide (i=0)||ZH (rs.getD (i-1) Jd).item (rs.getD i Jd).item))&&Yr (ZY l 1) (rs.getD i Jd).l
def T4 (l:List Fd) (d:Dc):Bool:=Z5 l&&(!decide (400<(d.rows.length:Int))&&Yr (ZY l 0) d.head)
def YB (l:List Fd) (d:Dc):Bool:=T4 l d&&(J4 d.rows.length).all (XT l d.rows)
theorem Fe {l:List Fd} (h:Z5 l=Ht):l.length<=16:=by
 simp only[Z5,Jk,JM,decide_eq_false_iff_not]at h;omega
theorem Fu (l:List Fd) (d:Dc) (hl:l.length<=maxLen) (hl':∀f∈l,f.cases'.length<=maxLen) (hd:ZoX d):Pp 84 [Zh l,doc d] (.bool (YB l d)):=by
 obtain⟨d1,d2,d3,d4⟩:=hd;have hR:=Uo l hl hl';cases hr:Z5 l;rw[hr]at hR;have hx:YB l d=false:=by simp only[YB,T4,hr,Jz]
 refine ZM func84 rfl ntmps84 results84 ?_;simp only[go_sem,Zh,doc];refine vDq ?_;simp only[go_sem];refine vc2 hR ?_;simp only[go_sem,hx];rw[hr]at hR;have h16:=Fe hr;have sl:∀sc,(ZY l sc).length<=maxLen:=λsc=>JV (List.length_filter_le _ _) hl
 have sc:∀s,∀f∈ZY l s,f.cases'.length<=maxLen:=λs f hf=>hl' f (List.mem_filter.1 hf).1
 have hS0:=S8 l 0 (by omega);have hS1:=S8 l 1 (by omega);by_cases h4:(400:Int)<(d.rows.length:Int);have hx:YB l d=false:=by simp only[YB,T4,h4,decide_true,Bool.not_true,Jz,JA]
 refine ZM func84 rfl ntmps84 results84 ?_;simp only[go_sem,Zh,doc];refine vDq ?_;simp only[go_sem];refine vc2 hR ?_;simp only[go_sem,h4,hx];have hE:=GC (ZY l 0) d.head (sl 0) d1 (sc 0) d3;cases he:Yr (ZY l 0) d.head;rw[he]at hE;have hx:YB l d=false:=by simp only[YB,T4,he,Jz,JA]
 refine ZM func84 rfl ntmps84 results84 ?_;simp only[go_sem,Zh,doc];refine vDq ?_;simp only[go_sem];refine vc2 hR ?_;simp only[go_sem,h4];refine vc2 hS0 ?_;simp only[go_sem,Zh];refine vc2 hE ?_;simp only[go_sem,hx];rw[he]at hE;have hx:YB l d=(J4 d.rows.length).all (XT l d.rows):=by simp only[YB,T4,hr,h4,he,decide_false,Bool.not_false,JQ,Jl]
 rw[hx];refine ZM func84 rfl ntmps84 results84 ?_;simp only[go_sem,Zh,doc];refine vDq ?_;simp only[go_sem];refine vc2 hR ?_;simp only[go_sem,h4];refine vc2 hS0 ?_;simp only[go_sem,Zh];refine vc2 hE ?_;simp only[go_sem];refine vc2 hS1 ?_;simp only[go_sem];refine Zs (ι:= { k:Nat // k<=d.rows.length/\ ∀j,j<k->XT l d.rows j=Ht }) 73 (λx=> [(3,.ptr 3 0),(5,Zh (ZY l 1)),(6,.int .i64 (x.1:Int))]) (λx=> [(3,[.sl .no (d.head.map ent),.sl .no (d.rows.map row)],Hf)]) (λx=> []) (λx=>d.rows.length-x.1) ⟨0,by omega,λj hj=>by omega⟩
  ⟨rfl,(Fc3 rfl rfl rfl),fcs ⟨rfl,rfl⟩ fnl,fnl⟩ (λx=>⟨(Fc3 rfl rfl rfl),(fcs rfl fnl)⟩) (λx=> ?_)
 obtain⟨k,hk,hall⟩:=x;simp only;by_cases h:(k:Int)<(d.rows.length:Int);have hka:k<d.rows.length:=by omega
 have w1:=Xi hka d2;have i1:=Jf k
 have hN:=Y7 (d.rows.getD k Jd).item;have rk:=d4 _ (Zp (d:=Jd) hka);have hE1:=GC (ZY l 1) (d.rows.getD k Jd).l (sl 1) rk.1 (sc 1) rk.2;cases hn:Yj (d.rows.getD k Jd).item;rw[hn]at hN;have hz:=ZU (p:=XT l d.rows) hka (by simp only[XT,hn,Jz]);simp only[go_sem,h];refine vDq ?_;simp only[go_sem,Yx hka,row,h,i1];refine vc1 hN ?_;simp only[go_sem,hz];rw[hn]at hN;by_cases h0:0<(k:Int);have hk1:k-1<d.rows.length:=by omega
 have w2:IntKind.i64.wrap ((k:Int)-1)=((k-1:Nat):Int):=by
  rw[Zb]at d2;rw[w64 (by omega)];omega
 have j1:(0:Int)<=((k-1:Nat):Int):=by omega
 have j2:((k-1:Nat):Int)<(d.rows.length:Int):=by omega
 cases hb:ZH (d.rows.getD (k-1) Jd).item (d.rows.getD k Jd).item;have hz:=ZU (p:=XT l d.rows) hka (by simp only[XT,hb,decide_eq_false (show ¬k=0 by omega),Bool.or_self,JA,Jz]);simp only[go_sem,h];refine vDq ?_;simp only[go_sem,Yx hka,row,h,i1];refine vc1 hN ?_;simp only[go_sem,h0,w2,Yx hk1,Yx hka,row,h,i1,j1,j2,hb,hz];cases hf:Yr (ZY l 1) (d.rows.getD k Jd).l;rw[hf]at hE1;have hz:=ZU (p:=XT l d.rows) hka (by simp only[XT,hf,JA]);simp only[go_sem,h];refine vDq ?_;simp only[go_sem,Yx hka,row,h,i1];refine vc1 hN ?_;simp only[go_sem,h0,w2,Yx hk1,Yx hka,row,h,i1,j1,j2,hb,Zh];refine vc2 hE1 ?_;simp only[go_sem,hz];rw[hf]at hE1;have ok:XT l d.rows k=true:=by simp only[XT,hn,hb,hf,Bool.or_true,JQ]
 simp only[go_sem,h];refine vDq ?_;simp only[go_sem,Yx hka,row,h,i1];refine vc1 hN ?_;simp only[go_sem,h0,w2,Yx hk1,Yx hka,row,h,i1,j1,j2,hb,Zh];refine vc2 hE1 ?_;simp only[go_sem,w1];exact⟨⟨k+1,by omega,Zm hall ok⟩,nx9 (by omega),⟨rfl,(Fc3 rfl rfl rfl),fcs ⟨rfl,rfl⟩ fnl,fnl⟩⟩;cases hf:Yr (ZY l 1) (d.rows.getD k Jd).l;rw[hf]at hE1;have hz:=ZU (p:=XT l d.rows) hka (by simp only[XT,hf,JA]);simp only[go_sem,h];refine vDq ?_;simp only[go_sem,Yx hka,row,h,i1];refine vc1 hN ?_;simp only[go_sem,h0,Yx hka,row,h,i1,Zh];refine vc2 hE1 ?_;simp only[go_sem,hz];rw[hf]at hE1;have ok:XT l d.rows k=true:=by simp only[XT,hn,hf,decide_eq_true (show k=0 by omega),Bool.true_or,JQ]
 simp only[go_sem,h];refine vDq ?_;simp only[go_sem,Yx hka,row,h,i1];refine vc1 hN ?_;simp only[go_sem,h0,Yx hka,row,h,i1,Zh];refine vc2 hE1 ?_;simp only[go_sem,w1];exact⟨⟨k+1,by omega,Zm hall ok⟩,nx9 (by omega),⟨rfl,(Fc3 rfl rfl rfl),fcs ⟨rfl,rfl⟩ fnl,fnl⟩⟩;have hz:=X7 (p:=XT l d.rows) (n:=d.rows.length) (λj hj=>hall j (by omega));simp only[go_sem,h,hz]
open Go.PL
def TK:List Rf->List Fd->Option (List Fd)
 | [],l=>Hs l
 |r::rs,l=>if(YL l r).2≠0 then none else TK rs (YL l r).1
def YJ:List Fd->List Fd->Option (List Fd)
 | [],l=>Hs l
 |f::fs,l=>if(VG l f).2≠0 then none else YJ fs (VG l f).1
def GK (l:List Fd) (x:Ln):Option (List Fd):=if(XZ l x).2=Hf then none else(TK (Zt x) l).bind (YJ (XZ l x).1)
def ZR (l:List Fd) (x:Ln):List Fd×Int:=
 if Z5 l=Hf\/ZI x=Hf then([],5)else match GK l x with|none=>([],16)|some m=>(m,0)
theorem Zbq {l:List Fd} (h:OkFs l) (r:Rf):OkFs (YL l r).1:=by
 unfold YL;split;exact⟨Jb _,λf hf=>by cases hf⟩;split;exact⟨Jb _,λf hf=>by cases hf⟩;exact⟨JV (JR _ _) h.n,λf hf=>h.c f (List.mem_of_mem_eraseIdx hf)⟩
theorem Zr4 {l:List Fd} {f x:Fd} (h:x∈Zcc l f):x∈l\/x=f:=by
 unfold Zcc at h;rcases Jo.1 h with h|h;exact .inl (List.takeWhile_subset _ h);rcases Jw.1 h with h|h;exact .inr h;exact .inl (List.dropWhile_subset _ h)
theorem ZnD {l:List Fd} (h:OkFs l) {f:Fd} (hf:f.cases'.length<=1000000):OkFs (VG l f).1:=by
 unfold VG;split;exact⟨Jb _,λf hf=>by cases hf⟩;split;exact⟨Jb _,λf hf=>by cases hf⟩;split;exact⟨Jb _,λf hf=>by cases hf⟩;refine⟨by simp only[Gl];omega,λg hg=> ?_⟩;rcases Zr4 hg with h'|h';exact h.c g h';rw[h'];exact hf
theorem ZtR {l:List Fd} {x:Ln} (hl:OkFs l) (hx:OkLn x):OkFs (XZ l x).1:=by
 have o1:∀f:Fd,f.cases'.length<=1000000->OkFs [f]:=λf hf=>⟨by simp,λg hg=>by rw[Jm.1 hg];exact hf⟩
 have o0:OkFs []:=⟨Jb _,λf hf=>by cases hf⟩;unfold XZ;split;exact o1 _ hx.c;split;exact o0;split;unfold Ub;split;exact o0;split;exact o0;exact o1 _ (Jb _);split;exact o0;split;refine⟨by simp,λf hf=> ?_⟩;simp only[Jw,JX,or_false]at hf;rcases hf with rfl|rfl<;>exact Jb _
 split;exact o1 _ (Jb _);split;exact o1 _ (Jb _);split;exact o1 _ (by simp only[W8];exact hx.b);exact o1 _ (Zf9 hl _)
theorem ZjP (l:List Fd) (x:Ln) (hl:OkFs l) (hx:OkLn x):Pp 108 [Zh l,lns x] (ZP (ZR l x)):=by
 have hn:=hl.n;have hS:=Te l (by rw[Zb];omega) (λf hf=>by have:=hl.c f hf;rw[Zb];omega);have hR:=WY x hx;unfold ZR;cases hsr:Z5 l;rw[hsr]at hS;refine Zx func108 rfl ntmps108 results108 (ZN _) ?_;simp only[go_sem,Zh,lns];refine vc2 hS ?_;simp only[go_sem,if_true,ZP,Zh];rw[hsr]at hS;cases hlr:ZI x;rw[hlr]at hR;refine Zx func108 rfl ntmps108 results108 (ZN _) ?_;simp only[go_sem,Zh,lns];refine vc2 hS ?_;simp only[go_sem];refine vc3 hR ?_;simp only[go_sem,if_true,ZP,Zh];rw[hlr]at hR;simp only[Ji,or_self,if_false];have hA:=ZdW l x hl hx hlr;have okA:=ZtR hl hx;unfold GK;generalize XZ l x=y at *;obtain⟨come,ok⟩:=y;simp only at okA ⊢;cases ok;simp only[if_true];refine Zx func108 rfl ntmps108 results108 (ZN _) ?_;simp only[go_sem,Zh,lns];refine vc2 hS ?_;simp only[go_sem];refine vc3 hR ?_;simp only[go_sem];refine vc3 hA ?_;simp only[go_sem,YZ,ZP,Zh];simp only[Ji,if_false];have hO:=Zfc l (by omega) hl.c;have hG:=Zau x hx;have hg:ZfR x=Zt x:=by simp[ZfR,hlr]
 rw[hg]at hG;have hgl:(Zt x).length<=maxLen:=by
  have:(Zt x).length<=2:=by
   unfold Zt;split;simp;split;simp;split<;>simp
  rw[Zb];omega
 generalize Zt x=goes at *;generalize hGo:TK goes l=G;refine Zx func108 rfl ntmps108 results108 (ZN _) ?_;simp only[go_sem,Zh,lns];refine vc2 hS ?_;simp only[go_sem];refine vc3 hR ?_;simp only[go_sem];refine vc3 hA ?_;simp only[go_sem,YZ,Zh];refine vc2 hO ?_;simp only[go_sem,Zh,lns];refine vc3 hG ?_;simp only[go_sem,refs];refine Zs (ι:= { x:Nat×(List Fd) // x.1<=(goes).length/\(OkFs x.2/\TK (goes.drop x.1) x.2=G) }) 64 (λx=> [(6,Zh come),(8,Zh x.1.2),(33,refs goes),(34,.int .i64 (goes.length:Int)),(35,.int .i64 (x.1.1:Int))]) (λx=> []) (λx=> []) (λx=>(goes).length-x.1.1) ⟨(0,l),Jb _,⟨hl,hGo⟩⟩ ⟨rfl,(Fc5 rfl rfl rfl rfl rfl),fnl,fnl⟩ (λx=>⟨(Fc5 rfl rfl rfl rfl rfl),fnl⟩) (λx=> ?_);obtain⟨⟨k,out⟩,hk,hI⟩:=x;simp only at hk hI ⊢;obtain⟨okO,hI⟩:=hI;have hon:=okO.n;by_cases h:(k:Int)<(goes.length:Int)
 (have hka:k<(goes).length:=by omega);(have w1:=Xi hka (hgl));(have i1:=Jf k)
 have hW:=Zfe out (goes.getD k Jd) (by omega) okO.c;have okW:=Zbq okO (goes.getD k Jd);rw[Xa hka (d:=Jd),TK]at hI;generalize YL out (goes.getD k Jd)=w at *;obtain⟨w,c⟩:=w;simp only at hI okW;by_cases hc:c=0
 ·subst hc;simp only[ne_eq,not_true_eq_false,if_false]at hI;simp only[go_sem,refs,h,i1,Ym hka,ref];refine vc2 hW ?_;simp only[go_sem,ZP,Zh,w1];exact⟨⟨(k+1,w),by(try simp only);omega,⟨okW,hI⟩⟩,by show(goes).length-(k+1)<(goes).length-k;omega,⟨rfl,(Fc5 rfl rfl rfl rfl rfl),fnl,fnl⟩⟩
 have hc':(c !=0)=true:=bne_iff_ne.2 hc;simp only[ne_eq,hc,not_false_eq_true,if_true]at hI;subst hI;simp only[go_sem,refs,h,i1,Ym hka,ref];refine vc2 hW ?_;simp only[go_sem,ZP,Zh,hc',Option.bind_none];obtain rfl:k=goes.length:=by omega
 rw[JG,TK]at hI;subst hI;have hcl:come.length<=maxLen:=by have:=okA.n;rw[Zb];omega
 simp only[go_sem,h,Zh];refine Zs (ι:= { x:Nat×(List Fd) // x.1<=(come).length/\(OkFs x.2/\YJ (come.drop x.1) x.2=YJ come out) }) 64 (λx=> [(8,Zh x.1.2),(48,Zh come),(49,.int .i64 (come.length:Int)),(50,.int .i64 (x.1.1:Int))]) (λx=> []) (λx=> []) (λx=>(come).length-x.1.1) ⟨(0,out),Jb _,⟨okO,rfl⟩⟩ ⟨rfl,(Fc4 rfl rfl rfl rfl),fnl,fnl⟩ (λx=>⟨(Fc4 rfl rfl rfl rfl),fnl⟩) (λx=> ?_);obtain⟨⟨kb,o2⟩,hkb,hIb⟩:=x;simp only at hkb hIb ⊢;obtain⟨ok2,hIb⟩:=hIb;have hon2:=ok2.n;by_cases hb:(kb:Int)<(come.length:Int)
 (have hkab:kb<(come).length:=by omega);(have w1b:=Xi hkab (hcl));(have i1b:=Jf kb)
 have hcf:=okA.c _ (Zp hkab (d:=Jd));have hW:=Zl4 o2 (come.getD kb Jd) (by omega) ok2.c hcf;have okW:=ZnD ok2 hcf;rw[Xa hkab (d:=Jd),YJ]at hIb;generalize VG o2 (come.getD kb Jd)=w at *;obtain⟨w,c⟩:=w;simp only at hIb okW;by_cases hc:c=0
 ·subst hc;simp only[ne_eq,not_true_eq_false,if_false]at hIb;simp only[go_sem,Zh,hb,i1b,Zy hkab,fld];refine vc2 hW ?_;simp only[go_sem,ZP,Zh,w1b];exact⟨⟨(kb+1,w),by(try simp only);omega,⟨okW,hIb⟩⟩,by show(come).length-(kb+1)<(come).length-kb;omega,⟨rfl,(Fc4 rfl rfl rfl rfl),fnl,fnl⟩⟩
 have hc':(c !=0)=true:=bne_iff_ne.2 hc;simp only[ne_eq,hc,not_false_eq_true,if_true]at hIb;simp only[go_sem,Zh,hb,i1b,Zy hkab,fld];refine vc2 hW ?_;simp only[go_sem,ZP,Zh,hc',<-hIb,JH];obtain rfl:kb=come.length:=by omega
 rw[JG,YJ]at hIb;simp only[go_sem,Zh,hb,<-hIb,ZP,JH]
open Go.PL
def Zt4 (fo ba:List Pr) (p:Pr):Bool:=(Xj fo p.fr').2&&((Xj ba (Xj fo p.fr').1).2&&((Xj ba (Xj fo p.fr').1).1==p.fr'))
def Zrt (fo ba:List Pr):Bool:=fo.all (Zt4 fo ba)
def Zwf (x:Ln) (r:Rf):Bool:=
 if ZI x=Hf then Hf else if idx (λa=>decide (r=a)) (Zt x)<0 then Ht
 else if x.kind=1\/x.kind=4\/x.kind=5\/x.kind=6\/x.kind=7\/x.kind=10 then Ht
 else if x.kind=9 then idx (λa=>decide (r=a)) (Zt x)==0
 else if x.kind=8 then Zrt x.fo x.ba else Hf
theorem Zba (x:Ln):(Zt x).length<=2:=by
 unfold Zt;split;simp;split;simp;split<;>simp
theorem Zku (x:Ln):(Zc x).length<=2:=by
 unfold Zc;repeat' split
 all_goals simp
def Zjz (x:Ln) (r:Rf):Rf×Bool:=
 if ZI x=Hf then(Jd,Hf)else if((Zt x).any λa=>decide (r=a))=Hf then(r,Ht)
 else if(Zc x).length=0 then(Jd,Hf)else((Zc x).getD 0 Jd,Ht)
def Zoj (x:Ln) (r:Rf):Bool:=
 if ZI x=Hf then Hf else if((Zc x).any λa=>decide (r=a))=Hf then Ht
 else if x.kind=1\/x.kind=4\/x.kind=5\/x.kind=9\/x.kind=10 then Ht else if x.kind=8 then Zrt x.ba x.fo else Hf
def Zab (x:Ln):Ln:=
 if x.kind=1 then⟨1,⟨x.at'.sc,x.at'.gr,x.nm⟩,x.at'.nm,x.ot,x.fac,x.fd,x.fo,x.ba⟩
 else if x.kind=2 then⟨3,x.at',x.nm,x.ot,x.fac,x.fd,x.fo,x.ba⟩
 else if x.kind=3 then⟨2,x.at',x.nm,x.ot,x.fac,x.fd,x.fo,x.ba⟩
 else if x.kind=4 then⟨5,⟨x.at'.sc,[],x.at'.nm⟩,x.at'.gr,x.ot,x.fac,x.fd,x.fo,x.ba⟩
 else if x.kind=5 then⟨4,⟨x.at'.sc,x.nm,x.at'.nm⟩,[],x.ot,x.fac,x.fd,x.fo,x.ba⟩
 else if x.kind=6 then⟨9,x.at',x.nm,x.ot,x.fac,x.fd,x.fo,x.ba⟩
 else if x.kind=9 then⟨6,x.at',x.nm,x.ot,x.fac,x.fd,x.fo,x.ba⟩
 else if x.kind=7 then⟨10,x.at',x.nm,x.ot,x.fac,x.fd,x.fo,x.ba⟩
 else if x.kind=10 then⟨7,x.at',x.nm,x.ot,x.fac,x.fd,x.fo,x.ba⟩
 else if x.kind=8 then⟨8,x.at',x.ot,x.nm,x.fac,x.fd,x.ba,x.fo⟩else x
def lnc (x:Ln×Int):PV:= .tup [lns x.1,.int .i64 x.2]
theorem WL (x:Ln×Int):(lnc x).dids= []:=by simp only[lnc,JN,JB,Zac,Ja]
def Zrc (x:Ln):Ln×Int:=if ZI x=Hf then(Jd,5)else(Zab x,0)
theorem ZeY (x:Ln) (hx:OkLn x):Pp 249 [lns x] (lnc (Zrc x)):=by
 have hR:=WY x hx;have hO:=Zav x hx;unfold Zrc;cases hlr:ZI x;rw[hlr]at hR;refine Zx func249 rfl ntmps249 results249 (WL _) ?_;simp only[go_sem,lns];refine vc3 hR ?_;simp only[go_sem,if_true,lnc,Ts];rw[hlr]at hR;refine Zx func249 rfl ntmps249 results249 (WL _) ?_;simp only[go_sem,lns];refine vc3 hR ?_;simp only[go_sem,lns];refine vc3 hO ?_;simp only[go_sem,lns];repeat' ((first|(first|apply ZC|apply ZB|apply ZO)<;>intro h|refine ZjI [(1,4)] (by kernel_rfl) (by kernel_rfl) (by exact rfl) ?_|refine vDq ?_)<;>first|simp only[go_sem,h]|simp only[go_sem]|skip)
 all_goals (simp only[beq_iff_eq,beq_eq_false_iff_ne,ne_eq]at *;clear hR hO hx;simp[Zab,lnc,lns, *])
def Yf (l:List Rf) (r:Rf):Int:=idx (λa=>decide (r=a)) l
theorem Sd (l:List Rf) (r:Rf):Yf l r= -1\/ ∃g:Nat,g<l.length/\Yf l r=(g:Int):=Y0 _ _
open Go.PL
theorem Ga (l:List Fd) (r:Rf):(idx (atF r) l= -1/\ ∀g∈l,g.at'≠r)\/ ∃i:Nat,∃h:i<l.length,idx (atF r) l=(i:Int)/\(l[i]).at'=r:=by
 unfold idx;cases hf:l.findIdx? (atF r)with
 |none=>
  left;refine⟨rfl,λg hg e=> ?_⟩;rw[JL]at hf;have:=hf g hg;simp[atF,e]at this
 |some i=>
  right;rw[Jt]at hf;obtain⟨h1,h2,_⟩:=hf;exact⟨i,h1,rfl,by simpa[atF]using h2⟩
theorem YR {l:List Fd} (h:Zl0 l) {f:Fd} (hf:f∈l):ZD l f.at'=(f,0):=by
 unfold ZD;rcases Ga l f.at' with ⟨_,h2⟩|⟨i,hi,h1,h2⟩;exact absurd rfl (h2 f hf);rw[h1,if_neg (by omega)];simp only[JE];rw[getD_lt hi];rw[Zh6 h (Jj hi) hf h2]
theorem YI {l:List Fd} {r:Rf} (h:(ZD l r).2=0):(ZD l r).1∈l/\(ZD l r).1.at'=r:=by
 unfold ZD at *;rcases Ga l r with ⟨h1,_⟩|⟨i,hi,h1,h2⟩;rw[h1]at h;simp at h;rw[h1,if_neg (by omega)];simp only[JE];rw[getD_lt hi];exact⟨Jj hi,h2⟩
theorem ZoT {l:List Fd} {r:Rf} (h:(YL l r).2=0):Z5 l=Ht/\(∃f∈l,f.at'=r)/\Z5 (YL l r).1=Ht/\(∀g,g∈(YL l r).1↔g∈l/\g.at'≠r)/\(YL l r).1.length+1=l.length:=by
 unfold YL at *;cases hr:Z5 l with
 |false=>rw[hr]at h;simp at h
 |true=>
  rcases Ga l r with ⟨h1,_⟩|⟨i,hi,h1,h2⟩
  ·rw[hr,h1]at h;simp at h
  ·simp only[h1,Ji,if_false,show ¬(i:Int)<0 by omega,JE];obtain⟨k1,k2,k3⟩:=Z3.1 hr;have hsub:(l.eraseIdx i).Sublist l:=List.eraseIdx_sublist _ _;have hlen:(l.eraseIdx i).length+1=l.length:=by rw[List.length_eraseIdx_of_lt hi];omega
   refine⟨trivial,⟨_,Jj hi,h2⟩,Z3.2 ⟨by omega,List.Pairwise.sublist hsub k2,λf hf=>k3 f (hsub.mem hf)⟩,λg=> ?_,hlen⟩;rw[List.mem_eraseIdx_iff_getElem];constructor
   ·rintro ⟨j,hj,hne,rfl⟩
    refine⟨Jj hj,λe=> ?_⟩;have e2:=Zh6 k2 (Jj hj) (Jj hi) (e.trans h2.symm);rcases JO j i with q|q|q
    ·have:=Je.1 k2 j i hj hi q;rw[e2,WK]at this;cases this
    ·exact hne q
    ·have:=Je.1 k2 i j hi hj q;rw[e2,WK]at this;cases this
   ·rintro ⟨hg,hne⟩
    obtain⟨j,hj,rfl⟩:=Jp hg;exact⟨j,hj,λe=>hne (by subst e;exact h2),rfl⟩
theorem ZrE {l:List Fd} {r:Rf} (hr:Z5 l=Ht) (h:∃f∈l,f.at'=r):(YL l r).2=0:=by
 obtain⟨f,hf,e⟩:=h;unfold YL;rcases Ga l r with ⟨_,h2⟩|⟨i,hi,h1,h2⟩;exact absurd e (h2 f hf);simp[hr,h1,show ¬(i:Int)<0 by omega]
theorem ZhK (l:List Fd) (f g:Fd):g∈Zcc l f↔g∈l\/g=f:=by
 unfold Zcc;have:=List.takeWhile_append_dropWhile (p:=ZkS f.at') (l:=l);constructor;intro h;rcases Jo.1 h with h|h;exact .inl (by rw[<-this];exact JU _ h);rcases Jw.1 h with h|h;exact .inr h;exact .inl (by rw[<-this];exact JF _ h);rintro (h|h);rw[<-this]at h;rcases Jo.1 h with h|h;exact JU _ h;exact JF _ (List.mem_cons_of_mem _ h);exact JF _ (by simp[h])
theorem Zi7:∀ {l:List Fd} {f:Fd},Zl0 l->(∀g∈l,g.at'≠f.at')->Zl0 (Zcc l f)
 | [],f,_,_=>List.pairwise_singleton _ _
 |a::l,f,h,hn=>by
  obtain⟨p,q⟩:=JJ.1 h;cases hb:Va a.at' f.at' with
  |true=>
   rw[ZrW hb];refine JJ.2 ⟨λx hx=> ?_,Zi7 q (λg hg=>hn g (by simp[hg]))⟩;rcases(ZhK l f x).1 hx with hx|hx
   ·exact p x hx
   ·rw[hx];exact hb
  |false=>
   rw[ZrV hb];have hfa:Va f.at' a.at'=true:=by
    rcases Zp5 a.at' f.at' with h1|h1|h1
    ·rw[hb]at h1;cases h1
    ·exact absurd h1 (hn a (by simp))
    ·exact h1
   refine JJ.2 ⟨λx hx=> ?_,h⟩;rcases Jw.1 hx with rfl|hx
   ·exact hfa
   ·exact Zeg hfa (p x hx)
theorem ZrD {l:List Fd} {f:Fd} (h:(VG l f).2=0):Z5 l=Ht/\Z1 f=Ht/\(∀g∈l,g.at'≠f.at')/\Z5 (VG l f).1=Ht/\(∀g,g∈(VG l f).1↔g∈l\/g=f)/\(VG l f).1.length=l.length+1:=by
 unfold VG at *;cases hr:Z5 l with
 |false=>rw[hr]at h;simp at h
 |true=>
  cases hf:Z1 f with
  |false=>rw[hr,hf]at h;simp at h
  |true=>
   rcases Ga l f.at' with ⟨h1,h2⟩|⟨i,hi,h1,h2⟩
   ·by_cases hl:16<=(l.length:Int)
    ·rw[hr,hf,h1]at h;simp[hl]at h
    ·simp only[h1,Ji,or_self,if_false,hl,show ¬(0:Int)<= -1 by omega];obtain⟨k1,k2,k3⟩:=Z3.1 hr;have hil:=Gl l f;refine⟨trivial,trivial,h2,Z3.2 ⟨by omega,Zi7 k2 h2,λg hg=> ?_⟩,λg=>ZhK l f g,hil⟩;rcases(ZhK l f g).1 hg with hg|hg
     ·exact k3 g hg
     ·rw[hg];exact hf
   ·rw[hr,hf,h1]at h;simp at h
theorem Zvn {l:List Fd} {f:Fd} (hr:Z5 l=Ht) (hf:Z1 f=Ht) (hn:∀g∈l,g.at'≠f.at') (hl:l.length<16):(VG l f).2=0:=by
 unfold VG;rcases Ga l f.at' with ⟨h1,h2⟩|⟨i,hi,h1,h2⟩;simp[hr,hf,h1,show ¬16<=(l.length:Int)by omega];exact absurd h2 (hn _ (Jj hi))
theorem T3:∀ {rs:List Rf} {l m:List Fd},Z5 l=Ht->TK rs l=Hs m->Z5 m=Ht/\(∀g,g∈m↔g∈l/\g.at'∉rs)/\(∀r∈rs,∃f∈l,f.at'=r)/\rs.Nodup/\m.length+rs.length=l.length
 | [],l,m,hr,h=>by cases h;exact⟨hr,by simp,by simp,by simp,by simp⟩
 |r::rs,l,m,hr,h=>by
  unfold TK at h;split at h;cases h;rename_i hz;obtain⟨a1,a2,a3,a4,a5⟩:=ZoT (by simpa using hz);obtain⟨b1,b2,b3,b4,b5⟩:=T3 a3 h;refine⟨b1,λg=> ?_,λq hq=> ?_,Jv.2 ⟨λhin=> ?_,b4⟩,by simp only[JC];omega⟩;rw[b2,a4];simp only[Jw,not_or];exact⟨λh=>⟨h.1.1,h.1.2,h.2⟩,λh=>⟨⟨h.1,h.2.1⟩,h.2.2⟩⟩;rcases Jw.1 hq with rfl|hq;exact a2;obtain⟨f,hf,e⟩:=b3 q hq;exact⟨f,((a4 f).1 hf).1,e⟩;obtain⟨f,hf,e⟩:=b3 r hin;exact((a4 f).1 hf).2 e
theorem Zq8:∀ {rs:List Rf} {l:List Fd},Z5 l=Ht->rs.Nodup->(∀r∈rs,∃f∈l,f.at'=r)-> ∃m,TK rs l=Hs m
 | [],l,_,_,_=>⟨l,rfl⟩
 |r::rs,l,hr,hn,h=>by
  rw[Jv]at hn;have hz:=ZrE hr (h r (by simp));obtain⟨a1,a2,a3,a4,a5⟩:=ZoT hz;obtain⟨m,hm⟩:=Zq8 (rs:=rs) a3 hn.2 (λq hq=>by
   obtain⟨f,hf,e⟩:=h q (by simp[hq]);exact⟨f,(a4 f).2 ⟨hf,λe2=>hn.1 (by rw[<-e2,e];exact hq)⟩,e⟩)
  exact⟨m,by unfold TK;rw[if_neg (by simp[hz])];exact hm⟩
theorem Vk:∀ {fs l m:List Fd},Z5 l=Ht->YJ fs l=Hs m->Z5 m=Ht/\(∀g,g∈m↔g∈l\/g∈fs)/\(∀f∈fs,Z1 f=Ht/\ ∀g∈l,g.at'≠f.at')/\(fs.map (·.at')).Nodup/\m.length=l.length+fs.length
 | [],l,m,hr,h=>by cases h;exact⟨hr,by simp,by simp,by simp,by simp⟩
 |f::fs,l,m,hr,h=>by
  unfold YJ at h;split at h;cases h;rename_i hz;obtain⟨a1,a2,a3,a4,a5,a6⟩:=ZrD (by simpa using hz);obtain⟨b1,b2,b3,b4,b5⟩:=Vk a4 h;refine⟨b1,λg=> ?_,λq hq=> ?_,?_,by simp only[JC];omega⟩;rw[b2,a5,Jw,or_assoc];rcases Jw.1 hq with rfl|hq;exact⟨a2,a3⟩;exact⟨(b3 q hq).1,λg hg=>(b3 q hq).2 g ((a5 g).2 (.inl hg))⟩;rw[Jc,Jv];refine⟨λhin=> ?_,b4⟩;obtain⟨q,hq,e⟩:=Jn.1 hin;exact(b3 q hq).2 f ((a5 f).2 (.inr rfl)) e.symm
theorem ZiN:∀ {fs l:List Fd},Z5 l=Ht->(∀f∈fs,Z1 f=Ht)->(∀f∈fs,∀g∈l,g.at'≠f.at')->(fs.map (·.at')).Nodup->l.length+fs.length<=16-> ∃m,YJ fs l=Hs m
 | [],l,_,_,_,_,_=>⟨l,rfl⟩
 |f::fs,l,hr,hf,hp,hn,hl=>by
  rw[Jc,Jv]at hn;simp only[JC]at hl;have hz:=Zvn hr (hf f (by simp)) (hp f (by simp)) (by omega);obtain⟨a1,a2,a3,a4,a5,a6⟩:=ZrD hz;obtain⟨m,hm⟩:=ZiN (fs:=fs) a4 (λq hq=>hf q (by simp[hq])) (λq hq g hg e=>by
   rcases(a5 g).1 hg with hg|hg;exact hp q (by simp[hq]) g hg e;exact hn.1 (Jn.2 ⟨q,hq,by rw[<-e,hg]⟩)) hn.2 (by omega)
  exact⟨m,by unfold YJ;rw[if_neg (by simp[hz])];exact hm⟩
theorem XI {l m:List Fd} {x:Ln} (h:ZR l x=(m,0)):Z5 l=Ht/\ZI x=Ht/\ ∃cs l1,XZ l x=(cs,Ht)/\TK (Zt x) l=Hs l1/\YJ cs l1=Hs m:=by
 unfold ZR at h;split at h;simp at h;rename_i hh;simp only[not_or,Bool.not_eq_false]at hh;refine⟨hh.1,hh.2,?_⟩;split at h;simp at h;rename_i k hk;simp only[Prod.mk.injEq,and_true]at h;subst h;unfold GK at hk;split at hk;cases hk;rename_i ha;obtain⟨l1,h1,h2⟩:=JS.1 hk;refine⟨(XZ l x).1,l1,?_,h1,h2⟩;have:(XZ l x).2=true:=by simpa using ha
 rw[<-this]
theorem T5 {l l1 m cs gs:List Fd} {x y:Ln} (hl:Z5 l=Ht) (h1:TK (Zt x) l=Hs l1) (h2:YJ cs l1=Hs m) (hy:ZI y=Ht) (k1:Zt y=cs.map (·.at')) (k2:XZ m y=(gs,Ht)) (k3:∀g∈gs,g∈l) (k4:gs.map (·.at')=Zt x):ZR m y=(l,0):=by
 obtain⟨a1,a2,a3,a4,a5⟩:=T3 hl h1;obtain⟨b1,b2,b3,b4,b5⟩:=Vk a1 h2;obtain⟨r1,r2,r3⟩:=Z3.1 hl;obtain⟨m1,hm1⟩:=Zq8 (rs:=cs.map (·.at')) b1 b4 (λr hr=>by
  obtain⟨f,hf,e⟩:=Jn.1 hr;exact⟨f,(b2 f).2 (.inr hf),e⟩)
 obtain⟨c1,c2,c3,c4,c5⟩:=T3 b1 hm1;have e1:m1=l1:=Zez (Z3.1 c1).2.1 (Z3.1 a1).2.1 λf=>by
  rw[c2,b2];constructor;rintro ⟨hf|hf,hn⟩;exact hf;exact absurd (Jn.2 ⟨f,hf,rfl⟩) hn;intro hf;refine⟨.inl hf,λhin=> ?_⟩;obtain⟨q,hq,e⟩:=Jn.1 hin;exact(b3 q hq).2 f hf e.symm
 subst e1;have hgl:gs.length=(Zt x).length:=by rw[<-k4];simp
 obtain⟨l2,hl2⟩:=ZiN (fs:=gs) a1 (λf hf=>r3 f (k3 f hf)) (λf hf g hg e=>((a2 g).1 hg).2 (by rw[e,<-k4];exact Jn.2 ⟨f,hf,rfl⟩)) (by rw[k4];exact a4) (by omega);obtain⟨d1,d2,d3,d4,d5⟩:=Vk a1 hl2;have e2:l2=l:=Zez (Z3.1 d1).2.1 r2 λf=>by
  rw[d2,a2];constructor;rintro (hf|hf);exact hf.1;exact k3 f hf;intro hf;by_cases hin:f.at'∈Zt x;right;rw[<-k4]at hin;obtain⟨q,hq,e⟩:=Jn.1 hin;rw[<-Zh6 r2 (k3 q hq) hf e];exact hq;exact .inl ⟨hf,hin⟩
 subst e2;unfold ZR;rw[if_neg (by simp[b1,hy])];have:GK m y=Hs l2:=by
  unfold GK;rw[k2,if_neg (by simp),k1,hm1];exact hl2
 rw[this]
open Go.PL
def XC (m:List Eg) (id:Tg):Option Eg:=m.find? λe=>decide (id=e.id)
theorem Wd {m:List Eg} {id:Tg} {e:Eg} (h:XC m id=Hs e):id=e.id/\e∈m:=by
 unfold XC at h;exact⟨by simpa using List.find?_some h,Ju h⟩
inductive Way (m:List Eg):Tg->List Eg->Prop
 |root:Way m Jd []
 |step {id:Tg} {e:Eg} {w:List Eg} (hn:id≠Jd) (he:XC m id=Hs e) (hw:Way m e.par w):Way m id (w++ [e])
theorem Way.fn {m:List Eg} {id:Tg} {w w':List Eg} (h:Way m id w) (h':Way m id w'):w=w':=by
 induction h generalizing w' with
 |root=>cases h' with
  |root=>rfl
  |step hn he hw=>exact absurd rfl hn
 |step hn he hw ih=>
  cases h' with
  |root=>exact absurd rfl hn
  |step hn' he' hw'=>
   rw[he]at he';cases he';rw[ih hw']
theorem Way.mem {m:List Eg} {id:Tg} {w:List Eg} (h:Way m id w):∀e∈w,e∈m:=by
 induction h with
 |root=>intro e he;cases he
 |step hn he hw ih=>
  intro x hx;rcases Jo.1 hx with hx|hx;exact ih x hx;rw[Jm.1 hx];exact(Wd he).2
theorem Way.take {m:List Eg} {id:Tg} {w:List Eg} (h:Way m id w):∀k (hk:k<w.length),Way m (w[k]).id (w.take (k+1)):=by
 induction h with
 |root=>intro k hk;simp at hk
 |step hn he hw ih=>
  rename_i id e w;intro k hk;by_cases hlt:k<w.length;rw[List.getElem_append_left hlt,List.take_append_of_le_length (by omega)];exact ih k hlt;have hk':k=w.length:=by simp at hk;omega
  subst hk';have e1:(w++ [e])[w.length]'hk=e:=by simp
  rw[e1,List.take_of_length_le (by simp)];have:=(Wd he).1;rw[<-this];exact .step hn he hw
theorem Way.nodup {m:List Eg} {id:Tg} {w:List Eg} (h:Way m id w):w.Nodup:=by
 rw[Js,Je];intro i j hi hj hij e;have h1:=h.take i hi;have h2:=h.take j hj;rw[e]at h1;have:=congrArg J9 (h1.fn h2);simp at this;omega
theorem Zeo {α:Type} [DecidableEq α]:∀ {l m:List α},l.Nodup->(∀x∈l,x∈m)->l.length<=m.length
 | [],_,_,_=>Jb _
 |a::l,m,hn,hs=>by
  rw[Jv]at hn;have ha:a∈m:=hs a (by simp);have:=Zeo (l:=l) (m:=m.erase a) hn.2 (λx hx=>(List.mem_erase_of_ne (λe:x=a=>hn.1 (e▸hx))).2 (hs x (by simp[hx])));rw[List.length_erase_of_mem ha]at this;have:0<m.length:=List.length_pos_of_mem ha;simp only[JC];omega
theorem Way.len {m:List Eg} {id:Tg} {w:List Eg} (h:Way m id w):w.length<=m.length:=Zeo h.nodup h.mem
def Zo4 (m:List Eg):Nat->Tg->List Eg->Option (List Eg)
 |0,_,_=>none
 |k+1,id,way=>if id=Jd then Hs way else match XC m id with
  |none=>none
  |some e=>Zo4 m k e.par (e::way)
def ZeT (m:List Eg) (id:Tg):Option (List Eg):=Zo4 m (m.length+1) id []
theorem ZdC {m:List Eg}:∀ {k:Nat} {id:Tg} {acc r:List Eg},Zo4 m k id acc=Hs r-> ∃w,Way m id w/\r=w++acc
 |0,_,_,_,h=>by cases h
 |k+1,id,acc,r,h=>by
  unfold Zo4 at h;split at h;rename_i hd;cases h;exact⟨[],hd▸ .root,rfl⟩;rename_i hd;split at h;cases h;rename_i e he;obtain⟨w,h1,h2⟩:=ZdC h;exact⟨w++ [e],.step hd he h1,by rw[h2];simp⟩
theorem ZoM {m:List Eg} {id:Tg} {w:List Eg} (h:Way m id w):∀ {k:Nat} (acc:List Eg),w.length<k->Zo4 m k id acc=Hs (w++acc):=by
 induction h with
 |root=>intro k acc hk;cases k with
  |zero=>simp at hk
  |succ k=>simp[Zo4]
 |step hn he hw ih=>
  intro k acc hk;cases k with
  |zero=>simp at hk
  |succ k=>
   simp only[Jy,JC,List.length_nil]at hk;simp only[Zo4,if_neg hn,he];rw[ih _ (by omega)];simp
theorem XU {m:List Eg} {id:Tg} {w:List Eg}:ZeT m id=Hs w↔Way m id w:=by
 constructor;intro h;obtain⟨w',h1,h2⟩:=ZdC h;rw[h2,Ja];exact h1;intro h;have:=ZoM h (k:=m.length+1) [] (by have:=h.len;omega);simpa[ZeT]using this
def Xr:List Eg->List Fd->Option (List Fd)
 | [],fs=>Hs fs
 |e::es,fs=>if(ZR fs e.ln).2≠0 then none else Xr es (ZR fs e.ln).1
theorem FC (w v:List Eg) (fs:List Fd):Xr (w++v) fs=(Xr w fs).bind (Xr v):=by
 induction w generalizing fs with
 |nil=>rfl
 |cons e w ih=>
  simp only[JY,Xr];split;rfl;exact ih _
def D6 (e:Eg):Option (List Eg)->Nd
 |none=>⟨e,1,[],0⟩
 |some w=>match Xr w Tx with
  |none=>⟨e,3,[],0⟩
  |some fs=>⟨e,2,fs,w.length⟩
def YA (m:List Eg) (e:Eg):Nd:=D6 e (ZeT m e.id)
def Zd (m:List Eg):List Nd:=m.map (YA m)
def Zjg (e:Eg):Nd:=⟨e,1,[],0⟩
theorem Uw (m:List Eg) (e:Eg):(YA m e).e=e:=by
 unfold YA D6;split;rfl;split<;>rfl
structure Apart (m:List Eg):Prop where
 d:(m.map (·.id)).Nodup
 n:∀e∈m,e.id≠Jd
theorem Apart.find {m:List Eg} (h:Apart m) {e:Eg} (he:e∈m):XC m e.id=Hs e:=by
 obtain⟨l1,l2,rfl⟩:=List.append_of_mem he;have hd:=h.d;simp only[J3,Jc]at hd;unfold XC;rw[JW];have hno:l1.find? (λx=>decide (e.id=x.id))=none:=by
  rw[JK];intro x hx hh;have hx':x.id∈l1.map (·.id):=Jn.2 ⟨x,hx,rfl⟩;have:=(JP.1 hd).2.2 _ hx' e.id (by simp);exact this (by simpa using Eq.symm (by simpa using hh))
 rw[hno];simp
def Zhf (m:List Eg) (c:List Nd):Prop:=c.length=m.length/\ ∀i,i<m.length->c.getD i Jd=Zjg (m.getD i Jd)\/(c.getD i Jd=YA m (m.getD i Jd)/\(c.getD i Jd).st≠1)
theorem U1 {m:List Eg} {e:Eg}:(YA m e).st=1↔ZeT m e.id=none:=by
 unfold YA D6;split;rename_i h;simp[h];rename_i w h;constructor;intro hh;split at hh<;>cases hh
 intro hh;rw[h]at hh;cases hh
theorem Gn {m:List Eg} {e:Eg} (h:ZeT m e.id=none):YA m e=Zjg e:=by simp[YA,D6,h,Zjg]
theorem Zsc (e:Eg):(Zjg e).st=1:=rfl
theorem Zdp {m:List Eg} {c:List Nd} (h:Zhf m c) {i:Nat} (hi:i<m.length):(c.getD i Jd).e=m.getD i Jd:=by
 rcases h.2 i hi with h|⟨h,_⟩;rw[h];rfl;rw[h,Uw]
theorem ZeA {m:List Eg} {c:List Nd} (h:Zhf m c):c.map (·.e)=m:=by
 apply JT;simp[h.1];intro i h1 h2;have:=Zdp h h2;rw[getD_lt (by have:=h.1;omega),getD_lt h2]at this;simpa using this
theorem ZfH {m:List Eg} {c:List Nd} (h:Zhf m c) (id:Tg):(DV c id).map (·.e)=XC m id:=by
 rw[<-ZeA h];unfold DV XC;rw[J5];rfl
theorem Zjd {m:List Eg} {c:List Nd} (h:Zhf m c) {n:Nd} (hn:n∈c):n.e∈m/\(n=Zjg n.e\/(n=YA m n.e/\n.st≠1)):=by
 obtain⟨i,hi,rfl⟩:=Jp hn;have hi':i<m.length:=by have:=h.1;omega
 have e:=Zdp h hi';have k:=h.2 i hi';rw[getD_lt hi]at e k;rw[e];exact⟨Ze hi',k⟩
def Tt (e:Eg) (up:Nd):Nd:=if up.st=2/\(ZR up.sch e.ln).2=0 then⟨e,2,(ZR up.sch e.ln).1,up.dep+1⟩else⟨e,3,[],0⟩
theorem ZhT {m:List Eg} {e:Eg} {w:List Eg} (ha:Apart m) (he:e∈m) (hw:Way m e.par w):YA m e=match Xr w Tx with
  |none=>⟨e,3,[],0⟩
  |some fs=>Tt e ⟨Jd,2,fs,w.length⟩:=by
 have h1:Way m e.id (w++ [e]):= .step (ha.n e he) (ha.find he) hw;have h2:=XU.2 h1;unfold YA D6;rw[h2];simp only[FC];cases hf:Xr w Tx with
 |none=>rfl
 |some fs=>
  simp only[JH,Xr,Tt]
  by_cases hz:(ZR fs e.ln).2=0
  ·simp[hz]
  ·simp[hz]
theorem Zn2 {m:List Eg} {c:List Nd} (ha:Apart m) (h:Zhf m c) {e:Eg} (he:e∈m) (hu:(atN c e.par).st=2\/(atN c e.par).st=3):Tt e (atN c e.par)=YA m e/\(YA m e).st≠1:=by
 have key:∃w,Way m e.par w/\Tt e (atN c e.par)=(match Xr w Tx with|none=>⟨e,3,[],0⟩|some fs=>Tt e ⟨Jd,2,fs,w.length⟩):=by
  unfold atN at hu ⊢;by_cases hp:e.par=Jd;rw[if_pos hp];exact⟨[],hp▸ .root,by simp[Xr,Tt,Zgr]⟩;rw[if_neg hp]at hu ⊢;cases hf:DV c e.par with
  |none=>rw[hf]at hu;simp at hu;rcases hu with hu|hu<;>cases hu
  |some n=>
   rw[hf]at hu;simp only[JI]at hu ⊢;have hn:n∈c:=Ju hf;obtain⟨hm,hk⟩:=Zjd h hn;rcases hk with hk|⟨hk,hst⟩
   ·rw[hk]at hu;simp[Zjg]at hu
   ·have hid:e.par=n.e.id:=by
     have:=ZfH h e.par;rw[hf]at this;exact(Wd this.symm).1
    cases hw:ZeT m n.e.id with
    |none=>rw[hk]at hst;exact absurd (U1.2 hw) hst
    |some w=>
     refine⟨w,by rw[hid];exact XU.1 hw,?_⟩;have hnw:n=D6 n.e (Hs w):=by rw[<-hw];exact hk
     unfold D6 at hnw;cases hfa:Xr w Tx with
     |none=>
      simp only[hfa]at hnw;rw[hnw];simp[Tt]
     |some fs=>
      simp only[hfa]at hnw;rw[hnw];simp[Tt]
 obtain⟨w,hw,hk⟩:=key;refine⟨by rw[hk,ZhT ha he hw],λhh=> ?_⟩;have:=U1.1 hh;have h2:=XU.2 (Way.step (ha.n e he) (ha.find he) hw);rw[this]at h2;cases h2
theorem Zn1 {m:List Eg} {c:List Nd} (ha:Apart m) (h:Zhf m c) (hd:∀i,i<m.length->(c.getD i Jd).st≠1\/((atN c (m.getD i Jd).par).st≠2/\(atN c (m.getD i Jd).par).st≠3)):c=Zd m:=by
 have hs:∀ {id w},Way m id w-> ∀e,XC m id=Hs e->id≠Jd->YA m e∈c:=by
  intro id w hw;induction hw with
  |root=>intro e _ hn;exact absurd rfl hn
  |step hn he hw ih=>
   rename_i id e w;intro e' he' _;rw[he]at he';cases he';obtain⟨hid,hem⟩:=Wd he;obtain⟨i,hi,rfl⟩:=Jp hem;have hic:i<c.length:=by have:=h.1;omega
   rcases h.2 i hi with hk|⟨hk,_⟩;exfalso;rcases hd i hi with h1|⟨h1,h2⟩;rw[hk]at h1;exact h1 rfl;rw[getD_lt hi]at h1 h2;by_cases hp:(m[i]).par=Jd;simp[atN,hp,Zgr]at h1;cases hfe:XC m (m[i]).par with
   |none=>
    generalize (m[i]).par=p at *;cases hw with
    |root=>exact hp rfl
    |step _ hq _=>rw[hfe]at hq;cases hq
   |some q=>
    have hq:=ih q hfe hp;obtain⟨hqid,hqm⟩:=Wd hfe;have hfn:DV c (m[i]).par=Hs (YA m q):=by
     have h3:=ZfH h (m[i]).par;rw[hfe]at h3;cases hx:DV c (m[i]).par with
     |none=>rw[hx]at h3;cases h3
     |some n=>
      rw[hx]at h3;simp only[JD,J2.injEq]at h3;have hn:n∈c:=Ju hx;have hcd:(c.map (·.e.id)).Nodup:=by
       have:=ZeA h;have h4:=ha.d;rw[<-this,J7]at h4;exact h4
      congr 1;obtain⟨a1,b1,ha1⟩:=Jp hn;obtain⟨a2,b2,ha2⟩:=Jp hq;have hee:n.e.id=(YA m q).e.id:=by rw[Uw,h3]
      have:a1=a2:=by
       rw[Js,Je]at hcd;rcases JO a1 a2 with hlt|heq|hlt
       ·exact absurd (show(c.map (·.e.id))[a1]'(by simpa using b1)=(c.map (·.e.id))[a2]'(by simpa using b2)by rw[Jg,Jg,ha1,ha2];exact hee) (hcd a1 a2 (by simpa using b1) (by simpa using b2) hlt)
       ·exact heq
       ·exact absurd (show(c.map (·.e.id))[a2]'(by simpa using b2)=(c.map (·.e.id))[a1]'(by simpa using b1)by rw[Jg,Jg,ha1,ha2];exact hee.symm) (hcd a2 a1 (by simpa using b2) (by simpa using b1) hlt)
      subst this;rw[<-ha1,<-ha2]
    have hst:(YA m q).st≠1:=λhh=>by
     have:=U1.1 hh;rw[<-hqid]at this;rw[XU.2 hw]at this;cases this
    have hst2:(YA m q).st=2\/(YA m q).st=3:=by
     revert hst;unfold YA D6;split;exact λh=>absurd rfl h
     split;exact λ_=> .inr rfl
     exact λ_=> .inl rfl
    have hat:atN c (m[i]).par=YA m q:=by simp[atN,hp,hfn]
    rw[hat]at h1 h2;rcases hst2 with h5|h5;exact h1 h5;exact h2 h5
   rw[getD_lt hic,getD_lt hi]at hk;rw[<-hk];exact Jj hic
 apply JT;simp[Zd,h.1];intro i h1 h2;have hi:i<m.length:=by have:=h.1;omega
 have hk:=h.2 i hi;rw[getD_lt h1,getD_lt hi]at hk;simp only[Zd,Jg];rcases hk with hk|⟨hk,_⟩;rw[hk];cases hw:ZeT m (m[i]).id with
 |none=>exact(Gn hw).symm
 |some w=>
  exfalso;have hem:m[i]∈m:=Jj hi;have hmem:=hs (XU.1 hw) _ (ha.find hem) (ha.n _ hem);obtain⟨j,hj,hje⟩:=Jp hmem;have hjm:j<m.length:=by have:=h.1;omega
  have h3:=Zdp h hjm;rw[getD_lt hj,getD_lt hjm,hje,Uw]at h3;have hij:i=j:=by
   have hd:=ha.d;rw[Js,Je]at hd;rcases JO i j with hlt|heq|hlt
   ·exact absurd (show(m.map (·.id))[i]'(by simpa using hi)=(m.map (·.id))[j]'(by simpa using hjm)by rw[Jg,Jg,h3]) (hd i j (by simpa using hi) (by simpa using hjm) hlt)
   ·exact heq
   ·exact absurd (show(m.map (·.id))[j]'(by simpa using hjm)=(m.map (·.id))[i]'(by simpa using hi)by rw[Jg,Jg,h3]) (hd j i (by simpa using hjm) (by simpa using hi) hlt)
  subst hij;rw[hk]at hje;have:=congrArg Nd.st hje;rw[Zsc]at this;have:=U1.1 this.symm;rw[hw]at this;cases this
 exact hk
open Go.PL
theorem ZnB:∀(rs:List Rf) {l m:List Fd},OkFs l->TK rs l=Hs m->OkFs m
 | [],l,m,h,e=>by cases e;exact h
 |r::rs,l,m,h,e=>by
  unfold TK at e;split at e;cases e;exact ZnB rs (Zbq h r) e
theorem Zf8:∀(fs:List Fd) {l m:List Fd},(∀f∈fs,f.cases'.length<=1000000)->OkFs l->YJ fs l=Hs m->OkFs m
 | [],l,m,_,h,e=>by cases e;exact h
 |f::fs,l,m,hc,h,e=>by
  unfold YJ at e;split at e;cases e;exact Zf8 fs (λg hg=>hc g (by simp[hg])) (ZnD h (hc f (by simp))) e
theorem ZhW {l:List Fd} {x:Ln} (hl:OkFs l) (hx:OkLn x):OkFs (ZR l x).1:=by
 have o0:OkFs []:=⟨Jb _,λf hf=>by cases hf⟩;unfold ZR;split;exact o0;split;exact o0;rename_i m hm;unfold GK at hm;split at hm;cases hm;obtain⟨k,h1,h2⟩:=JS.1 hm;exact Zf8 _ (ZtR hl hx).c (ZnB _ hl h1) h2
theorem Zgb:OkFs Tx:=⟨by decide,by decide⟩
theorem ZnA:∀(w:List Eg) {fs gs:List Fd},(∀e∈w,OkLn e.ln)->OkFs fs->Xr w fs=Hs gs->OkFs gs
 | [],fs,gs,_,h,e=>by cases e;exact h
 |e::w,fs,gs,hw,h,he=>by
  unfold Xr at he;split at he;cases he;exact ZnA w (λx hx=>hw x (by simp[hx])) (ZhW h (hw e (by simp))) he
theorem ZtU {m:List Eg} (hm:∀e∈m,OkLn e.ln) (e:Eg):OkFs (YA m e).sch/\0<=(YA m e).dep/\(YA m e).dep<=(m.length:Int):=by
 have o0:OkFs []:=⟨Jb _,λf hf=>by cases hf⟩;unfold YA D6;split;exact⟨o0,by simp,by simp⟩;rename_i w hw;have h1:=XU.1 hw;split;exact⟨o0,by simp,by simp⟩;rename_i fs hf;have:=h1.len;exact⟨ZnA w (λx hx=>hm x (h1.mem x hx)) Zgb hf,by simp,by simp only;omega⟩
theorem ZtS {m:List Eg} {c:List Nd} (hm:∀e∈m,OkLn e.ln) (h:Zhf m c) (id:Tg):OkFs (atN c id).sch/\0<=(atN c id).dep/\(atN c id).dep<=(m.length:Int):=by
 have o0:OkFs []:=⟨Jb _,λf hf=>by cases hf⟩;unfold atN;split;exact⟨Zgb,by simp[Zgr],by simp[Zgr]⟩;cases hf:DV c id with
 |none=>exact⟨o0,Int.le_refl _,by show(0:Int)<=_;omega⟩
 |some n=>
  simp only[JI];obtain⟨_,hk⟩:=Zjd h (Ju hf);rcases hk with hk|⟨hk,_⟩;rw[hk];exact⟨o0,by simp[Zjg],by simp[Zjg]⟩;rw[hk];exact ZtU hm _
theorem Zqx {m:List Eg} {c:List Nd} (ha:Apart m) (h:Zhf m c) {i:Nat} (hi:i<c.length):(c.findIdx? λn=>decide ((c.getD i Jd).e.id=n.e.id))=Hs i:=by
 rw[Jt];refine⟨hi,by rw[getD_lt hi];simp,λj hj=> ?_⟩;have hd:=ha.d;rw[<-ZeA h,J7]at hd;rw[Js,Je]at hd;have:=hd j i (by simp;omega) (by simpa using hi) hj;simp only[Jg,Function.comp]at this;rw[getD_lt hi];simp only[decide_eq_true_eq];exact λe=>this e.symm
theorem Zjr {m:List Eg} {c:List Nd} (ha:Apart m) (h:Zhf m c) {i:Nat} (hi:i<c.length) (hu:(atN c (c.getD i Jd).e.par).st=2\/(atN c (c.getD i Jd).e.par).st=3):Zhf m (c.set i (Tt (c.getD i Jd).e (atN c (c.getD i Jd).e.par))):=by
 have him:i<m.length:=by have:=h.1;omega
 have he:=Zdp h him;rw[he]at hu ⊢;obtain⟨k1,k2⟩:=Zn2 ha h (Ze him) hu;rw[k1];refine⟨by simp[h.1],λj hj=> ?_⟩;by_cases e:i=j;subst e;right;have:(c.set i (YA m (m.getD i Jd))).getD i Jd=YA m (m.getD i Jd):=by
  rw[getD_lt (by simpa using hi)];simp
 rw[this];exact⟨rfl,k2⟩;have:(c.set i (YA m (m.getD i Jd))).getD j Jd=c.getD j Jd:=by
  simp only[List.getD_eq_getElem?_getD,List.getElem?_set_ne e]
 rw[this];exact h.2 j hj
def Zqj (c:List Nd):Nat:=c.countP λn=>decide (n.st=1)
theorem Zbt {c:List Nd} {i:Nat} {n:Nd} (hi:i<c.length) (h1:(c.getD i Jd).st=1) (h2:n.st≠1):Zqj (c.set i n)<Zqj c:=by
 unfold Zqj;rw[getD_lt hi]at h1;rw[List.countP_set hi];have:0<c.countP λn=>decide (n.st=1):=List.countP_pos_iff.2 ⟨c[i],Jj hi,by simpa using h1⟩
 simp only[h1,decide_true,if_true,h2,decide_false,Bool.false_eq_true,if_false];omega
theorem ZhM (c:List Nd) (i:Nat) (n:Nd) (h:n.e=(c.getD i Jd).e):kts (c.set i n)=kts c:=by
 unfold kts;apply List.ext_getElem?;intro j;simp only[List.getElem?_map,List.getElem?_set];by_cases e:i=j;subst e;by_cases hi:i<c.length;simp[hi,h,getD_lt hi];simp[hi];simp[e]
theorem ZhR (c:List Nd) (i:Nat) (n:Nd):nds (c.set i n)=(nds c).set i (nd n):=by simp[nds,List.map_set]
theorem ZhS (e:Eg) (u:Nd):(Tt e u).e=e:=by unfold Tt;split<;>rfl
theorem Zem (e:Eg) (u:Nd):(Tt e u).st≠1:=by unfold Tt;split<;>simp
theorem Zbe (c:List Nd):(kts c).length=c.length:=by simp[kts]
structure Seen (n:Nat) (p:Nat->Prop) where
 l:List Nat
 d:l.Nodup
 h:∀i∈l,i<n/\p i
def Seen.next {n:Nat} {p:Nat->Prop} (s:Seen n p) (i:Nat) (hi:i<n) (hp:p i) (hn:i∉s.l):Seen n p:=
 ⟨s.l++ [i],by rw[JP];exact⟨s.d,by simp,λa ha b hb=>by simp at hb;subst hb;exact λe=>hn (e▸ha)⟩,λj hj=>by
  rcases Jo.1 hj with hj|hj
  ·exact s.h j hj
  ·simp at hj;subst hj;exact⟨hi,hp⟩⟩
theorem Seen.len {n:Nat} {p:Nat->Prop} (s:Seen n p):s.l.length<=n:=by
 have:=Zeo (m:=J4 n) s.d (λi hi=>List.mem_range.2 (s.h i hi).1);simpa using this
open Go.PL
def Zv9 (m:List Eg):Type:= { c:List Nd // Zhf m c }
def Zqz (c:List Nd) (i:Nat):Prop:=(c.getD i Jd).st≠1\/((atN c (c.getD i Jd).e.par).st≠2/\(atN c (c.getD i Jd).e.par).st≠3)
theorem ZfX (l:List Nat) (i:Nat):(l++ [i]).getLast? = Hs i:=by simp
theorem Zn3 {m:List Eg} {c:List Nd} (h:Zhf m c) {i:Nat} (hi:i<m.length) (h1:(c.getD i Jd).st=1):(c.getD i Jd).sch= []/\(c.getD i Jd).dep=0:=by
 rcases h.2 i hi with hk|⟨_,hk⟩;rw[hk];exact⟨rfl,rfl⟩;exact absurd h1 hk
theorem Zn4 (m:List Eg) (c0:List Nd) (ha:Apart m) (h0:Zhf m c0) (hm:∀e∈m,OkLn e.ln) (hl:m.length<=1000):PL.Wr prog 66 (λb=> [.rptr [.mref b]]) (mc c0) (.tup []) (mc (Zd m)):=by
 refine PL.Wr.of_v func66 (by decide) rfl ntmps66 results66 (by simp) rfl (λb=> ?_);simp only[go_sem];refine ZsV (ι:=Zv9 m) 61 (λx=> [(0,.rptr [.mref b])]) (λx=> []) (λx=> []) (λx=> [(b,mc x.1)]) (λx=> []) (λx=>Zqj x.1) 0 _ (by exact rfl) (λx=>⟨(fcs rfl fnl),fnl⟩) (λx=> ?_) (λcut=> ?_);obtain⟨c,hc⟩:=x;simp only;have hcl:=hc.1;simp only[go_sem];intro ib;simp only[go_sem,forall_const,mc,Zbe];refine Zrz (ι:=Seen c.length (Zqz c)) 61 (λx=> [(0,.rptr [.mref b]),(11,.iptr ib)]) (λx=> []) (λx=> []) (λx=> [(b,mc c)]) (λx=> [(ib,⟨b,c.length,x.l,none⟩)]) (λx=>c.length-x.l.length) ⟨[],by simp,λi hi=>by cases hi⟩
  ⟨⟨rfl,(Fc2 rfl rfl),fnl,fnl⟩,fcs (by simp[upd,mc]) fnl,fcs (by simp[upd]) fnl⟩ (λx=>⟨(Fc2 rfl rfl),fnl⟩) (λx=> ?_)
 have hsl:=x.len;simp only[go_sem,mc,Zbe];refine⟨λhall=> ?_,λi hi hns=> ?_⟩;have hdone:c=Zd m:=Zn1 ha hc λi hi=>by
  have:=(x.h i (hall i (by omega))).2;unfold Zqz at this;rw[Zdp hc hi]at this;exact this
 rw[<-hdone];have him:i<m.length:=by omega
 have hA:=Zmc c (c.getD i Jd).e.par;obtain⟨ok1,ok2,ok3⟩:=ZtS hm hc (c.getD i Jd).e.par;have hL:=ZjP (atN c (c.getD i Jd).e.par).sch (c.getD i Jd).e.ln ok1 (by rw[Zdp hc him];exact hm _ (Ze him));have hset:=Zqx ha hc hi;have hwd:IntKind.i64.wrap ((atN c (c.getD i Jd).e.par).dep+1)=(atN c (c.getD i Jd).e.par).dep+1:=w64 (by omega);have hnx:∀(s':St) (j:Seen c.length (Zqz c)),j.l.length=x.l.length+1->HasO 61 [(0,.rptr [.mref b]),(11,.iptr ib)] [] [] [(b,mc c)] [(ib,⟨b,c.length,j.l,none⟩)] s'->ZrI 61 (λx=> [(0,.rptr [.mref b]),(11,.iptr ib)]) (λx=> []) (λx=> []) (λx=> [(b,mc c)]) (λx=> [(ib,⟨b,c.length,x.l,none⟩)]) (λx:Seen c.length (Zqz c)=>c.length-x.l.length) x s':=λs' j hj hh=>⟨j,by have:=j.len;show c.length-j.l.length<c.length-x.l.length;omega,hh⟩
 by_cases h1:(c.getD i Jd).st=1;obtain⟨hp1,hp2⟩:=Zn3 hc him h1;have e1:((c.getD i Jd).st !=1)=false:=by rw[h1];rfl
 simp only[go_sem,ZfX,Za9 hi,ZmR hi,hi,Zbe,tg,nd,e1];refine Zan hA (Zqd _) ?_ ?_ ?_;simp only[go_sem];simp only[go_sem,tr,tg,kts,nds];by_cases hs2:(atN c (c.getD i Jd).e.par).st=2;have e2:((atN c (c.getD i Jd).e.par).st !=2)=false:=by rw[hs2];rfl
 have e2':((atN c (c.getD i Jd).e.par).st==2)=true:=by rw[hs2];rfl
 have hsem:=Zjr ha hc hi (.inl hs2);simp only[go_sem,nd,e2,e2'];refine vc3 hL ?_;simp only[go_sem,ZP,Zh];by_cases hz:(ZR (atN c (c.getD i Jd).e.par).sch (c.getD i Jd).e.ln).2=0;have hnn:Tt (c.getD i Jd).e (atN c (c.getD i Jd).e.par)=⟨(c.getD i Jd).e,2,(ZR (atN c (c.getD i Jd).e.par).sch (c.getD i Jd).e.ln).1,(atN c (c.getD i Jd).e.par).dep+1⟩:=by unfold Tt;rw[if_pos ⟨hs2,hz⟩]
 simp only[go_sem,hz];refine ZjI [(4,3)] (by kernel_rfl) (by kernel_rfl) (by exact rfl) ?_;simp only[go_sem,hwd];refine vDq ?_;simp only[go_sem,YG,hset];refine⟨⟨_,hsem⟩,Zbt hi h1 (Zem _ _),⟨⟨rfl,(fcs rfl fnl),fnl,fnl⟩,fcs ?_ fnl,fnl⟩⟩;simp only[Za];rw[ZhM c i _ (ZhS _ _),ZhR,hnn];rfl;have hnn:Tt (c.getD i Jd).e (atN c (c.getD i Jd).e.par)=⟨(c.getD i Jd).e,3,[],0⟩:=by unfold Tt;rw[if_neg (λhh=>hz hh.2)]
 have hzb:((ZR (atN c (c.getD i Jd).e.par).sch (c.getD i Jd).e.ln).2==0)=false:=by simpa using hz
 simp only[go_sem,hzb];refine vDq ?_;simp only[go_sem,YG,hset];refine⟨⟨_,hsem⟩,Zbt hi h1 (Zem _ _),⟨⟨rfl,(fcs rfl fnl),fnl,fnl⟩,fcs ?_ fnl,fnl⟩⟩;simp only[Za];rw[ZhM c i _ (ZhS _ _),ZhR,hnn];simp only[nd,hp1,hp2];by_cases hs3:(atN c (c.getD i Jd).e.par).st=3;have e2:((atN c (c.getD i Jd).e.par).st !=2)=true:=by rw[hs3];rfl
 have e2':((atN c (c.getD i Jd).e.par).st==2)=false:=by rw[hs3];rfl
 have e3:((atN c (c.getD i Jd).e.par).st !=3)=false:=by rw[hs3];rfl
 have hsem:=Zjr ha hc hi (.inr hs3);have hnn:Tt (c.getD i Jd).e (atN c (c.getD i Jd).e.par)=⟨(c.getD i Jd).e,3,[],0⟩:=by unfold Tt;rw[if_neg (λhh=>hs2 hh.1)]
 simp only[go_sem,nd,e2,e2',e3];refine vDq ?_;simp only[go_sem,YG,hset];refine⟨⟨_,hsem⟩,Zbt hi h1 (Zem _ _),⟨⟨rfl,(fcs rfl fnl),fnl,fnl⟩,fcs ?_ fnl,fnl⟩⟩;simp only[Za];rw[ZhM c i _ (ZhS _ _),ZhR,hnn];simp only[nd,hp1,hp2]
 ·have e2:((atN c (c.getD i Jd).e.par).st !=2)=true:=by simpa using hs2
  have e3:((atN c (c.getD i Jd).e.par).st !=3)=true:=by simpa using hs3
  simp only[go_sem,nd,e2,e3];refine hnx _ (x.next i hi (.inr ⟨hs2,hs3⟩) hns) (by simp[Seen.next]) ?_;exact⟨⟨rfl,(Fc2 rfl rfl),fnl,fnl⟩,fcs (by simp[upd,mc]) fnl,fcs (by simp[upd,Seen.next]) fnl⟩
 ·have e1:((c.getD i Jd).st !=1)=true:=by simpa using h1
  simp only[go_sem,ZfX,Za9 hi,ZmR hi,hi,Zbe,tg,nd,e1];refine hnx _ (x.next i hi (.inl h1) hns) (by simp[Seen.next]) ?_;exact⟨⟨rfl,(Fc2 rfl rfl),fnl,fnl⟩,fcs (by simp[upd,mc]) fnl,fcs (by simp[upd,Seen.next]) fnl⟩
 simp only[go_sem];exact YX (cut ⟨c0,h0⟩ _ ⟨⟨rfl,(fcs rfl fnl),fnl,fnl⟩,fcs (by simp[upd]) fnl,fnl⟩)
open Go.PL
def ZeQ (m:List Eg) (e:Eg):List Eg×Int:=
 if Gc e=Hf then(m,5)else match XC m e.id with
  |some x=>if x=e then(m,7)else(m,15)
  |none=>if 40<=m.length then(m,9)else(m++ [e],0)
structure OkM (m:List Eg):Prop where
 a:Apart m
 l:∀e∈m,OkLn e.ln
 n:m.length<=40
theorem Gp:OkM []:=⟨⟨by simp,λe h=>(by cases h)⟩,λe h=>(by cases h),by simp⟩
theorem Zr7 {m:List Eg} (h:OkM m) {e:Eg} (he:OkLn e.ln):OkM (ZeQ m e).1:=by
 unfold ZeQ;split;exact h;rename_i hb;split;split<;>exact h
 rename_i hf;split;exact h;rename_i hn;refine⟨⟨?_,λx hx=> ?_⟩,λx hx=> ?_,by simp;omega⟩;rw[J3,JP];refine⟨h.a.d,by simp,λa ha b hb'=> ?_⟩;simp only[Jc,Jq,Jm]at hb';subst hb';obtain⟨x,hx,rfl⟩:=Jn.1 ha;unfold XC at hf;rw[JK]at hf;have:=hf x hx;simp only[decide_eq_true_eq]at this;exact λe1=>this e1.symm
 rcases Jo.1 hx with hx|hx;exact h.a.n x hx;rw[Jm.1 hx];have hb:Gc e=true:=by simpa using hb
 simp only[Gc,Jk]at hb;exact FN hb.1;rcases Jo.1 hx with hx|hx;exact h.l x hx;rw[Jm.1 hx];exact he
theorem ZfC {m:List Eg} {e x:Eg} {id:Tg} (h:XC m id=Hs x):XC (m++ [e]) id=Hs x:=by
 unfold XC at *;rw[JW,h];rfl
theorem Way.append {m:List Eg} {e:Eg} {id:Tg} {w:List Eg} (h:Way m id w):Way (m++ [e]) id w:=by
 induction h with
 |root=>exact .root
 |step hn he hw ih=>exact .step hn (ZfC he) ih
theorem Zqy {m:List Eg} (e:Eg):Zhf (m++ [e]) (Zd m++ [Zjg e]):=by
 refine⟨by simp[Zd],λi hi=> ?_⟩;by_cases hl:i<m.length;rw[Zi (by simpa[Zd]using hl),Zi hl];have e1:(Zd m).getD i Jd=YA m (m.getD i Jd):=by
  rw[getD_lt (by simpa[Zd]using hl),getD_lt hl];simp[Zd]
 rw[e1];cases hw:ZeT m (m.getD i Jd).id with
 |none=>exact .inl (Gn hw)
 |some w=>
  right;have:ZeT (m++ [e]) (m.getD i Jd).id=Hs w:=XU.2 (XU.1 hw).append;refine⟨by simp only[YA,hw,this],λhh=> ?_⟩;rw[U1.1 hh]at hw;cases hw
 left;have hi':i=m.length:=by simp at hi;omega
 subst hi';rw[Zk (by simp[Zd]),Zk (Nat.le_refl _)];simp[Zd]
theorem Zor (m:List Eg):Zhf m (Zd m):=by
 refine⟨by simp[Zd],λi hi=> ?_⟩;have e1:(Zd m).getD i Jd=YA m (m.getD i Jd):=by
  rw[getD_lt (by simpa[Zd]using hi),getD_lt hi];simp[Zd]
 rw[e1];cases hw:ZeT m (m.getD i Jd).id with
 |none=>exact .inl (Gn hw)
 |some w=>exact .inr ⟨rfl,λhh=>by rw[U1.1 hh]at hw;cases hw⟩
theorem TZ (m:List Eg) (id:Tg):DV (Zd m) id=(XC m id).map (YA m):=by
 unfold DV XC Zd;rw[J5];congr 1;congr 1;funext x;simp[Uw]
theorem Zi4 (m:List Eg) (id:Tg):((Zd m).findIdx? λn=>decide (id=n.e.id))=m.findIdx? λe=>decide (id=e.id):=by
 unfold Zd;rw[List.findIdx?_map];congr 1;funext x;simp[Uw]
theorem ZqK (m:List Eg):(Zd m).length=m.length:=by simp[Zd]
theorem Zr1 (m:List Eg) (e:Eg):mc (Zd m++ [Zjg e])=⟨kts (Zd m)++ [tg e.id],nds (Zd m)++ [nd (Zjg e)]⟩:=by simp[mc,kts,nds,Zjg]
theorem Zt1 (m:List Eg) (e:Eg) (hm:OkM m) (he:OkLn e.ln):PL.Wr prog 27 (λb=> [.rptr [.mref b],eg e]) (mc (Zd m)) (.int .i64 (ZeQ m e).2) (mc (Zd (ZeQ m e).1)):=by
 have hE:=Zlo e he;have hok:=Zr7 hm he;unfold ZeQ at hok ⊢;cases hb:Gc e;rw[hb]at hE;refine PL.Wr.of_v func27 (by decide) rfl ntmps27 results27 (by simp) rfl (λb=> ?_);simp only[go_sem,eg];refine vc3 hE ?_;simp only[go_sem,if_true];rw[hb]at hE;simp only[hb,Ji,if_false]at hok ⊢;have hidx:=Zi4 m e.id;cases hf:m.findIdx? (λx=>decide (e.id=x.id))with
 |some i=>
  rw[hf]at hidx;obtain⟨h1,h2⟩:=TY hidx;rw[TZ]at h2;cases hfe:XC m e.id with
  |none=>rw[hfe]at h2;cases h2
  |some x=>
   rw[hfe]at h2;simp only[JD,J2.injEq]at h2;have hxm:=(Wd hfe).2;have hS:=Zlt x e (hm.l x hxm) he;have hgx:((Zd m).getD i Jd).e=x:=by rw[<-h2,Uw]
   have hval:(nds (Zd m)).getD i .any=nd (YA m x):=by rw[Za9 h1,h2]
   have hne:=Uw m x;simp only;cases hd:decide (x=e)
   ·rw[hd]at hS;have hx:¬x=e:=by simpa using hd
    simp only[hx,if_false];refine PL.Wr.of_v func27 (by decide) rfl ntmps27 results27 (by simp) rfl (λb=> ?_);simp only[go_sem,eg];refine vc3 hE ?_;simp only[go_sem];refine vDq ?_;simp only[go_sem,mc,YG,hidx,hval,nd,hne];refine vc3 hS ?_;simp only[go_sem,mc]
   ·rw[hd]at hS;have hx:x=e:=by simpa using hd
    simp only[hx,if_true];refine PL.Wr.of_v func27 (by decide) rfl ntmps27 results27 (by simp) rfl (λb=> ?_);simp only[go_sem,eg];refine vc3 hE ?_;simp only[go_sem];refine vDq ?_;simp only[go_sem,mc,YG,hidx,hval,nd,hne];refine vc3 hS ?_;simp only[go_sem,mc]
 |none=>
  rw[hf]at hidx;have h2:=TX.1 hidx;rw[TZ]at h2;have hfe:XC m e.id=none:=by
   cases hx:XC m e.id with
   |none=>rfl
   |some x=>rw[hx]at h2;cases h2
  rw[hfe]at hok ⊢;simp only at hok ⊢;have hkl:(kts (Zd m)).length=m.length:=by rw[Zbe,ZqK]
  by_cases hn:40<=m.length
  ·have hn':(40:Int)<=(m.length:Int):=by omega
   simp only[hn,if_true];refine PL.Wr.of_v func27 (by decide) rfl ntmps27 results27 (by simp) rfl (λb=> ?_);simp only[go_sem,eg];refine vc3 hE ?_;simp only[go_sem];refine vDq ?_;simp only[go_sem,mc,YG,hidx,hkl,hn']
  ·have hn':¬(40:Int)<=(m.length:Int):=by omega
   simp only[hn,if_false]at hok ⊢;have hO:=ZgF e he;have hW:=Zn4 (m++ [e]) (Zd m++ [Zjg e]) hok.a (Zqy e) hok.l (by have:=hok.n;omega);refine PL.Wr.of_v func27 (by decide) rfl ntmps27 results27 (by simp) rfl (λb=> ?_);simp only[go_sem,eg];refine vc3 hE ?_;simp only[go_sem];refine vDq ?_;simp only[go_sem,mc,YG,hidx,hkl,hn'];refine vDq ?_;simp only[go_sem];refine vc3 hO ?_;simp only[go_sem,eg,mc,YG,hidx];refine ZjG b hW ?_ ?_ ?_ ?_
   ·simp only[go_sem]
   ·simp only[go_sem]
   ·rw[Zr1];simp[upd,tg,nd,Zjg]
   ·simp only[go_sem,mc]
def ZpM (x:List Eg×Int):PV:= .tup [egs x.1,.int .i64 x.2]
theorem Zd2 (l:List Eg):(egs l).dids= []:=by
 unfold egs;simp only[JN];induction l with
 |nil=>rfl
 |cons e l ih=>simp only[Jc,JB,ih,Zhx,Ja]
theorem TU (x:List Eg×Int):(ZpM x).dids= []:=by simp only[ZpM,JN,JB,Zd2,Ja]
theorem ZeB (l:List Eg):Sized 20 (l.map eg):=λe he=>by
 obtain⟨x,_,rfl⟩:=Jn.1 he;rfl
theorem ZiJ (l:List Eg):XO (l.map eg):=λe he=>by
 obtain⟨x,_,rfl⟩:=Jn.1 he;rfl
theorem GY {m:List Eg} {id:Tg}:(idx (λx=>decide (x.id=id)) m= -1/\XC m id=none)\/ ∃i:Nat,i<m.length/\idx (λx=>decide (x.id=id)) m=(i:Int)/\XC m id=Hs (m.getD i Jd):=by
 have e:(λx:Eg=>decide (x.id=id))=λx=>decide (id=x.id):=by funext x;simp[eq_comm]
 unfold idx;rw[e];cases hf:m.findIdx? (λx=>decide (id=x.id))with
 |none=>
  left;refine⟨rfl,?_⟩;rw[JL]at hf;unfold XC;rw[JK];intro x hx hh;rw[hf x hx]at hh;cases hh
 |some i=>
  right;rw[Jt]at hf;obtain⟨h1,h2,h3⟩:=hf;refine⟨i,h1,rfl,?_⟩;unfold XC;rw[List.find?_eq_some_iff_getElem];exact⟨by rw[getD_lt h1];exact h2,i,h1,(getD_lt h1).symm,λj hj=>by simpa using h3 j hj⟩
theorem ZlY (m:List Eg) (e:Eg) (hm:OkM m) (he:OkLn e.ln):Pp 26 [egs m,eg e] (ZpM (ZeQ m e)):=by
 have hE:=Zj2 e he;have hA:=GB m e.id (by rw[Zb];have:=hm.n;omega);unfold ZeQ;cases hb:Gc e;rw[hb]at hE;refine Zx func26 rfl ntmps26 results26 (TU _) ?_;simp only[go_sem,eg,egs];refine vc3 hE ?_;simp only[go_sem,if_true,ZpM,egs];rw[hb]at hE;simp only[Ji,if_false];rcases GY (m:=m) (id:=e.id)with ⟨h1,h2⟩|⟨i,hi,h1,h2⟩;rw[h1]at hA;rw[h2];by_cases hn:40<=m.length;have hn':(39:Int)<(m.length:Int):=by omega
 simp only[hn,if_true];refine Zx func26 rfl ntmps26 results26 (TU _) ?_;simp only[go_sem,eg,egs];refine vc3 hE ?_;simp only[go_sem];refine vc3 hA ?_;simp only[go_sem];refine vDq ?_;simp only[go_sem,hn',ZpM,egs]
 ·have hn':¬(39:Int)<(m.length:Int):=by omega
  simp only[hn,if_false];have hr1:=Ya (show m.length<=1000000 by omega) (show 256<=1000 by omega);have hr2:=Ya (show m.length+1<=1000000 by omega) (show 256<=1000 by omega);refine Zx func26 rfl ntmps26 results26 (TU _) ?_;simp only[go_sem,eg,egs];refine vc3 hE ?_;simp only[go_sem];refine vc3 hA ?_;simp only[go_sem];refine vDq ?_;simp only[go_sem,hn',ZpM,egs,ZeB,ZiJ,hr1,hr2];repeat((with_reducible refine And.intro ?_ ?_);(focus((repeat' (with_reducible apply And.intro))<;>(first|omega|exact Yw (by omega) (by omega)|exact Yw (by simp;omega) (by omega)|exact ZZ _|(simp;done)|(simp;omega)))))
  simp[eg]
 rw[h1]at hA;rw[h2];have hS:=Zg5 (m.getD i Jd) e (hm.l _ (Ze hi)) he;have i0:=Jf i
 have i1:(i:Int)<(m.length:Int):=by omega
 cases hd:decide (m.getD i Jd=e);rw[hd]at hS;have hx:¬m.getD i Jd=e:=by simpa using hd
 simp only[hx,if_false];refine Zx func26 rfl ntmps26 results26 (TU _) ?_;simp only[go_sem,eg,egs];refine vc3 hE ?_;simp only[go_sem];refine vc3 hA ?_;simp only[go_sem];refine vDq ?_;simp only[go_sem,i0,i1,XW hi,eg];refine vc3 hS ?_;simp only[go_sem,i0,ZpM,egs];rw[hd]at hS;have hx:m.getD i Jd=e:=by simpa using hd
 simp only[hx,if_true];refine Zx func26 rfl ntmps26 results26 (TU _) ?_;simp only[go_sem,eg,egs];refine vc3 hE ?_;simp only[go_sem];refine vc3 hA ?_;simp only[go_sem];refine vDq ?_;simp only[go_sem,i0,i1,XW hi,eg];refine vc3 hS ?_;simp only[go_sem,i0,ZpM,egs]
open Go.PL
def V7 (l:List Eg):List Eg:=l.foldl (λm e=>(ZeQ m e).1) []
theorem ZhX:∀(l:List Eg) {m:List Eg},OkM m->(∀e∈l,OkLn e.ln)->OkM (l.foldl (λm e=>(ZeQ m e).1) m)
 | [],m,h,_=>h
 |e::l,m,h,hl=>ZhX l (Zr7 h (hl e (by simp))) (λx hx=>hl x (by simp[hx]))
theorem ZkC {l:List Eg} {k:Nat} (hk:k<l.length):(l.take (k+1)).foldl (λm e=>(ZeQ m e).1) []=(ZeQ ((l.take k).foldl (λm e=>(ZeQ m e).1) []) (l.getD k Jd)).1:=by
 have:l.take (k+1)=l.take k++ [l.getD k Jd]:=by
  rw[getD_lt hk,List.take_add_one];simp[hk]
 rw[this,List.foldl_append];rfl
def grv (m:List Eg):PV:= .tup [tr (Zd m),egs m,.bool Ht]
theorem Zmv (l:List Nd):JB (kts l)= []:=by
 unfold kts;induction l with
 |nil=>rfl
 |cons e l ih=>simp only[Jc,JB,ih,Zom,Ja]
theorem Zmw (l:List Nd):JB (nds l)= []:=by
 unfold nds;induction l with
 |nil=>rfl
 |cons e l ih=>simp only[Jc,JB,ih,ZhQ,Ja]
theorem Zsw (l:List Nd):(tr l).dids= []:=by simp only[tr,JN,JB,Zmv,Zmw,Ja]
theorem ZpS (m:List Eg):(grv m).dids= []:=by simp only[grv,JN,JB,Zsw,Zd2,Ja]
theorem ZjV (l:List Eg) (hl:l.length<=1000) (hx:∀e∈l,OkLn e.ln):Pp 9 [egs l] (grv (V7 l)):=by
 have hml:l.length<=maxLen:=by rw[Zb];omega
 refine PL.Pure.of_vs func9 (by decide) rfl ntmps9 results9 (by simp) (ZpS _) ?_;simp only[go_sem,egs];refine ZjE Zrg ?_ ?_ (λb hb=> ?_);simp only[go_sem];simp only[go_sem];simp only[go_sem];refine Zmo 6 11 [] rfl ?_;refine Zrz (ι:= { k:Nat // k<=l.length }) 40 (λx=> [(0,egs l),(5,.rptr [.mref b]),(6,egs (V7 (l.take x.1))),(7,.int .i64 (x.1:Int))]) (λx=> []) (λx=> []) (λx=> [(b,mc (Zd (V7 (l.take x.1))))]) (λx=> []) (λx=>l.length-x.1) ⟨0,Jb _⟩
  ⟨⟨rfl,(Fc4 rfl rfl rfl rfl),fnl,fnl⟩,fcs (by simp[upd];rfl) fnl,fnl⟩ (λx=>⟨(Fc4 rfl rfl rfl rfl),fnl⟩) (λx=> ?_)
 obtain⟨k,hk⟩:=x;simp only;by_cases h:(k:Int)<(l.length:Int);have hka:k<l.length:=by omega
 have w1:=Xi hka hml;have i1:=Jf k
 have hft:=ZkC hka;have hom:OkM (V7 (l.take k)):=ZhX _ Gp (λe he=>hx e (List.mem_of_mem_take he));have hR:=ZlY (V7 (l.take k)) (l.getD k Jd) hom (hx _ (Ze hka));have hW:=Zt1 (V7 (l.take k)) (l.getD k Jd) hom (hx _ (Ze hka));have hne:((ZeQ (V7 (l.take k)) (l.getD k Jd)).2 !=(ZeQ (V7 (l.take k)) (l.getD k Jd)).2)=false:=by simp
 simp only[go_sem,egs,h,XW hka,eg,i1];refine vc3 hR ?_;simp only[go_sem,ZpM,egs,h,XW hka,eg,i1];refine ZjG b hW ?_ ?_ ?_ ?_;simp only[go_sem];simp only[go_sem,eg];simp[upd];simp only[go_sem,hne,w1];refine⟨⟨k+1,by omega⟩,nx9 (by omega),⟨⟨rfl,fcs rfl (fcs rfl (fcs ?_ (fcs ?_ fnl))),fnl,fnl⟩,fcs ?_ fnl,fnl⟩⟩;show _=egs (V7 (l.take (k+1)));unfold V7;rw[hft];rfl;rfl;show _=Hs (mc (Zd (V7 (l.take (k+1)))));unfold V7;rw[hft];simp[upd];obtain rfl:k=l.length:=by omega
 have htl:l.take l.length=l:=JZ;simp only[go_sem,egs,h,htl,mc];exact⟨_,rfl,by simp[PV.seal,PV.sealL,upd,grv,tr,egs]⟩
def edc (x:Eg×Int):PV:= .tup [eg x.1,.int .i64 x.2]
theorem ZiT (x:Eg×Int):(edc x).dids= []:=by simp only[edc,JN,JB,Zhx,Ja]
theorem ZcK:eg Jd= .agg [.int .i64 0,.int .i64 0,.int .i64 0,.int .i64 0,.int .i64 0,.int .i64 0,.str [],.str [],.str [],.str [],.int .i64 0,.int .i64 0,.str [],.str [],.int .i64 0,.str [],.sl .no [],.int .i64 0,.sl .no [],.sl .no []]:=rfl
def ZfF (m:List Eg) (id:Tg):Eg×Int:=match XC m id with|some e=>(e,0)|none=>(Jd,6)
theorem ZcA (m:List Eg) (id:Tg) (hm:OkM m):Pp 248 [tr (Zd m),tg id] (edc (ZfF m id)):=by
 have hidx:=Zi4 m id;unfold ZfF;cases hf:m.findIdx? (λx=>decide (id=x.id))with
 |some i=>
  rw[hf]at hidx;obtain⟨h1,h2⟩:=TY hidx;rw[TZ]at h2;cases hfe:XC m id with
  |none=>rw[hfe]at h2;cases h2
  |some x=>
   rw[hfe]at h2;simp only[JD,J2.injEq]at h2;have hO:=ZgF x (hm.l x (Wd hfe).2);have hval:(nds (Zd m)).getD i .any=nd (YA m x):=by rw[Za9 h1,h2]
   have hne:=Uw m x;refine Zx func248 rfl ntmps248 results248 (ZiT _) ?_;simp only[go_sem,tr,tg];refine vDq ?_;simp only[go_sem,YG,hidx,hval,nd,hne];refine vc3 hO ?_;simp only[go_sem,eg,edc]
 |none=>
  rw[hf]at hidx;have h2:=TX.1 hidx;rw[TZ]at h2;have hfe:XC m id=none:=by
   cases hx:XC m id with
   |none=>rfl
   |some x=>rw[hx]at h2;cases h2
  rw[hfe];refine Zx func248 rfl ntmps248 results248 (ZiT _) ?_;simp only[go_sem,tr,tg];refine vDq ?_;simp only[go_sem,YG,hidx,edc,ZcK]
def Ye (l:List Nd) (id:Tg):List Fd×Int:=if(atN l id).st=2 then((atN l id).sch,0)else if(atN l id).st=3 then([],16)else([],13)
theorem XH (m:List Eg) (id:Tg) (hm:OkM m):Pp 29 [tr (Zd m),tg id] (ZP (Ye (Zd m) id)):=by
 have hA:=Zmc (Zd m) id;obtain⟨o1,o2,o3⟩:=ZtS hm.l (Zor m) id;have hO:=Zfc (atN (Zd m) id).sch (by have:=o1.n;omega) o1.c;unfold Ye;by_cases h2:(atN (Zd m) id).st=2;have e2:((atN (Zd m) id).st==2)=true:=by rw[h2];rfl
 simp only[h2,if_true];refine Zx func29 rfl ntmps29 results29 (ZN _) ?_;simp only[go_sem,tr,tg];refine vc5 hA ?_;simp only[go_sem,nd,e2];refine vc2 hO ?_;simp only[go_sem,Zh,ZP];by_cases h3:(atN (Zd m) id).st=3;have e2:((atN (Zd m) id).st==2)=false:=by simpa using h2
 have e3:((atN (Zd m) id).st==3)=true:=by rw[h3];rfl
 simp only[h2,h3,if_true,if_false];refine Zx func29 rfl ntmps29 results29 (ZN _) ?_;simp only[go_sem,tr,tg];refine vc5 hA ?_;simp only[go_sem,nd,e2,e3,ZP,Zh];have e2:((atN (Zd m) id).st==2)=false:=by simpa using h2
 have e3:((atN (Zd m) id).st==3)=false:=by simpa using h3
 simp only[h2,h3,if_false];refine Zx func29 rfl ntmps29 results29 (ZN _) ?_;simp only[go_sem,tr,tg];refine vc5 hA ?_;simp only[go_sem,nd,e2,e3,ZP,Zh]
def Zwc (l:List Nd) (id:Tg):Int:=if(atN l id).st=2 then(atN l id).dep else-1
open Go.PL
def upL (w:List Eg):List Tg:=(w.reverse.map (·.id))++ [Jd]
def upC (m:List Eg) (id:Tg):Int:=(Ye (Zd m) id).2
def WX (m:List Eg) (id:Tg):List Eg:=(ZeT m id).getD []
theorem ZiI (m:List Eg) (id:Tg) (h:id≠Jd):atN (Zd m) id=((XC m id).map (YA m)).getD Jd:=by
 simp only[atN,h,if_false,TZ]
theorem YT {m:List Eg} {id:Tg} (h:upC m id=0):Way m id (WX m id)/\Xr (WX m id) Tx=Hs (Ye (Zd m) id).1/\Zwc (Zd m) id=((WX m id).length:Int):=by
 have hst:(atN (Zd m) id).st=2:=by
  unfold upC Ye at h;split at h;assumption;split at h<;>cases h
 have hs:(Ye (Zd m) id).1=(atN (Zd m) id).sch:=by simp only[Ye,hst,if_true]
 have hdp:Zwc (Zd m) id=(atN (Zd m) id).dep:=by simp only[Zwc,hst,if_true]
 rw[hs,hdp];by_cases hd:id=Jd;subst hd;have hw:WX m Jd= []:=by
  have:=XU.2 (Way.root (m:=m));simp[WX,this]
 rw[hw];exact⟨.root,by simp[Xr,atN,Zgr],by simp[atN,Zgr]⟩;rw[ZiI m id hd]at hst ⊢;cases hf:XC m id with
 |none=>rw[hf]at hst;cases hst
 |some e=>
  rw[hf]at hst;simp only[JD,JI]at hst ⊢;have hid:=(Wd hf).1;unfold YA D6 at hst ⊢;rw[<-hid]at hst ⊢;cases hw:ZeT m id with
  |none=>rw[hw]at hst;cases hst
  |some w=>
   have hwd:WX m id=w:=by simp[WX,hw]
   rw[hw]at hst;rw[hwd];simp only at hst ⊢;cases hfa:Xr w Tx with
   |none=>rw[hfa]at hst;cases hst
   |some fs=>exact⟨XU.1 hw,rfl,rfl⟩
theorem ZjC (w:List Eg) (e:Eg):upL (w++ [e])=e.id::upL w:=by simp[upL]
theorem Wl (w:List Eg):(upL w).length=w.length+1:=by simp[upL]
theorem ZbR (w:List Eg) (t:Nat) (ht:t<w.length):(upL w).getD (w.length-t-1) Jd=(w.getD t Jd).id:=by
 unfold upL;rw[Zi (by simp;omega)];rw[getD_lt (by simp;omega),getD_lt ht];simp only[Jg,List.getElem_reverse];congr 2;omega
theorem ZjB {m:List Eg} {id:Tg} {w:List Eg} (h:Way m id w):upL w=id::(upL w).tail:=by
 cases h with
 |root=>rfl
 |step hn he hw=>rw[ZjC,(Wd he).1];rfl
def Zdx (x:List Tg×Int):PV:= .tup [tgs x.1,.int .i64 x.2]
theorem Zjw (l:List Tg):(tgs l).dids= []:=by simp only[tgs,JN,ZiQ]
theorem Dq (x:List Tg×Int):(Zdx x).dids= []:=by simp only[Zdx,JN,JB,Zjw,Ja]
def upM (m:List Eg) (id:Tg):List Tg×Int:=if upC m id≠0 then([],upC m id)else(upL (WX m id),0)
structure UpS (m:List Eg) (w:List Eg) where
 id:Tg
 r:List Eg
 acc:List Tg
 hw:Way m id r
 hx:acc++(upL r).tail=upL w
theorem tgd (t:Tg):(t.r==0&&t.n==0)=decide (t=Jd):=Z4 t Jd
theorem Zl2 (m:List Eg) (id:Tg) (hm:OkM m):Pp 257 [tr (Zd m),tg id] (Zdx (upM m id)):=by
 have hS:=XH m id hm;unfold upM;by_cases hc:upC m id=0;obtain⟨hw,_,_⟩:=YT hc;simp only[hc,ne_eq,not_true_eq_false,if_false];have hc':(Ye (Zd m) id).2=0:=hc;generalize WX m id=w at *;have hwl:w.length<=40:=by have:=hw.len;have:=hm.n;omega
 refine Zx func257 rfl ntmps257 results257 (Dq _) ?_;simp only[go_sem,tr,tg];refine vc5 hS ?_;simp only[go_sem,ZP,hc'];refine ZL 8 21 39 1 2 25 [tg id] rfl rfl rfl ?_;refine Zs (ι:=UpS m w) 41 (λx=> [(0,tr (Zd m)),(3,.ptr 3 0),(8,.sl (.row 39) (x.acc.map tg))]) (λx=> [(3,[.int .i64 x.id.r,.int .i64 x.id.n],Hf)]) (λx=> [(39,.live x.acc.length 2 25)]) (λx=>x.r.length) ⟨id,w,[id],hw,by rw[ZjB hw];rfl⟩
  ⟨rfl,(Fc3 rfl rfl rfl),fcs ⟨rfl,rfl⟩ fnl,fcs rfl fnl⟩ (λx=>⟨Fc3 rfl rfl (by simp[J8,ZX]),(fcs rfl fnl)⟩) (λx=> ?_)
 obtain⟨id',r,acc,hr,hx⟩:=x;simp only;have hal:acc.length<=41:=by
  have:=congrArg J9 hx;rw[Jy,Wl]at this;omega
 have hrm:=Ya (show acc.length+1<=1000000 by omega) (show 16<=1000 by omega);by_cases hd:id'=Jd;have hb:decide (id'=Jd)=true:=by simpa using hd
 have hacc:acc=upL w:=by
  rw[<-hx];subst hd;cases hr with
  |root=>simp[upL]
  |step hn _ _=>exact absurd rfl hn
 simp only[go_sem,tgd,hb,Zdx,tgs,hacc];have hb:decide (id'=Jd)=false:=by simpa using hd
 have hF:=ZcA m id' hm;cases hr with
 |root=>exact absurd rfl hd
 |step hn he hw'=>
  rename_i e u;have hfm:ZfF m id'=(e,0):=by simp[ZfF,he]
  rw[hfm]at hF;have hx':(acc++ [e.par])++(upL u).tail=upL w:=by
   rw[<-hx,ZjC,List.tail_cons,ZjB hw'];simp
  simp only[go_sem,tr,tgd,hb];refine vc5 hF ?_;simp only[go_sem,edc,eg,SQ,hrm];exact⟨⟨e.par,u,acc++ [e.par],hw',hx'⟩,by show u.length<(u++ [e]).length;simp,⟨rfl,Fc3 rfl rfl (by simp[upd,tg]),fcs ⟨rfl,rfl⟩ fnl,fcs (by simp[upd]) fnl⟩⟩
 have hc':((Ye (Zd m) id).2 !=0)=true:=by have h:(Ye (Zd m) id).2≠0:=hc;simpa using h
 simp only[ne_eq,hc,not_false_eq_true,if_true];refine Zx func257 rfl ntmps257 results257 (Dq _) ?_;simp only[go_sem,tr,tg];refine vc5 hS ?_;simp only[go_sem,ZP,hc',Zdx,tgs,upC]
open Go.PL
def lcp:List Eg->List Eg->Nat
 |a::xs,b::ys=>if a=b then lcp xs ys+1 else 0
 |_,_=>0
theorem Zc8:∀(a b:List Eg),lcp a b<=a.length/\lcp a b<=b.length
 | [],b=>by simp[lcp]
 |a::xs,[]=>by simp[lcp]
 |a::xs,b::ys=>by
  have:=Zc8 xs ys;simp only[lcp];split;simp;omega;simp
theorem Zeh:∀(a b:List Eg),lcp a b=lcp b a
 | [],[]=>rfl
 | [],b::ys=>rfl
 |a::xs,[]=>rfl
 |a::xs,b::ys=>by
  simp only[lcp,Zeh xs ys,eq_comm]
theorem ZhN:∀(a b:List Eg) (t:Nat),t<lcp a b->a.getD t Jd=b.getD t Jd
 | [],b,t,h=>by simp[lcp]at h
 |a::xs,[],t,h=>by simp[lcp]at h
 |a::xs,b::ys,t,h=>by
  simp only[lcp]at h;split at h;rename_i e;cases t with
  |zero=>simpa using e
  |succ t=>simpa using ZhN xs ys t (by omega)
  omega
theorem Zei:∀(a b:List Eg),lcp a b<a.length->lcp a b<b.length->a.getD (lcp a b) Jd≠b.getD (lcp a b) Jd
 | [],b,h,_=>by simp at h
 |a::xs,[],_,h=>by simp at h
 |a::xs,b::ys,h1,h2=>by
  simp only[lcp]at h1 h2 ⊢;split;rename_i e;rw[if_pos e]at h1 h2;simpa using Zei xs ys (by simpa using h1) (by simpa using h2);rename_i e;simpa using e
theorem Zej (a b:List Eg):a.take (lcp a b)=b.take (lcp a b):=by
 have hl:=Zc8 a b;apply JT;simp;omega;intro i h1 h2;have hi:i<lcp a b:=by simp at h1;omega
 have:=ZhN a b i hi;rw[getD_lt (by omega),getD_lt (by omega)]at this;simpa using this
theorem Apart.inj {m:List Eg} (h:Apart m) {a b:Eg} (ha:a∈m) (hb:b∈m) (e:a.id=b.id):a=b:=by
 have h1:=h.find ha;rw[e,h.find hb]at h1;cases h1;rfl
structure WayT where
 up:List Tg
 down:List Tg
 i:Nat
 j:Nat
 c:Int
def Zo5 (x:WayT):PV:= .tup [tgs x.up,tgs x.down,.int .i64 (x.i:Int),.int .i64 (x.j:Int),.int .i64 x.c]
theorem ZbZ (x:WayT):(Zo5 x).dids= []:=by simp only[Zo5,JN,JB,Zjw,Ja]
def ZlH (m:List Eg) (a b:Tg):WayT:=
 if upC m a≠0 then⟨[],[],0,0,upC m a⟩else if upC m b≠0 then⟨[],[],0,0,upC m b⟩
 else⟨upL (WX m a),upL (WX m b),(WX m a).length-lcp (WX m a) (WX m b),(WX m b).length-lcp (WX m a) (WX m b),0⟩
theorem ZoR (m:List Eg) (a b:Tg) (hm:OkM m):Pp 247 [tr (Zd m),tg a,tg b] (Zo5 (ZlH m a b)):=by
 have hA:=Zl2 m a hm;have hB:=Zl2 m b hm;unfold ZlH;unfold upM at hA hB;by_cases ha:upC m a=0;by_cases hb:upC m b=0;obtain⟨wa,_,_⟩:=YT ha;obtain⟨wb,_,_⟩:=YT hb;simp only[ha,hb,ne_eq,not_true_eq_false,if_false]at hA hB ⊢;generalize WX m a=p at *;generalize WX m b=q at *;have hlc:=Zc8 p q;have hpl:p.length<=40:=by have:=wa.len;have:=hm.n;omega
 have hql:q.length<=40:=by have:=wb.len;have:=hm.n;omega
 have l1:((upL p).length:Int)=(p.length:Int)+1:=by rw[Wl];rfl
 have l2:((upL q).length:Int)=(q.length:Int)+1:=by rw[Wl];rfl
 have s1:IntKind.i64.wrap ((p.length:Int)+1-1)=(p.length:Int):=by rw[w64 (by omega)];omega
 have s2:IntKind.i64.wrap ((q.length:Int)+1-1)=(q.length:Int):=by rw[w64 (by omega)];omega
 refine Zx func247 rfl ntmps247 results247 (ZbZ _) ?_;simp only[go_sem,tr,tg];refine ZeM (ι:= { t:Nat // t<=lcp p q }) 62 (λx=> [(6,tgs (upL p)),(7,tgs (upL q)),(8,.int .i64 ((p.length-x.1:Nat):Int)),(9,.int .i64 ((q.length-x.1:Nat):Int))]) (λx=> []) (λx=> []) (λx=>lcp p q-x.1) 0 _ (by exact rfl) (λx=>⟨(Fc4 rfl rfl rfl rfl),fnl⟩) (λx=> ?_) (λcut=> ?_);obtain⟨t,ht⟩:=x;simp only;by_cases g1:t<p.length;have c1:(0:Int)<((p.length-t:Nat):Int):=by omega
 by_cases g2:t<q.length;have c2:(0:Int)<((q.length-t:Nat):Int):=by omega
 have w1:IntKind.i64.wrap (((p.length-t:Nat):Int)-1)=((p.length-t-1:Nat):Int):=by rw[w64 (by omega)];omega
 have w2:IntKind.i64.wrap (((q.length-t:Nat):Int)-1)=((q.length-t-1:Nat):Int):=by rw[w64 (by omega)];omega
 have k1:p.length-t-1<(upL p).length:=by rw[Wl];omega
 have k2:q.length-t-1<(upL q).length:=by rw[Wl];omega
 have b1:(0:Int)<=((p.length-t-1:Nat):Int):=by omega
 have b2:(0:Int)<=((q.length-t-1:Nat):Int):=by omega
 have b3:((p.length-t-1:Nat):Int)<((upL p).length:Int):=by omega
 have b4:((q.length-t-1:Nat):Int)<((upL q).length:Int):=by omega
 have v1:=ZbR p t g1;have v2:=ZbR q t g2;by_cases hlt:t<lcp p q;have heq:decide ((p.getD t Jd).id=(q.getD t Jd).id)=true:=by rw[ZhN p q t hlt];simp
 simp only[go_sem,tgs];refine vDq ?_;simp only[go_sem,c1,c2,w1,w2,Z7 k1,Z7 k2,v1,v2,tg,b1,b2,b3,b4,Z4,heq];exact⟨⟨t+1,by omega⟩,by show lcp p q-(t+1)<lcp p q-t;omega,⟨rfl,Fc4 rfl rfl (by simp only[Ka];rfl) (by simp only[Ka];rfl),fnl,fnl⟩⟩;obtain rfl:t=lcp p q:=by omega
 have hne:decide ((p.getD (lcp p q) Jd).id=(q.getD (lcp p q) Jd).id)=false:=by
  rw[decide_eq_false_iff_not];intro e;have hs:=Zei p q (by omega) (by omega);exact hs (hm.a.inj (wa.mem _ (Ze g1)) (wb.mem _ (Ze g2)) e)
 simp only[go_sem,tgs];refine vDq ?_;simp only[go_sem,c1,c2,w1,w2,Z7 k1,Z7 k2,v1,v2,tg,b1,b2,b3,b4,Z4,hne,Zo5,tgs];have c2:¬(0:Int)<((q.length-t:Nat):Int):=by omega
 obtain rfl:t=lcp p q:=by omega
 simp only[go_sem,tgs];refine vDq ?_;simp only[go_sem,c1,c2,Zo5,tgs];have c1:¬(0:Int)<((p.length-t:Nat):Int):=by omega
 obtain rfl:t=lcp p q:=by omega
 simp only[go_sem,tgs];refine vDq ?_;simp only[go_sem,c1,Zo5,tgs];simp only[go_sem];refine vc5 hA ?_;simp only[go_sem,Zdx];refine vc5 hB ?_;simp only[go_sem,Zdx,tgs,l1,l2,s1,s2];exact YX (cut ⟨0,Jb _⟩ _ ⟨rfl,(Fc4 rfl rfl rfl rfl),fnl,fnl⟩);have hb':(upC m b !=0)=true:=by simpa using hb
 simp only[ha,hb,ne_eq,not_true_eq_false,not_false_eq_true,if_true,if_false]at hA hB ⊢;refine Zx func247 rfl ntmps247 results247 (ZbZ _) ?_;simp only[go_sem,tr,tg];refine TA ?_;simp only[go_sem];refine vc5 hA ?_;simp only[go_sem,Zdx];refine vc5 hB ?_;simp only[go_sem,Zdx,tgs,hb',Zo5];have ha':(upC m a !=0)=true:=by simpa using ha
 simp only[ha,ne_eq,not_false_eq_true,if_true]at hA ⊢;refine Zx func247 rfl ntmps247 results247 (ZbZ _) ?_;simp only[go_sem,tr,tg];refine TA ?_;simp only[go_sem];refine vc5 hA ?_;simp only[go_sem,Zdx,tgs,ha',Zo5]
open Go.PL
theorem Yi {x:Ln} (h:ZI x=Ht):(x.kind=1\/x.kind=2\/x.kind=3\/x.kind=4\/x.kind=5\/x.kind=6\/x.kind=7\/x.kind=8\/x.kind=9\/x.kind=10)/\(x.kind≠8->x.fo= []/\x.ba= []):=by
 unfold ZI at h;split at h;rename_i hk;simp only[Jk,JM]at h;exact⟨by omega,λ_=>Tz.1 h.2.2.2.2.1⟩;simp only[Jk]at h;obtain⟨_,h⟩:=h;split at h;rename_i hk;exact⟨by omega,λhn=>absurd hk hn⟩;simp only[Jk,JM]at h;refine⟨?_,λ_=>Tz.1 h.1⟩;have h:=h.2;split at h;omega;simp only[Jk]at h;have h:=h.2;split at h;omega;simp only[Jk]at h;have h:=h.2;split at h;omega;split at h;omega;simp only[Jk,decide_eq_true_eq]at h;omega
def ZtY (k:Int):Int:=if k=2\/k=3 then 5-k else if k=4\/k=5 then 9-k else if k=6\/k=9 then 15-k else if k=7\/k=10 then 17-k else k
theorem ZkZ (k:Int) (h:k=1\/k=2\/k=3\/k=4\/k=5\/k=6\/k=7\/k=8\/k=9\/k=10):Pp 256 [.int .i64 k] (.int .i64 (ZtY k)):=by
 rcases h with rfl|rfl|rfl|rfl|rfl|rfl|rfl|rfl|rfl|rfl
 all_goals
  refine ZM func256 rfl ntmps256 results256 ?_;simp only[go_sem];rfl
theorem ZdN (x:Ln) (hx:OkLn x):Pp 244 [lns x] (lnc (Zrc x)):=by
 have hR:=Un x hx;unfold Zrc;cases hlr:ZI x;rw[hlr]at hR;refine Zx func244 rfl ntmps244 results244 (WL _) ?_;simp only[go_sem,lns];refine vc3 hR ?_;simp only[go_sem,if_true,lnc,Ts];rw[hlr]at hR;obtain⟨hk,ht⟩:=Yi hlr;have hO:=ZkZ x.kind hk;simp only[Ji,if_false];obtain⟨kind,at',nm,ot,fac,fd,fo,ba⟩:=x;simp only at hk ht hO;clear hx hlr;by_cases h8:kind=8;subst h8;refine Zx func244 rfl ntmps244 results244 (WL _) ?_;simp only[go_sem,lns];refine vc3 hR ?_;simp only[go_sem,lns];refine vDq ?_;simp only[go_sem];refine vc3 hO ?_;simp only[go_sem,lnc,lns,Zab];rfl;obtain⟨rfl,rfl⟩:=ht h8;rcases hk with rfl|rfl|rfl|rfl|rfl|rfl|rfl|rfl|rfl|rfl
 all_goals first
  |(exact absurd rfl h8)
  |(refine Zx func244 rfl ntmps244 results244 (WL _) ?_
    simp only[go_sem,lns];refine vc3 hR ?_;simp only[go_sem,lns];refine vDq ?_;simp only[go_sem];refine vc3 hO ?_;simp only[go_sem,lnc,lns,Zab];rfl)
def Zbf (m:List Eg) (x:Lg):Ln×Int:=match XC m x.id with|none=>(Jd,6)|some e=>if x.down=Ht then(e.ln,0)else(Zab e.ln,0)
structure RightM (m:List Eg):Prop where
 r:∀e∈m,Gc e=Ht
theorem ZcJ {e:Eg} (h:Gc e=Ht):ZI e.ln=true:=by
 simp only[Gc,Jk]at h;exact h.2.2.2.2
theorem Zqt {m:List Eg} (h:RightM m) (e:Eg):RightM (ZeQ m e).1:=by
 unfold ZeQ;split;exact h;rename_i hb;split;split<;>exact h
 split;exact h;refine⟨λx hx=> ?_⟩;rcases Jo.1 hx with hx|hx;exact h.r x hx;rw[Jm.1 hx];simpa using hb
theorem Zdl:∀(l:List Eg) {m:List Eg},RightM m->RightM (l.foldl (λm e=>(ZeQ m e).1) m)
 | [],m,h=>h
 |e::l,m,h=>Zdl l (Zqt h e)
theorem ZbD:RightM []:=⟨λe h=>by cases h⟩
theorem Zkg (m:List Eg) (x:Lg) (hm:OkM m) (hr:RightM m):Pp 232 [tr (Zd m),lg x] (lnc (Zbf m x)):=by
 have hF:=ZcA m x.id hm;unfold ZfF at hF;unfold Zbf;cases hf:XC m x.id with
 |none=>
  rw[hf]at hF;simp only at hF ⊢;refine Zx func232 rfl ntmps232 results232 (WL _) ?_;simp only[go_sem,tr,lg];refine vc5 hF ?_;simp only[go_sem,edc,ZcK,lnc,Ts]
 |some e=>
  rw[hf]at hF;simp only at hF ⊢;have hem:=(Wd hf).2;have hO:=Zav e.ln (hm.l e hem);have hI:=ZeY e.ln (hm.l e hem);have hi:Zrc e.ln=(Zab e.ln,0):=by unfold Zrc;rw[ZcJ (hr.r e hem)];rfl
  rw[hi]at hI;obtain⟨id,down⟩:=x;cases down
  ·refine Zx func232 rfl ntmps232 results232 (WL _) ?_;simp only[go_sem,tr,lg];refine vc5 hF ?_;simp only[go_sem,edc,eg];refine vc3 hI ?_;simp only[go_sem,lnc,lns,if_false]
  ·refine Zx func232 rfl ntmps232 results232 (WL _) ?_;simp only[go_sem,tr,lg];refine vc5 hF ?_;simp only[go_sem,edc,eg];refine vc3 hO ?_;simp only[go_sem,lnc,lns,if_true]
theorem Zj5 (m:List Eg) (x:Lg) (hm:OkM m) (hr:RightM m):Pp 227 [egs m,lg x] (lnc (Zbf m x)):=by
 have hA:=GB m x.id (by rw[Zb];have:=hm.n;omega);unfold Zbf;rcases GY (m:=m) (id:=x.id)with ⟨h1,h2⟩|⟨i,hi,h1,h2⟩;rw[h1]at hA;rw[h2];refine Zx func227 rfl ntmps227 results227 (WL _) ?_;simp only[go_sem,egs,lg];refine vc3 hA ?_;simp only[go_sem,lnc,Ts];rw[h1]at hA;rw[h2];simp only;have hem:m.getD i Jd∈m:=Ze hi;have hI:=ZdN (m.getD i Jd).ln (hm.l _ hem);have hv:Zrc (m.getD i Jd).ln=(Zab (m.getD i Jd).ln,0):=by unfold Zrc;rw[ZcJ (hr.r _ hem)];rfl
 rw[hv]at hI;have n1:¬(i:Int)<0:=by omega
 have i0:=Jf i
 have i1:(i:Int)<(m.length:Int):=by omega
 obtain⟨id,down⟩:=x;cases down;refine Zx func227 rfl ntmps227 results227 (WL _) ?_;simp only[go_sem,egs,lg];refine vc3 hA ?_;simp only[go_sem,n1,i0,i1,XW hi,eg];refine vc3 hI ?_;simp only[go_sem,lnc,lns,if_false];refine Zx func227 rfl ntmps227 results227 (WL _) ?_;simp only[go_sem,egs,lg];refine vc3 hA ?_;simp only[go_sem,n1,i0,i1,XW hi,eg,lnc,lns,if_true]
theorem Zwi {x:Ln} (h:OkLn x):OkLn (Zab x):=by
 unfold Zab;repeat' split
 all_goals first|exact⟨h.c,h.f,h.b⟩|exact⟨h.c,h.b,h.f⟩
theorem ZtT {m:List Eg} (hm:OkM m) (x:Lg):OkLn (Zbf m x).1:=by
 unfold Zbf;split;exact⟨by decide,by decide,by decide⟩;rename_i e he;have:=hm.l e (Wd he).2;split;exact this;exact Zwi this
open Go.PL
structure ChT where
 l:List Fd
 n:Nat
 c:Int
def Zmq:List Fd->List Ln->Nat->ChT
 |fs,[],i=>⟨fs,i,0⟩
 |fs,x::xs,i=>if(ZR fs x).2≠0 then⟨[],i,(ZR fs x).2⟩else Zmq (ZR fs x).1 xs (i+1)
structure ChS (l:List Fd) (row:List Ln) where
 k:Nat
 fs:List Fd
 hk:k<=row.length
 ok:OkFs fs
 h:Zmq fs (row.drop k) k=Zmq l row 0
theorem ZmD {row:List Ln} {k:Nat} (hk:k<row.length):row.drop k=row.getD k Jd::row.drop (k+1):=by
 rw[getD_lt hk,List.drop_eq_getElem_cons hk]
open Go.PL
def ZbM (m:List Eg) (id:Tg):Int×List Fd:=
 if id≠Jd/\XC m id=none then(0,[])else match ZeT m id with
  |none=>(1,[])
  |some w=>match Xr w Tx with
   |none=>(3,[])
   |some fs=>(2,fs)
theorem ZnY (m:List Eg) (id:Tg):Ye (Zd m) id=if(ZbM m id).1=3 then([],16)else if(ZbM m id).1≠2 then([],13)else((ZbM m id).2,0):=by
 unfold ZbM Ye;by_cases hd:id=Jd;subst hd;have h1:ZeT m Jd=Hs []:=XU.2 .root;simp[atN,Zgr,h1,Xr];rw[ZiI m id hd];cases hf:XC m id with
 |none=>
  have hn:id≠Jd/\(none:Option Eg)=none:=⟨hd,rfl⟩;rw[if_pos hn];rfl
 |some e=>
  obtain⟨h1,h2⟩:=Wd hf;have hn:¬(id≠Jd/\(Hs e:Option Eg)=none):=λh=>by cases h.2
  rw[if_neg hn];simp only[JD,JI,YA,<-h1];have key:∀(w:Option (List Eg)),(if(D6 e w).st=2 then((D6 e w).sch,(0:Int))else if(D6 e w).st=3 then([],16)else([],13))=
    (λs:Int×List Fd=>if s.1=3 then(([]:List Fd),(16:Int))else if s.1≠2 then([],13)else(s.2,0)) (match w with|none=>(1,[])|some w=>match Xr w Tx with|none=>(3,[])|some fs=>(2,fs)):=by
   intro w;cases w with
   |none=>rfl
   |some w=>
    have k2:∀F:Option (List Fd),(λ(n:Nd) (s:Int×List Fd)=>(if n.st=2 then(n.sch,(0:Int))else if n.st=3 then([],16)else([],13))=(if s.1=3 then(([]:List Fd),(16:Int))else if s.1≠2 then([],13)else(s.2,0)))
      (match F with|none=>⟨e,3,[],0⟩|some fs=>⟨e,2,fs,w.length⟩) (match F with|none=>(3,[])|some fs=>(2,fs)):=by
     intro F;cases F<;>rfl
    exact k2 (Xr w Tx)
  exact key (ZeT m id)
theorem ZcX {e:Eg} {w:List Eg} (fs:List Fd):Xr (e::w) fs=if(ZR fs e.ln).2=0 then Xr w (ZR fs e.ln).1 else none:=by
 by_cases h:(ZR fs e.ln).2=0;simp[Xr,h];simp[Xr,h]
theorem ZrN {l:List Fd} {r:Rf} (h:idx (atF r) l= -1):ZD l r=(Jd,6):=by unfold ZD;rw[h];rfl
theorem ZrM {l:List Fd} {r:Rf} {i:Nat} (h:idx (atF r) l=(i:Int)):ZD l r=(l.getD i Jd,0):=by
 unfold ZD;rw[h,if_neg (by omega)];simp
def ZE (l:List Fd) (r:Rf):Fd:=(ZD l r).1
def FW:List Rf->List Fd->List Fd
 | [],l=>l
 |r::rs,l=>FW rs (YL l r).1
theorem Zdk:∀(rs:List Rf) (r:Rf) (l:List Fd),FW (rs++ [r]) l=(YL (FW rs l) r).1
 | [],r,l=>rfl
 |x::rs,r,l=>by simp only[JY,FW];exact Zdk rs r _
theorem Zrl:∀(rs:List Rf) {l:List Fd},OkFs l->OkFs (FW rs l)
 | [],l,h=>h
 |r::rs,l,h=>Zrl rs (Zbq h r)
theorem Zc2:∀(rs:List Rf) {l:List Fd},Z5 l=Ht->rs.Nodup->(∀r∈rs,(ZD l r).2=0)->TK rs l=Hs (FW rs l)
 | [],l,_,_,_=>rfl
 |r::rs,l,hr,hn,hf=>by
  obtain⟨h1,h2⟩:=YI (hf r (by simp));have w0:=ZrE hr ⟨_,h1,h2⟩;obtain⟨_,_,w3,w4,_⟩:=ZoT w0;simp only[TK,w0,ne_eq,not_true_eq_false,if_false,FW];rw[Jv]at hn;refine Zc2 rs w3 hn.2 λx hx=> ?_
  obtain⟨g1,g2⟩:=YI (hf x (by simp[hx]));have hm:(ZD l x).1∈(YL l r).1:=(w4 _).2 ⟨g1,λe=>hn.1 (by rw[<-e,g2];exact hx)⟩;have:=YR (Z3.1 w3).2.1 hm;rw[g2]at this;rw[this]
theorem ZkJ {rs:List Rf} {l:List Fd} (hr:Z5 l=Ht) {r:Rf} (h:r∈rs) (hf:(ZD l r).2≠0):TK rs l=none:=by
 cases hg:TK rs l with
 |none=>rfl
 |some m=>
  obtain⟨f,hfm,e⟩:=(T3 hr hg).2.2.1 r h;have:=YR (Z3.1 hr).2.1 hfm;rw[e]at this;rw[this]at hf;exact absurd rfl hf
def XN (l:List Fd) (f:Fd) (ok:Bool):List Fd×Bool:=((VG l f).1,ok&&decide ((VG l f).2=0))
theorem Zk9 {f:Fd} (h:Z1 f=Ht) (hk:f.kind=3):f.worth=0:=by
 simp[Z1,hk]at h;exact h.2.1
theorem ZnU {r:Rf} {w:Int} (h:¬w<1048577):Z1 ⟨r,1,[],[],w⟩=false:=by
 simp[Z1,h]
def Zq (f:Fd) (r:Rf):Fd:=⟨r,f.kind,f.df,f.cases',f.worth⟩
def VA (x:Ln) (was rest:List Fd):List Fd×Bool:=
 if x.kind=2 then XN rest x.fd Ht
 else if x.kind=3 then(rest,decide (was.getD 0 Jd=x.fd))
 else if x.kind=6 then
  XN (XN rest ⟨Zf x.at' x.nm,1,[],[],(was.getD 0 Jd).worth⟩ (decide ((was.getD 0 Jd).kind=1)&&decide (IntKind.i64.wrap ((was.getD 0 Jd).worth*x.fac)<1048577))).1
   ⟨Zf x.at' x.ot,1,[],[],IntKind.i64.wrap ((was.getD 0 Jd).worth*x.fac)⟩
   (XN rest ⟨Zf x.at' x.nm,1,[],[],(was.getD 0 Jd).worth⟩ (decide ((was.getD 0 Jd).kind=1)&&decide (IntKind.i64.wrap ((was.getD 0 Jd).worth*x.fac)<1048577))).2
 else if x.kind=7 then XN rest ⟨x.at',4,[],[],0⟩ (decide ((was.getD 0 Jd).kind=2)&&decide ((was.getD 0 Jd).df=x.ot))
 else if x.kind=8 then XN rest ⟨x.at',3,x.ot,Yt x.ba,0⟩ ((decide ((was.getD 0 Jd).kind=3)&&decide ((was.getD 0 Jd).df=x.nm))&&decide ((was.getD 0 Jd).cases'=Yt x.fo))
 else if x.kind=9 then XN rest ⟨x.at',1,[],[],(was.getD 0 Jd).worth⟩ ((decide ((was.getD 0 Jd).kind=1)&&decide ((was.getD 1 Jd).kind=1))&&decide ((was.getD 1 Jd).worth=IntKind.i64.wrap ((was.getD 0 Jd).worth*x.fac)))
 else if x.kind=10 then XN rest ⟨x.at',2,x.ot,[],0⟩ (decide ((was.getD 0 Jd).kind=4))
 else XN rest (Zq (was.getD 0 Jd) ((Zc x).getD 0 Jd)) Ht
def TO (y:List Fd×Bool):List Fd×Int:=if y.2=Hf then([],16)else(y.1,0)
def Zh0 (y:Option (List Fd)):List Fd×Int:=match y with|none=>([],16)|some m=>(m,0)
theorem Zrp (rest:List Fd) (f:Fd) (ok:Bool):Zh0 (if ok=Hf then none else YJ [f] rest)=TO (XN rest f ok):=by
 unfold Zh0 TO XN;cases ok;simp;by_cases h:(VG rest f).2=0;simp[YJ,h];simp[YJ,h]
theorem Zro (rest:List Fd) (f:Fd):Zh0 (YJ [f] rest)=TO (XN rest f Ht):=Zrp rest f Ht
theorem ZkK {x:Ln} (h:ZI x=Ht):(Zt x).Nodup:=by
 unfold Zt;split;simp;split;simp;split;rename_i h9;simp only[Jv,Jm,JX,not_false_eq_true,List.nodup_nil,and_true];intro e;have e2:x.nm=x.ot:=by simpa[Zf]using congrArg (λr:Rf=>r.nm) e
 simp[ZI,h9,e2]at h;simp
theorem Zmb {l:List Fd} {x:Ln} (hl:Z5 l=Ht) (hx:ZI x=Ht):
  ZR l x=if ∃r∈Zt x,(ZD l r).2≠0 then([],16)else TO (VA x ((Zt x).map (ZE l)) (FW (Zt x) l)):=by
 have hk:=(Yi hx).1;unfold ZR;rw[if_neg (by simp[hl,hx])];show Zh0 (GK l x)=_;split;rename_i h;obtain⟨r,hr,hf⟩:=h;unfold GK;rw[ZkJ hl hr hf];split<;>rfl
 rename_i h;have hall:∀r∈Zt x,(ZD l r).2=0:=λr hr=>by
  refine J6 λhn=>h ⟨r,hr,hn⟩
 have hg:=Zc2 (Zt x) hl (ZkK hx) hall;have hp:∀r∈Zt x,Z1 (ZE l r)=Ht/\(ZE l r).at'=r:=λr hr=>by
  obtain⟨h1,h2⟩:=YI (hall r hr);exact⟨(Z3.1 hl).2.2 _ h1,h2⟩
 have pk:∀r,(ZD l r).1=ZE l r:=λ_=>rfl
 unfold GK;rw[hg,JH];clear hg h;generalize FW (Zt x) l=rest;have one:∀r∈Zt x,(ZD l r).2=0/\Z1 (ZE l r)=Ht/\(ZE l r).at'=r:=λr hr=>⟨hall r hr,hp r hr⟩
 clear hall hp;obtain⟨kind,at',nm,ot,fac,fd,fo,ba⟩:=x;simp only at hk;rcases hk with rfl|rfl|rfl|rfl|rfl|rfl|rfl|rfl|rfl|rfl;obtain⟨f0,-,-⟩:=one at' (by simp[Zt]);simp only[XZ,Zt,Zc,VA,pk,f0,Jc,Jq,Jh,Zq,Jr,if_true,if_false,ne_eq,not_true_eq_false,not_false_eq_true,reduceCtorEq,decide_true,Jl];first|exact Zrp _ _ _|exact Zro _ _
 simp only[XZ,Zt,Zc,VA,Jr,if_true,if_false,ne_eq,not_true_eq_false,not_false_eq_true,reduceCtorEq,decide_true,Jl];first|exact Zrp _ _ _|exact Zro _ _
 obtain⟨f0,-,-⟩:=one fd.at' (by simp[Zt]);simp only[XZ,Zt,VA,pk,f0,Jc,Jq,Jh,Jr,if_true,if_false,ne_eq,not_true_eq_false,not_false_eq_true,reduceCtorEq,decide_true,Jl];by_cases e:ZE l fd.at'=fd;simp[e,Zh0,TO,YJ];simp[e,Zh0,TO];obtain⟨f0,-,-⟩:=one at' (by simp[Zt]);simp only[XZ,Zt,Zc,VA,pk,f0,Jc,Jq,Jh,Zq,Jr,if_true,if_false,ne_eq,not_true_eq_false,not_false_eq_true,reduceCtorEq,decide_true,Jl];first|exact Zrp _ _ _|exact Zro _ _
 obtain⟨f0,-,-⟩:=one at' (by simp[Zt]);simp only[XZ,Zt,Zc,VA,pk,f0,Jc,Jq,Jh,Zq,Jr,if_true,if_false,ne_eq,not_true_eq_false,not_false_eq_true,reduceCtorEq,decide_true,Jl];first|exact Zrp _ _ _|exact Zro _ _
 obtain⟨f0,-,-⟩:=one at' (by simp[Zt]);simp only[XZ,Zt,Zc,VA,pk,f0,Jc,Jq,Jh,Jr,if_true,if_false,ne_eq,not_true_eq_false,not_false_eq_true,reduceCtorEq,decide_true,Jl];generalize ZE l at'=f;by_cases hw:IntKind.i64.wrap (f.worth*fac)<1048577;by_cases h1:f.kind=1;by_cases w1:(VG rest ⟨Zf at' nm,1,[],[],f.worth⟩).2=0;by_cases w2:(VG (VG rest ⟨Zf at' nm,1,[],[],f.worth⟩).1 ⟨Zf at' ot,1,[],[],IntKind.i64.wrap (f.worth*fac)⟩).2=0;simp[XN,Zh0,TO,YJ,hw,h1,w1,w2];simp[XN,Zh0,TO,YJ,hw,h1,w1,w2];simp[XN,Zh0,TO,YJ,hw,h1,w1];simp[XN,Zh0,TO,YJ,hw,h1];have w2:∀m,(VG m ⟨Zf at' ot,1,[],[],IntKind.i64.wrap (f.worth*fac)⟩).2≠0:=λm=>by
  unfold VG;rw[if_pos (.inr (ZnU hw))];decide
 have e:TO (XN (XN rest ⟨Zf at' nm,1,[],[],f.worth⟩ (decide (f.kind=1)&&decide (IntKind.i64.wrap (f.worth*fac)<1048577))).1 ⟨Zf at' ot,1,[],[],IntKind.i64.wrap (f.worth*fac)⟩ (XN rest ⟨Zf at' nm,1,[],[],f.worth⟩ (decide (f.kind=1)&&decide (IntKind.i64.wrap (f.worth*fac)<1048577))).2)=([],16):=by
  simp[XN,TO,hw]
 rw[e];by_cases h1:f.kind=1;simp[Zh0,YJ,h1,w2];simp[Zh0,h1];obtain⟨f0,-,-⟩:=one at' (by simp[Zt]);simp only[XZ,Zt,Zc,VA,pk,f0,Jc,Jq,Jh,Zq,Jr,if_true,if_false,ne_eq,not_true_eq_false,not_false_eq_true,reduceCtorEq,decide_true,Jl];first|exact Zrp _ _ _|exact Zro _ _
 obtain⟨f0,f1,f2⟩:=one at' (by simp[Zt]);have e8:decide (ZE l at'=⟨at',3,nm,Yt fo,0⟩)=((decide ((ZE l at').kind=3)&&decide ((ZE l at').df=nm))&&decide ((ZE l at').cases'=Yt fo)):=by
  generalize ZE l at'=f at *;by_cases k3:f.kind=3;have w0:=Zk9 f1 k3;obtain⟨a,b,c,d,e⟩:=f;simp only at k3 w0 f2;subst k3 w0 f2;simp;have:¬f=⟨at',3,nm,Yt fo,0⟩:=λe=>k3 (by rw[e])
  simp[this,k3]
 simp only[XZ,Zt,Zc,VA,pk,f0,Jc,Jq,Jh,Zq,e8,Jr,if_true,if_false,ne_eq,not_true_eq_false,not_false_eq_true,reduceCtorEq,decide_true,Jl];first|exact Zrp _ _ _|exact Zro _ _
 obtain⟨f0,-,-⟩:=one (Zf at' nm) (by simp[Zt]);obtain⟨g0,-,-⟩:=one (Zf at' ot) (by simp[Zt]);simp only[XZ,Ub,Zt,Zc,VA,pk,f0,g0,Jc,Jq,Jh,List.getD_cons_succ,Jr,if_true,if_false,ne_eq,not_true_eq_false,not_false_eq_true,reduceCtorEq,decide_true,Jl];generalize ZE l (Zf at' nm)=f;generalize ZE l (Zf at' ot)=g;by_cases h1:f.kind=1;by_cases h2:g.kind=1;by_cases h3:g.worth=IntKind.i64.wrap (f.worth*fac);simp[h1,h2,h3,Zro];simp[h1,h2,h3,Zh0,TO,XN];simp[h1,h2,Zh0,TO,XN];simp[h1,Zh0,TO,XN];obtain⟨f0,-,-⟩:=one at' (by simp[Zt]);simp only[XZ,Zt,Zc,VA,pk,f0,Jc,Jq,Jh,Zq,Jr,if_true,if_false,ne_eq,not_true_eq_false,not_false_eq_true,reduceCtorEq,decide_true,Jl];first|exact Zrp _ _ _|exact Zro _ _
open Go.PL
theorem Zkb (l:List Fd) (f:Fd) (hl:OkFs l) (hf:f.cases'.length<=1000000):Pp 222 [Zh l,fld f] (ZP (VG l f)):=by
 have hn:=hl.n;have hm:l.length<=maxLen:=by rw[Zb];omega
 have hR:=Uo l hm (λg hg=>by have:=hl.c g hg;rw[Zb];omega);have hF:=VW f (by rw[Zb];omega);have hI:Pp 175 [Zh l,ref f.at'] (.int .i64 (idx (atF f.at') l)):=F4 l f.at' hm;unfold VG;cases hr:Z5 l;rw[hr]at hR;simp only[true_or,if_true];refine Zx func222 rfl ntmps222 results222 (ZN _) ?_;simp only[go_sem,Zh,fld];refine vc2 hR ?_;simp only[go_sem,ZP,Zh];rw[hr]at hR;cases hrf:Z1 f;rw[hrf]at hF;simp only[or_true,if_true];refine Zx func222 rfl ntmps222 results222 (ZN _) ?_;simp only[go_sem,Zh,fld];refine vc2 hR ?_;simp only[go_sem];refine vc2 hF ?_;simp only[go_sem,ZP,Zh];rw[hrf]at hF;simp only[Ji,or_self,if_false];by_cases h2:(0:Int)<=idx (atF f.at') l;rw[if_pos h2];refine Zx func222 rfl ntmps222 results222 (ZN _) ?_;simp only[go_sem,Zh,fld];refine vc2 hR ?_;simp only[go_sem];refine vc2 hF ?_;simp only[go_sem];refine vc2 hI ?_;simp only[go_sem,h2,ZP,Zh];rw[if_neg h2];by_cases h3:(16:Int)<=(l.length:Int);rw[if_pos h3];have h3':(15:Int)<(l.length:Int):=by omega
 refine Zx func222 rfl ntmps222 results222 (ZN _) ?_;simp only[go_sem,Zh,fld];refine vc2 hR ?_;simp only[go_sem];refine vc2 hF ?_;simp only[go_sem];refine vc2 hI ?_;simp only[go_sem,h2,h3',ZP,Zh];rw[if_neg h3];have h3':¬(15:Int)<(l.length:Int):=by omega
 refine Zx func222 rfl ntmps222 results222 (ZN _) ?_;simp only[go_sem,Zh,fld];refine vc2 hR ?_;simp only[go_sem];refine vc2 hF ?_;simp only[go_sem];refine vc2 hI ?_;simp only[go_sem,h2,h3',Zh];refine ZL 6 24 45 0 7 73 [] rfl rfl rfl ?_;refine Zs (ι:= { x:Nat×(List Fd) // x.1<=(l).length/\(x.2++Zcc (l.drop x.1) f=Zcc l f) }) 66 (λx=> [(0,Zh l),(3,.ptr 3 0),(6,.sl (.row 45) (x.1.2.map fld)),(7,.int .i64 (x.1.1:Int))]) (λx=> [(3,TV f,Hf)]) (λx=> [(45,.live (x.1.2.length) (7) (73))]) (λx=>(l).length-x.1.1) ⟨(0,[]),Jb _,rfl⟩ ⟨rfl,(Fc4 rfl rfl rfl rfl),(fcs ⟨rfl,rfl⟩ fnl),(fcs rfl fnl)⟩ (λx=>⟨(Fc4 rfl rfl (by simp[J8,ZX]) rfl),(fcs rfl fnl)⟩) (λx=> ?_);obtain⟨⟨k,acc⟩,hk,hI⟩:=x;simp only at hk hI ⊢;have hacc:acc.length<=l.length+1:=by rw[<-Gl l f,<-hI,Jy];omega
 have hrm:=Ya (show acc.length+1<=1000000 by omega) (show 96<=1000 by omega);have second:∀(acc:List Fd) (k:Nat) (hk:k<=l.length),(acc++ [f])++l.drop k=Zcc l f->True:=λ_ _ _ _=>trivial
 by_cases h:(k:Int)<(l.length:Int)
 (have hka:k<(l).length:=by omega);(have w1:=Xi hka (hm));(have i1:=Jf k)
 have hL:=Zcx (l.getD k Jd).at' f.at';rw[Xa hka (d:=Jd)]at hI;cases hb:Va (l.getD k Jd).at' f.at';rw[hb]at hL;rw[ZrV hb]at hI;simp only[go_sem,Zh,TV];refine vDq ?_;simp only[go_sem,h,i1,Zy hka,fld];refine vc1 hL ?_;simp only[go_sem,fld,YP,hrm];refine ZL 6 51 62 (acc.length+1) 7 73 ((acc++ [f]).map fld) (by simp[upd,fld]) rfl rfl ?_;refine Zs (ι:=WB l f) 66 (λx=> [(0,Zh l),(6,.sl (.row 62) (x.acc.map fld)),(7,.int .i64 (x.k:Int))]) (λx=> []) (λx=> [(62,.live x.acc.length 7 73)]) (λx=>l.length-x.k) ⟨k,acc++ [f],hk,by rw[Xa hka (d:=Jd),<-hI];simp⟩
  ⟨rfl,Fc3 rfl rfl rfl,fnl,fcs (by simp[upd,Hp.setq,St.with]) fnl⟩ (λx=>⟨Fc3 rfl (by simp[J8,ZX]) rfl,fnl⟩) (λx=> ?_)
 obtain⟨k2,acc2,hk2,hx2⟩:=x;simp only;have hacc2:acc2.length<=l.length+1:=by rw[<-Gl l f,<-hx2,Jy];omega
 have hrm2:=Ya (show acc2.length+1<=1000000 by omega) (show 96<=1000 by omega);by_cases h':(k2:Int)<(l.length:Int);have hka2:k2<l.length:=by omega
 have w2:=Xi hka2 hm;have i2:=Jf k2
 rw[Xa hka2 (d:=Jd)]at hx2;simp only[go_sem,Zh,h',i2,Zy hka2,fld,YP,hrm2,w2];exact⟨⟨k2+1,acc2++ [l.getD k2 Jd],by omega,by rw[<-hx2];simp⟩,nx9 (by omega),⟨rfl,Fc3 rfl (by simp[upd,fld]) rfl,fnl,fcs (by simp[upd]) fnl⟩⟩;obtain rfl:k2=l.length:=by omega
 rw[JG,Ja]at hx2;subst hx2;simp only[go_sem,Zh,h',ZP]
 ·rw[hb]at hL;rw[ZrW hb]at hI;simp only[go_sem,Zh,TV];refine vDq ?_;simp only[go_sem,h,i1,Zy hka,fld];refine vc1 hL ?_;simp only[go_sem,h,i1,Zy hka,fld,YP,hrm,w1];exact⟨⟨(k+1,acc++ [l.getD k Jd]),by(try simp only);omega,by rw[<-hI];simp⟩,by show(l).length-(k+1)<(l).length-k;omega,⟨rfl,(Fc4 rfl rfl (by simp[upd,fld]) rfl),(fcs ⟨rfl,rfl⟩ fnl),(fcs (by simp[upd]) fnl)⟩⟩
 obtain rfl:k=l.length:=by omega
 simp only[go_sem,Zh,TV];refine vDq ?_;simp only[go_sem,h,fld,YP,hrm];refine ZL 6 51 62 (acc.length+1) 7 73 ((acc++ [f]).map fld) (by simp[upd,fld]) rfl rfl ?_;refine Zs (ι:=WB l f) 66 (λx=> [(0,Zh l),(6,.sl (.row 62) (x.acc.map fld)),(7,.int .i64 (x.k:Int))]) (λx=> []) (λx=> [(62,.live x.acc.length 7 73)]) (λx=>l.length-x.k) ⟨l.length,acc++ [f],hk,by rw[<-hI];simp[Zcc]⟩
   ⟨rfl,Fc3 rfl rfl rfl,fnl,fcs (by simp[upd,Hp.setq,St.with]) fnl⟩ (λx=>⟨Fc3 rfl (by simp[J8,ZX]) rfl,fnl⟩) (λx=> ?_)
 obtain⟨k2,acc2,hk2,hx2⟩:=x;simp only;have hacc2:acc2.length<=l.length+1:=by rw[<-Gl l f,<-hx2,Jy];omega
 have hrm2:=Ya (show acc2.length+1<=1000000 by omega) (show 96<=1000 by omega);by_cases h':(k2:Int)<(l.length:Int);have hka2:k2<l.length:=by omega
 have w2:=Xi hka2 hm;have i2:=Jf k2
 rw[Xa hka2 (d:=Jd)]at hx2;simp only[go_sem,Zh,h',i2,Zy hka2,fld,YP,hrm2,w2];exact⟨⟨k2+1,acc2++ [l.getD k2 Jd],by omega,by rw[<-hx2];simp⟩,nx9 (by omega),⟨rfl,Fc3 rfl (by simp[upd,fld]) rfl,fnl,fcs (by simp[upd]) fnl⟩⟩;obtain rfl:k2=l.length:=by omega
 rw[JG,Ja]at hx2;subst hx2;simp only[go_sem,Zh,h',ZP]
theorem ZdQ (l:List Fd) (r:Rf) (hl:OkFs l):Pp 176 [Zh l,ref r] (ZP (YL l r)):=by
 have hn:=hl.n;have hm:l.length<=maxLen:=by rw[Zb];omega
 have hR:=Uo l hm (λg hg=>by have:=hl.c g hg;rw[Zb];omega);have hI:Pp 175 [Zh l,ref r] (.int .i64 (idx (atF r) l)):=F4 l r hm;unfold YL;cases hr:Z5 l;rw[hr]at hR;refine Zx func176 rfl ntmps176 results176 (ZN _) ?_;simp only[go_sem,Zh,ref];refine vc2 hR ?_;simp only[go_sem,ZP,Zh,if_true];rw[hr]at hR;rcases Y0 (atF r) l with h2|⟨g,hg,h2⟩;rw[h2]at hI ⊢;refine Zx func176 rfl ntmps176 results176 (ZN _) ?_;simp only[go_sem,Zh,ref];refine vc2 hR ?_;simp only[go_sem,Zh];refine vc2 hI ?_;simp only[go_sem,ZP,Zh];have i3:¬(g:Int)<0:=by omega
 have hrise:=(Z3.1 hr).2.1;have hgl:(l.getD g Jd).at'=r:=by
  rcases Ga l r with ⟨e,_⟩|⟨i,hi,e,hat⟩;rw[e]at h2;omega;have:i=g:=by rw[e]at h2;omega
  subst this;rw[getD_lt hi];exact hat
 rw[h2]at hI;rw[h2,if_neg i3];simp only[Ji,if_false,JE];refine Zx func176 rfl ntmps176 results176 (ZN _) ?_;simp only[go_sem,Zh,ref];refine vc2 hR ?_;simp only[go_sem,Zh];refine vc2 hI ?_;simp only[go_sem,Zh,i3];refine ZL 6 15 35 0 7 73 [] rfl rfl rfl ?_;refine Zs (ι:= { x:Nat×(List Fd) // x.1<=(l).length/\(x.2=(l.take x.1).eraseIdx g) }) 37 (λx=> [(0,Zh l),(3,.ptr 3 0),(6,.sl (.row 35) (x.1.2.map fld)),(7,.int .i64 (x.1.1:Int))]) (λx=> [(3,[.int .i64 r.sc,.str r.gr,.str r.nm],Hf)]) (λx=> [(35,.live (x.1.2.length) (7) (73))]) (λx=>(l).length-x.1.1) ⟨(0,[]),Jb _,rfl⟩ ⟨rfl,(Fc4 rfl rfl rfl rfl),(fcs ⟨rfl,rfl⟩ fnl),(fcs rfl fnl)⟩ (λx=>⟨(Fc4 rfl rfl (by simp[J8,ZX]) rfl),(fcs rfl fnl)⟩) (λx=> ?_);obtain⟨⟨k,acc⟩,hk,hI⟩:=x;simp only at hk hI ⊢;have hacc:acc.length<=l.length:=by
  rw[hI];exact JV (JR _ _) (Vg _ _)
 by_cases h:(k:Int)<(l.length:Int)
 (have hka:k<(l).length:=by omega);(have w1:=Xi hka (hm));(have i1:=Jf k)
 have hrm:=Ya (show acc.length+1<=1000000 by omega) (show 96<=1000 by omega);have hs:=ZcO (l:=l) (k:=k) (g:=g) (d:=Jd) hka;by_cases he:k=g
 ·have hd:decide ((l.getD k Jd).at'=r)=true:=by rw[he,hgl];simp
  rw[if_pos he,Ja]at hs;simp only[go_sem,Zh,h];refine vDq ?_;simp only[go_sem,Zy hka,fld,i1,h,Zr,hd,w1];exact⟨⟨(k+1,acc),by(try simp only);omega,by simp only;rw[hs,hI]⟩,by show(l).length-(k+1)<(l).length-k;omega,⟨rfl,(Fc4 rfl rfl (by simp[upd,fld]) rfl),(fcs ⟨rfl,rfl⟩ fnl),(fcs (by simp[upd]) fnl)⟩⟩
 ·have hd:decide ((l.getD k Jd).at'=r)=false:=by
   rw[decide_eq_false_iff_not];intro e;have hkm:=Ze (d:=Jd) hka;have hgm:=Ze (d:=Jd) hg;have hp:=hrise;rw[Zl0,Je]at hp;rcases Nat.lt_or_gt_of_ne he with h'|h';have:=hp k g hka hg h';rw[<-getD_lt (d:=Jd) hka,<-getD_lt (d:=Jd) hg,e,hgl,WK]at this;cases this;have:=hp g k hg hka h';rw[<-getD_lt (d:=Jd) hka,<-getD_lt (d:=Jd) hg,e,hgl,WK]at this;cases this
  rw[if_neg he]at hs;simp only[go_sem,Zh,h];refine vDq ?_;simp only[go_sem,Zy hka,fld,i1,h,Zr,hd,YP,hrm,w1];exact⟨⟨(k+1,acc++ [l.getD k Jd]),by(try simp only);omega,by simp only;rw[hs,hI]⟩,by show(l).length-(k+1)<(l).length-k;omega,⟨rfl,(Fc4 rfl rfl (by simp[upd,fld]) rfl),(fcs ⟨rfl,rfl⟩ fnl),(fcs (by simp[upd]) fnl)⟩⟩
 obtain rfl:k=l.length:=by omega
 rw[JZ]at hI;subst hI;simp only[go_sem,h,Zh,ZP]
theorem Yk (l:List Fd) (f:Fd) (ok:Bool) (hl:OkFs l) (hf:f.cases'.length<=1000000):Pp 178 [Zh l,fld f,.bool ok] (YZ (XN l f ok)):=by
 have hW:=Zkb l f hl hf;unfold XN;generalize VG l f=y at *;obtain⟨m,c⟩:=y;cases ok;refine Zx func178 rfl ntmps178 results178 (YO _) ?_;simp only[go_sem,Zh,fld];refine vc2 hW ?_;simp only[go_sem,ZP,Zh,YZ,Jz];by_cases hc:c=0;subst hc;refine Zx func178 rfl ntmps178 results178 (YO _) ?_;simp only[go_sem,Zh,fld];refine vc2 hW ?_;simp only[go_sem,ZP,Zh,YZ,JQ];have e:(c==0)=false:=by simpa using hc
 refine Zx func178 rfl ntmps178 results178 (YO _) ?_;simp only[go_sem,Zh,fld];refine vc2 hW ?_;simp only[go_sem,ZP,Zh,YZ,e,hc,JA]
theorem S9 (f:Fd) (r:Rf):Pp 179 [fld f,ref r] (fld (Zq f r)):=by
 refine Zx func179 rfl ntmps179 results179 (Zd4 _) ?_;simp only[go_sem,fld,ref,Zq]
theorem Td (r:Rf) (s:Str):Pp 221 [ref r,.str s] (ref (Zf r s)):=by
 refine Zx func221 rfl ntmps221 results221 (Zey _) ?_;simp only[go_sem,ref,Zf]
theorem Zcv (x:Ln):Pp 174 [lns x] (refs (Zt x)):=by
 have h1:=Td x.at' x.nm;have h2:=Td x.at' x.ot;refine Zx func174 rfl ntmps174 results174 (Dh _) ?_;simp only[go_sem,lns];repeat' ((first|(first|apply ZC|apply ZB|apply ZO)<;>intro h|refine vc3 h1 ?_|refine vc3 h2 ?_|refine vDq ?_)<;>first|simp only[go_sem,h,ref]|simp only[go_sem,ref]|skip)
 all_goals (clear h1 h2;simp_all[Zt,refs,Zf,ref])
theorem Zay (x:Ln):Pp 177 [lns x] (refs (Zc x)):=by
 have h1:=Td x.at' x.nm;have h2:=Td x.at' x.ot;refine Zx func177 rfl ntmps177 results177 (Dh _) ?_;simp only[go_sem,lns];repeat' ((first|(first|apply ZC|apply ZB|apply ZO)<;>intro h|refine vc3 h1 ?_|refine vc3 h2 ?_|refine vDq ?_)<;>first|simp only[go_sem,h,ref]|simp only[go_sem,ref]|skip)
 all_goals (clear h1 h2;simp_all[Zc,refs,Zf,ref])
end Go.Proofs.YtadgngamdofhiaaGreat
