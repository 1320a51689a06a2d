/- Lemmas. -/
import Derived.Test.YtcmpkokndngplaaGreatXAy
import Derived.Test.YtcmpkokndngplaaGreatXBc
set_option linter.defProp false
open Inhabited renaming default→Jd
open Option renaming some→Hs
open Bool renaming true→Ht,false→Hf
open Go.Proofs.Tryz
open Go Go.PL
open Bool renaming true_eq_false→Ja,and_eq_true→Jg,false_eq_true→JA,or_eq_false_iff→JE,not_eq_true'→J3,eq_false_iff→J4
open Classical renaming not_not→Ki
open Decidable renaming byContradiction→Kc
open Int renaming reduceEq→Jh,natCast_nonneg→Jq,toNat_natCast→JN
open List renaming append_nil→Jb,mem_map→Jc,pairwise_iff_getElem→Je,getElem_map→Jf,nodup_iff_pairwise_ne→Ji,getElem_mem→Jj,map_cons→Jk,getD_cons_zero→Jm,mem_append→Jo,getElem_of_mem→Jp,findIdx?_eq_some_iff_getElem→Jr,mem_of_find?_eq_some→Js,mem_singleton→Ju,mem_of_mem_drop→Jv,length_cons→Jw,mem_cons→Jy,nodup_cons→Jz,take_add_one→JB,mem_append_right→JC,take_append_of_le_length→JD,map_append→JF,map_map→JI,pairwise_cons→JJ,length_append→JK,find?_eq_none→JL,findIdx?_eq_none_iff→JM,nodup_append→JP,ext_getElem→JR,take_length→JT,take_of_length_le→JU,mem_append_left→JW,map_congr_left→JY,find?_append→JZ,any_eq_false→J2,cons_append→J5,mem_reverse→J6,length_map→J8,find?_map→J9,map_take→Kd,length→Kf
open Nat renaming zero_le→Jn,lt_trichotomy→JO,not_lt_zero→JV,sub_sub→Kg
open Option renaming map_some→JG,bind_eq_some_iff→JQ,getD_some→JS,some→J7
open PV renaming didsL→Jl,dids→Jt,givableL→JX,giveL→Ka,ids→Ke,sl→Kh
open Prod renaming mk→JH
namespace Go.Proofs.YtcmpkokndngplaaGreat
set_option maxHeartbeats 64000000
set_option maxRecDepth 20000
set_option linter.unusedVariables false
set_option linter.unusedSimpArgs false
theorem DS (l:List Fd) (r:Rf):(idx (atF r) l= -1/\ ∀g∈l,g.at'≠r)\/ ∃i:Nat,∃h:i<l.length,idx (atF r) l=(i:Int)/\(l[i]).at'=r:=by
 unfold idx;cases a:l.findIdx? (atF r)with
 |none=>
  left;refine⟨rfl,λg d e=> ?_⟩;rw[JM]at a;have:=a g d;simp[atF,e]at this
 |some i=>
  right;rw[Jr]at a;obtain⟨b,c,_⟩:=a;exact⟨i,b,rfl,by simpa[atF]using c⟩
def YZ {l:List Fd} (h:ZmK l) {f:Fd} (b:f∈l):Zp l f.at'=(f,0):=by
 unfold Zp;rcases DS l f.at' with ⟨_,a⟩|⟨i,c,d,a⟩;exact absurd rfl (a f b);rw[d,if_neg (by omega)];simp only[JN];rw[getD_lt c];rw[ZeJ h (Jj c) b a]
def Y1 {l:List Fd} {r:Rf} (h:(Zp l r).2=0):(Zp l r).1∈l/\(Zp l r).1.at'=r:=by
 unfold Zp at *;rcases DS l r with ⟨a,_⟩|⟨i,b,a,c⟩;rw[a]at h;simp at h;rw[a,if_neg (by omega)];simp only[JN];rw[getD_lt b];exact⟨Jj b,c⟩
theorem Ztl {l:List Fd} {r:Rf} (h:(Xn l r).2=0):ZP l=Ht/\(∃f∈l,f.at'=r)/\ZP (Xn l r).1=Ht/\(∀g,g∈(Xn l r).1↔g∈l/\g.at'≠r)/\(Xn l r).1.length+1=l.length:=by
 unfold Xn at *;cases p:ZP l with
 |false=>rw[p]at h;simp at h
 |true=>
  rcases DS l r with ⟨n,_⟩|⟨i,d,n,o⟩
  ·rw[p,n]at h;simp at h
  ·simp only[n,Ja,if_false,show ¬(i:Int)<0 by omega,JN];obtain⟨w,m,v⟩:=ZL.1 p;have a:(l.eraseIdx i).Sublist l:=List.eraseIdx_sublist _ _;have k:(l.eraseIdx i).length+1=l.length:=by rw[List.length_eraseIdx_of_lt d];omega
   refine⟨trivial,⟨_,Jj d,o⟩,ZL.2 ⟨by omega,List.Pairwise.sublist a m,λf t=>v f (a.mem t)⟩,λg=> ?_,k⟩;rw[List.mem_eraseIdx_iff_getElem];constructor
   ·rintro ⟨j,c,b,rfl⟩
    refine⟨Jj c,λe=> ?_⟩;have s:=ZeJ m (Jj c) (Jj d) (e.trans o.symm);rcases JO j i with q|q|q
    ·have:=Je.1 m j i c d q;rw[s,W8]at this;cases this
    ·exact b q
    ·have:=Je.1 m i j d c q;rw[s,W8]at this;cases this
   ·rintro ⟨u,b⟩
    obtain⟨j,c,rfl⟩:=Jp u;exact⟨j,c,λe=>b (by subst e;exact o),rfl⟩
def Zxo {l:List Fd} {r:Rf} (d:ZP l=Ht) (h:∃f∈l,f.at'=r):(Xn l r).2=0:=by
 obtain⟨f,c,e⟩:=h;unfold Xn;rcases DS l r with ⟨_,a⟩|⟨i,g,b,a⟩;exact absurd e (a f c);simp[d,b,show ¬(i:Int)<0 by omega]
def Zii (l:List Fd) (f g:Fd):g∈Zgc l f↔g∈l\/g=f:=by
 unfold Zgc;have:=List.takeWhile_append_dropWhile (p:=Zlz f.at') (l:=l);constructor;intro h;rcases Jo.1 h with h|h;exact .inl (by rw[<-this];exact JW _ h);rcases Jy.1 h with h|h;exact .inr h;exact .inl (by rw[<-this];exact JC _ h);rintro (h|h);rw[<-this]at h;rcases Jo.1 h with h|h;exact JW _ h;exact JC _ (List.mem_cons_of_mem _ h);exact JC _ (by simp[h])
theorem ZjO:∀ {l:List Fd} {f:Fd},ZmK l->(∀g∈l,g.at'≠f.at')->ZmK (Zgc l f)
 | [],f,_,_=>List.pairwise_singleton _ _
 |a::l,f,h,hn=>by
  obtain⟨p,q⟩:=JJ.1 h;cases e:V0 a.at' f.at' with
  |true=>
   rw[ZvC e];refine JJ.2 ⟨λx b=> ?_,ZjO q (λg i=>hn g (by simp[i]))⟩;rcases(Zii l f x).1 b with b|b
   ·exact p x b
   ·rw[b];exact e
  |false=>
   rw[ZvB e];have d:V0 f.at' a.at'=true:=by
    rcases Zrp a.at' f.at' with c|c|c
    ·rw[e]at c;cases c
    ·exact absurd c (hn a (by simp))
    ·exact c
   refine JJ.2 ⟨λx b=> ?_,h⟩;rcases Jy.1 b with rfl|b
   ·exact d
   ·exact Zex d (p x b)
theorem Ztk {l:List Fd} {f:Fd} (h:(DH l f).2=0):ZP l=Ht/\ZT f=Ht/\(∀g∈l,g.at'≠f.at')/\ZP (DH l f).1=Ht/\(∀g,g∈(DH l f).1↔g∈l\/g=f)/\(DH l f).1.length=l.length+1:=by
 unfold DH at *;cases b:ZP l with
 |false=>rw[b]at h;simp at h
 |true=>
  cases d:ZT f with
  |false=>rw[b,d]at h;simp at h
  |true=>
   rcases DS l f.at' with ⟨c,e⟩|⟨i,o,c,e⟩
   ·by_cases k:16<=(l.length:Int)
    ·rw[b,d,c]at h;simp[k]at h
    ·simp only[c,Ja,or_self,if_false,k,show ¬(0:Int)<= -1 by omega];obtain⟨p,m,n⟩:=ZL.1 b;have j:=Zeu l f;refine⟨trivial,trivial,e,ZL.2 ⟨by omega,ZjO m e,λg a=> ?_⟩,λg=>Zii l f g,j⟩;rcases(Zii l f g).1 a with a|a
     ·exact n g a
     ·rw[a];exact d
   ·rw[b,d,c]at h;simp at h
def Zxn {l:List Fd} {f:Fd} (h:ZP l=Ht) (c:ZT f=Ht) (e:∀g∈l,g.at'≠f.at') (j:l.length<16):(DH l f).2=0:=by
 unfold DH;rcases DS l f.at' with ⟨a,b⟩|⟨i,d,a,b⟩;simp[h,c,a,show ¬16<=(l.length:Int)by omega];exact absurd b (e _ (Jj d))
theorem Ga:∀ {rs:List Rf} {l m:List Fd},ZP l=Ht->G5 rs l=Hs m->ZP m=Ht/\(∀g,g∈m↔g∈l/\g.at'∉rs)/\(∀r∈rs,∃f∈l,f.at'=r)/\rs.Nodup/\m.length+rs.length=l.length
 | [],l,m,hr,h=>by cases h;exact⟨hr,by simp,by simp,by simp,by simp⟩
 |r::rs,l,m,hr,h=>by
  unfold G5 at h;split at h;cases h;rename_i s;obtain⟨t,j,k,a,u⟩:=Ztl (by simpa using s);obtain⟨n,o,i,p,v⟩:=Ga k h;refine⟨n,λg=> ?_,λq d=> ?_,Jz.2 ⟨λc=> ?_,p⟩,by simp only[Jw];omega⟩;rw[o,a];simp only[Jy,not_or];exact⟨λh=>⟨h.1.1,h.1.2,h.2⟩,λh=>⟨⟨h.1,h.2.1⟩,h.2.2⟩⟩;rcases Jy.1 d with rfl|d;exact j;obtain⟨f,b,e⟩:=i q d;exact⟨f,((a f).1 b).1,e⟩;obtain⟨f,b,e⟩:=i r c;exact((a f).1 b).2 e
theorem ZsO:∀ {rs:List Rf} {l:List Fd},ZP l=Ht->rs.Nodup->(∀r∈rs,∃f∈l,f.at'=r)-> ∃m,G5 rs l=Hs m
 | [],l,_,_,_=>⟨l,rfl⟩
 |r::rs,l,hr,hn,h=>by
  rw[Jz]at hn;have b:=Zxo hr (h r (by simp));obtain⟨k,n,c,d,o⟩:=Ztl b;obtain⟨m,j⟩:=ZsO (rs:=rs) c hn.2 (λq a=>by
   obtain⟨f,i,e⟩:=h q (by simp[a]);exact⟨f,(d f).2 ⟨i,λg=>hn.1 (by rw[<-g,e];exact a)⟩,e⟩)
  exact⟨m,by unfold G5;rw[if_neg (by simp[b])];exact j⟩
theorem WU:∀ {fs l m:List Fd},ZP l=Ht->We fs l=Hs m->ZP m=Ht/\(∀g,g∈m↔g∈l\/g∈fs)/\(∀f∈fs,ZT f=Ht/\ ∀g∈l,g.at'≠f.at')/\(fs.map (·.at')).Nodup/\m.length=l.length+fs.length
 | [],l,m,hr,h=>by cases h;exact⟨hr,by simp,by simp,by simp,by simp⟩
 |f::fs,l,m,hr,h=>by
  unfold We at h;split at h;cases h;rename_i s;obtain⟨t,i,j,k,b,u⟩:=Ztk (by simpa using s);obtain⟨n,o,c,p,v⟩:=WU k h;refine⟨n,λg=> ?_,λq a=> ?_,?_,by simp only[Jw];omega⟩;rw[o,b,Jy,or_assoc];rcases Jy.1 a with rfl|a;exact⟨i,j⟩;exact⟨(c q a).1,λg r=>(c q a).2 g ((b g).2 (.inl r))⟩;rw[Jk,Jz];refine⟨λd=> ?_,p⟩;obtain⟨q,a,e⟩:=Jc.1 d;exact(c q a).2 f ((b f).2 (.inr rfl)) e.symm
theorem Zjm:∀ {fs l:List Fd},ZP l=Ht->(∀f∈fs,ZT f=Ht)->(∀f∈fs,∀g∈l,g.at'≠f.at')->(fs.map (·.at')).Nodup->l.length+fs.length<=16-> ∃m,We fs l=Hs m
 | [],l,_,_,_,_,_=>⟨l,rfl⟩
 |f::fs,l,hr,hf,hp,hn,hl=>by
  rw[Jk,Jz]at hn;simp only[Jw]at hl;have c:=Zxn hr (hf f (by simp)) (hp f (by simp)) (by omega);obtain⟨j,k,n,d,h,o⟩:=Ztk c;obtain⟨m,i⟩:=Zjm (fs:=fs) d (λq b=>hf q (by simp[b])) (λq b g a e=>by
   rcases(h g).1 a with a|a;exact hp q (by simp[b]) g a e;exact hn.1 (Jc.2 ⟨q,b,by rw[<-e,a]⟩)) hn.2 (by omega)
  exact⟨m,by unfold We;rw[if_neg (by simp[c])];exact i⟩
def Xb {l m:List Fd} {x:Ln} (h:ZW l x=(m,0)):ZP l=Ht/\Zx x=Ht/\ ∃cs b,WM l x=(cs,Ht)/\G5 (ZN x) l=Hs b/\We cs b=Hs m:=by
 unfold ZW at h;split at h;simp at h;rename_i c;simp only[not_or,Bool.not_eq_false]at c;refine⟨c.1,c.2,?_⟩;split at h;simp at h;rename_i k a;simp only[JH.injEq,and_true]at h;subst h;unfold ZcR at a;split at a;cases a;rename_i f;obtain⟨b,d,e⟩:=JQ.1 a;refine⟨(WM l x).1,b,?_,d,e⟩;have:(WM l x).2=true:=by simpa using f
 rw[<-this]
def TW {l l1 m cs gs:List Fd} {x y:Ln} (s:ZP l=Ht) (D:G5 (ZN x) l=Hs l1) (E:We cs l1=Hs m) (K:Zx y=Ht) (L:ZN y=cs.map (·.at')) (M:WM m y=(gs,Ht)) (n:∀g∈gs,g∈l) (j:gs.map (·.at')=ZN x):ZW m y=(l,0):=by
 obtain⟨h,o,O,u,P⟩:=Ga s D;obtain⟨k,p,v,w,Q⟩:=WU h E;obtain⟨X,t,N⟩:=ZL.1 s;obtain⟨m1,d⟩:=ZsO (rs:=cs.map (·.at')) k w (λr J=>by
  obtain⟨f,a,e⟩:=Jc.1 J;exact⟨f,(p f).2 (.inr a),e⟩)
 obtain⟨c1,z,R,S,T⟩:=Ga k d;have B:m1=l1:=ZeK (ZL.1 c1).2.1 (ZL.1 h).2.1 λf=>by
  rw[z,p];constructor;rintro ⟨a|a,I⟩;exact a;exact absurd (Jc.2 ⟨f,a,rfl⟩) I;intro a;refine⟨.inl a,λb=> ?_⟩;obtain⟨q,i,e⟩:=Jc.1 b;exact(v q i).2 f a e.symm
 subst B;have G:gs.length=(ZN x).length:=by rw[<-j];simp
 obtain⟨l2,c⟩:=Zjm (fs:=gs) h (λf a=>N f (n f a)) (λf a g F e=>((o g).1 F).2 (by rw[e,<-j];exact Jc.2 ⟨f,a,rfl⟩)) (by rw[j];exact u) (by omega);obtain⟨A,d2,U,V,W⟩:=WU h c;have C:l2=l:=ZeK (ZL.1 A).2.1 t λf=>by
  rw[d2,o];constructor;rintro (a|a);exact a.1;exact n f a;intro a;by_cases b:f.at'∈ZN x;right;rw[<-j]at b;obtain⟨q,i,e⟩:=Jc.1 b;rw[<-ZeJ t (n q i) a e];exact i;exact .inl ⟨a,b⟩
 subst C;unfold ZW;rw[if_neg (by simp[k,K])];have:ZcR m y=Hs l2:=by
  unfold ZcR;rw[M,if_neg (by simp),L,d];exact c
 rw[this]
def Xz (m:List Eg) (id:Tg):Option Eg:=m.find? λe=>decide (id=e.id)
def Wg {m:List Eg} {id:Tg} {e:Eg} (h:Xz m id=Hs e):id=e.id/\e∈m:=by
 unfold Xz at h;exact⟨by simpa using List.find?_some h,Js h⟩
inductive Way (m:List Eg):Tg->List Eg->Prop
 |root:Way m Jd []
 |step {id:Tg} {e:Eg} {w:List Eg} (hn:id≠Jd) (he:Xz m id=Hs e) (hw:Way m e.par w):Way m id (w++ [e])
theorem Way.fn {m:List Eg} {id:Tg} {w w':List Eg} (h:Way m id w) (a:Way m id w'):w=w':=by
 induction h generalizing w' with
 |root=>cases a with
  |root=>rfl
  |step hn he hw=>exact absurd rfl hn
 |step hn he hw ih=>
  cases a with
  |root=>exact absurd rfl hn
  |step hn' he' hw'=>
   rw[he]at he';cases he';rw[ih hw']
theorem Way.mem {m:List Eg} {id:Tg} {w:List Eg} (h:Way m id w):∀e∈w,e∈m:=by
 induction h with
 |root=>intro e b;cases b
 |step hn b hw ih=>
  intro x a;rcases Jo.1 a with a|a;exact ih x a;rw[Ju.1 a];exact(Wg b).2
theorem Way.take {m:List Eg} {id:Tg} {w:List Eg} (h:Way m id w):∀k (a:k<w.length),Way m (w[k]).id (w.take (k+1)):=by
 induction h with
 |root=>intro k a;simp at a
 |step hn he hw ih=>
  rename_i id e w;intro k a;by_cases b:k<w.length;rw[List.getElem_append_left b,JD (by omega)];exact ih k b;have c:k=w.length:=by simp at a;omega
  subst c;have d:(w++ [e])[w.length]'a=e:=by simp
  rw[d,JU (by simp)];have:=(Wg he).1;rw[<-this];exact .step hn he hw
def Way.nodup {m:List Eg} {id:Tg} {w:List Eg} (h:Way m id w):w.Nodup:=by
 rw[Ji,Je];intro i j c f d e;have a:=h.take i c;have b:=h.take j f;rw[e]at a;have:=congrArg Kf (a.fn b);simp at this;omega
theorem ZeD {α:Type} [DecidableEq α]:∀ {l m:List α},l.Nodup->(∀x∈l,x∈m)->l.length<=m.length
 | [],_,_,_=>Jn _
 |a::l,m,hn,hs=>by
  rw[Jz]at hn;have b:a∈m:=hs a (by simp);have:=ZeD (l:=l) (m:=m.erase a) hn.2 (λx c=>(List.mem_erase_of_ne (λe:x=a=>hn.1 (e▸c))).2 (hs x (by simp[c])));rw[List.length_erase_of_mem b]at this;have:0<m.length:=List.length_pos_of_mem b;simp only[Jw];omega
def Way.len {m:List Eg} {id:Tg} {w:List Eg} (h:Way m id w):w.length<=m.length:=ZeD h.nodup h.mem
def Zti (m:List Eg):Nat->Tg->List Eg->Option (List Eg)
 |0,_,_=>none
 |k+1,id,way=>if id=Jd then Hs way else match Xz m id with
  |none=>none
  |some e=>Zti m k e.par (e::way)
def Zmq (m:List Eg) (id:Tg):Option (List Eg):=Zti m (m.length+1) id []
theorem ZdU {m:List Eg}:∀ {k:Nat} {id:Tg} {a r:List Eg},Zti m k id a=Hs r-> ∃w,Way m id w/\r=w++a
 |0,_,_,_,h=>by cases h
 |k+1,id,a,r,h=>by
  unfold Zti at h;split at h;rename_i hd;cases h;exact⟨[],hd▸ .root,rfl⟩;rename_i hd;split at h;cases h;rename_i e d;obtain⟨w,b,c⟩:=ZdU h;exact⟨w++ [e],.step hd d b,by rw[c];simp⟩
theorem ZpM {m:List Eg} {id:Tg} {w:List Eg} (h:Way m id w):∀ {k:Nat} (a:List Eg),w.length<k->Zti m k id a=Hs (w++a):=by
 induction h with
 |root=>intro k a b;cases k with
  |zero=>simp at b
  |succ k=>simp[Zti]
 |step hn he hw ih=>
  intro k a b;cases k with
  |zero=>simp at b
  |succ k=>
   simp only[JK,Jw,List.length_nil]at b;simp only[Zti,if_neg hn,he];rw[ih _ (by omega)];simp
def WZ {m:List Eg} {id:Tg} {w:List Eg}:Zmq m id=Hs w↔Way m id w:=by
 constructor;intro h;obtain⟨w',a,b⟩:=ZdU h;rw[b,Jb];exact a;intro h;have:=ZpM h (k:=m.length+1) [] (by have:=h.len;omega);simpa[Zmq]using this
def WE:List Eg->List Fd->Option (List Fd)
 | [],fs=>Hs fs
 |e::es,fs=>if(ZW fs e.ln).2≠0 then none else WE es (ZW fs e.ln).1
theorem Fw (w v:List Eg) (fs:List Fd):WE (w++v) fs=(WE w fs).bind (WE v):=by
 induction w generalizing fs with
 |nil=>rfl
 |cons e w ih=>
  simp only[J5,WE];split;rfl;exact ih _
def Zcl (e:Eg):Option (List Eg)->Nd
 |none=>⟨e,1,[],0⟩
 |some w=>match WE w ZbG with
  |none=>⟨e,3,[],0⟩
  |some fs=>⟨e,2,fs,w.length⟩
def Ys (m:List Eg) (e:Eg):Nd:=Zcl e (Zmq m e.id)
def Ze (m:List Eg):List Nd:=m.map (Ys m)
def Zj4 (e:Eg):Nd:=⟨e,1,[],0⟩
def Uh (m:List Eg) (e:Eg):(Ys m e).e=e:=by
 unfold Ys Zcl;split;rfl;split<;>rfl
structure Apart (m:List Eg):Prop where
 d:(m.map (·.id)).Nodup
 n:∀e∈m,e.id≠Jd
def Apart.find {m:List Eg} (h:Apart m) {e:Eg} (d:e∈m):Xz m e.id=Hs e:=by
 obtain⟨c,i,rfl⟩:=List.append_of_mem d;have hd:=h.d;simp only[JF,Jk]at hd;unfold Xz;rw[JZ];have a:c.find? (λx=>decide (e.id=x.id))=none:=by
  rw[JL];intro x g f;have b:x.id∈c.map (·.id):=Jc.2 ⟨x,g,rfl⟩;have:=(JP.1 hd).2.2 _ b e.id (by simp);exact this (by simpa using Eq.symm (by simpa using f))
 rw[a];simp
def ZhL (m:List Eg) (c:List Nd):Prop:=c.length=m.length/\ ∀i,i<m.length->c.getD i Jd=Zj4 (m.getD i Jd)\/(c.getD i Jd=Ys m (m.getD i Jd)/\(c.getD i Jd).st≠1)
def UL {m:List Eg} {e:Eg}:(Ys m e).st=1↔Zmq m e.id=none:=by
 unfold Ys Zcl;split;rename_i h;simp[h];rename_i w h;constructor;intro a;split at a<;>cases a
 intro a;rw[h]at a;cases a
def Gy {m:List Eg} {e:Eg} (h:Zmq m e.id=none):Ys m e=Zj4 e:=by simp[Ys,Zcl,h,Zj4]
theorem Zt1 (e:Eg):(Zj4 e).st=1:=rfl
def ZdE {m:List Eg} {c:List Nd} (h:ZhL m c) {i:Nat} (a:i<m.length):(c.getD i Jd).e=m.getD i Jd:=by
 rcases h.2 i a with h|⟨h,_⟩;rw[h];rfl;rw[h,Uh]
def ZeN {m:List Eg} {c:List Nd} (h:ZhL m c):c.map (·.e)=m:=by
 apply JR;simp[h.1];intro i b a;have:=ZdE h a;rw[getD_lt (by have:=h.1;omega),getD_lt a]at this;simpa using this
def ZfY {m:List Eg} {c:List Nd} (h:ZhL m c) (id:Tg):(D3 c id).map (·.e)=Xz m id:=by
 rw[<-ZeN h];unfold D3 Xz;rw[J9];rfl
def ZjY {m:List Eg} {c:List Nd} (h:ZhL m c) {n:Nd} (d:n∈c):n.e∈m/\(n=Zj4 n.e\/(n=Ys m n.e/\n.st≠1)):=by
 obtain⟨i,b,rfl⟩:=Jp d;have a:i<m.length:=by have:=h.1;omega
 have e:=ZdE h a;have k:=h.2 i a;rw[getD_lt b]at e k;rw[e];exact⟨Zc a,k⟩
def Ti (e:Eg) (a:Nd):Nd:=if a.st=2/\(ZW a.sch e.ln).2=0 then⟨e,2,(ZW a.sch e.ln).1,a.dep+1⟩else⟨e,3,[],0⟩
theorem Ziu {m:List Eg} {e:Eg} {w:List Eg} (a:Apart m) (b:e∈m) (g:Way m e.par w):Ys m e=match WE w ZbG with
  |none=>⟨e,3,[],0⟩
  |some fs=>Ti e ⟨Jd,2,fs,w.length⟩:=by
 have d:Way m e.id (w++ [e]):= .step (a.n e b) (a.find b) g;have f:=WZ.2 d;unfold Ys Zcl;rw[f];simp only[Fw];cases h:WE w ZbG with
 |none=>rfl
 |some fs=>
  simp only[Option.bind_some,WE,Ti]
  by_cases c:(ZW fs e.ln).2=0
  ·simp[c]
  ·simp[c]
theorem ZoZ {m:List Eg} {c:List Nd} (k:Apart m) (h:ZhL m c) {e:Eg} (l:e∈m) (a:(atN c e.par).st=2\/(atN c e.par).st=3):Ti e (atN c e.par)=Ys m e/\(Ys m e).st≠1:=by
 have key:∃w,Way m e.par w/\Ti e (atN c e.par)=(match WE w ZbG with|none=>⟨e,3,[],0⟩|some fs=>Ti e ⟨Jd,2,fs,w.length⟩):=by
  unfold atN at a ⊢;by_cases hp:e.par=Jd;rw[if_pos hp];exact⟨[],hp▸ .root,by simp[WE,Ti,ZiK]⟩;rw[if_neg hp]at a ⊢;cases j:D3 c e.par with
  |none=>rw[j]at a;simp at a;rcases a with a|a<;>cases a
  |some n=>
   rw[j]at a;simp only[JS]at a ⊢;have r:n∈c:=Js j;obtain⟨s,d⟩:=ZjY h r;rcases d with d|⟨d,i⟩
   ·rw[d]at a;simp[Zj4]at a
   ·have o:e.par=n.e.id:=by
     have:=ZfY h e.par;rw[j]at this;exact(Wg this.symm).1
    cases f:Zmq m n.e.id with
    |none=>rw[d]at i;exact absurd (UL.2 f) i
    |some w=>
     refine⟨w,by rw[o];exact WZ.1 f,?_⟩;have b:n=Zcl n.e (Hs w):=by rw[<-f];exact d
     unfold Zcl at b;cases g:WE w ZbG with
     |none=>
      simp only[g]at b;rw[b];simp[Ti]
     |some fs=>
      simp only[g]at b;rw[b];simp[Ti]
 obtain⟨w,f,d⟩:=key;refine⟨by rw[d,Ziu k l f],λq=> ?_⟩;have:=UL.1 q;have p:=WZ.2 (Way.step (k.n e l) (k.find l) f);rw[this]at p;cases p
theorem ZoY {m:List Eg} {c:List Nd} (J:Apart m) (h:ZhL m c) (hd:∀i,i<m.length->(c.getD i Jd).st≠1\/((atN c (m.getD i Jd).par).st≠2/\(atN c (m.getD i Jd).par).st≠3)):c=Ze m:=by
 have X:∀ {id w},Way m id w-> ∀e,Xz m id=Hs e->id≠Jd->Ys m e∈c:=by
  intro id w r;induction r with
  |root=>intro e _ K;exact absurd rfl K
  |step K he r ih=>
   rename_i id e w;intro Y z _;rw[he]at z;cases z;obtain⟨U,l⟩:=Wg he;obtain⟨i,d,rfl⟩:=Jp l;have B:i<c.length:=by have:=h.1;omega
   rcases h.2 i d with f|⟨f,_⟩;exfalso;rcases hd i d with k|⟨k,I⟩;rw[f]at k;exact k rfl;rw[getD_lt d]at k I;by_cases hp:(m[i]).par=Jd;simp[atN,hp,ZiK]at k;cases o:Xz m (m[i]).par with
   |none=>
    generalize (m[i]).par=p at *;cases r with
    |root=>exact hp rfl
    |step _ L _=>rw[o]at L;cases L
   |some q=>
    have L:=ih q o hp;obtain⟨D,W⟩:=Wg o;have O:D3 c (m[i]).par=Hs (Ys m q):=by
     have g:=ZfY h (m[i]).par;rw[o]at g;cases R:D3 c (m[i]).par with
     |none=>rw[R]at g;cases g
     |some n=>
      rw[R]at g;simp only[JG,J7.injEq]at g;have K:n∈c:=Js R;have u:(c.map (·.e.id)).Nodup:=by
       have:=ZeN h;have S:=J.d;rw[<-this,JI]at S;exact S
      congr 1;obtain⟨y,F,s⟩:=Jp K;obtain⟨a2,G,t⟩:=Jp L;have A:n.e.id=(Ys m q).e.id:=by rw[Uh,g]
      have:y=a2:=by
       rw[Ji,Je]at u;rcases JO y a2 with a|v|a
       ·exact absurd (show(c.map (·.e.id))[y]'(by simpa using F)=(c.map (·.e.id))[a2]'(by simpa using G)by rw[Jf,Jf,s,t];exact A) (u y a2 (by simpa using F) (by simpa using G) a)
       ·exact v
       ·exact absurd (show(c.map (·.e.id))[a2]'(by simpa using G)=(c.map (·.e.id))[y]'(by simpa using F)by rw[Jf,Jf,s,t];exact A.symm) (u a2 y (by simpa using G) (by simpa using F) a)
      subst this;rw[<-s,<-t]
    have Q:(Ys m q).st≠1:=λT=>by
     have:=UL.1 T;rw[<-D]at this;rw[WZ.2 r]at this;cases this
    have E:(Ys m q).st=2\/(Ys m q).st=3:=by
     revert Q;unfold Ys Zcl;split;exact λh=>absurd rfl h
     split;exact λ_=> .inr rfl
     exact λ_=> .inl rfl
    have N:atN c (m[i]).par=Ys m q:=by simp[atN,hp,O]
    rw[N]at k I;rcases E with M|M;exact k M;exact I M
   rw[getD_lt B,getD_lt d]at f;rw[<-f];exact Jj B
 apply JR;simp[Ze,h.1];intro i k I;have d:i<m.length:=by have:=h.1;omega
 have f:=h.2 i d;rw[getD_lt k,getD_lt d]at f;simp only[Ze,Jf];rcases f with f|⟨f,_⟩;rw[f];cases r:Zmq m (m[i]).id with
 |none=>exact(Gy r).symm
 |some w=>
  exfalso;have l:m[i]∈m:=Jj d;have C:=X (WZ.1 r) _ (J.find l) (J.n _ l);obtain⟨j,V,x⟩:=Jp C;have b:j<m.length:=by have:=h.1;omega
  have g:=ZdE h b;rw[getD_lt V,getD_lt b,x,Uh]at g;have P:i=j:=by
   have hd:=J.d;rw[Ji,Je]at hd;rcases JO i j with a|v|a
   ·exact absurd (show(m.map (·.id))[i]'(by simpa using d)=(m.map (·.id))[j]'(by simpa using b)by rw[Jf,Jf,g]) (hd i j (by simpa using d) (by simpa using b) a)
   ·exact v
   ·exact absurd (show(m.map (·.id))[j]'(by simpa using b)=(m.map (·.id))[i]'(by simpa using d)by rw[Jf,Jf,g]) (hd j i (by simpa using b) (by simpa using d) a)
  subst P;rw[f]at x;have:=congrArg Nd.st x;rw[Zt1]at this;have:=UL.1 this.symm;rw[r]at this;cases this
 exact f
theorem ZoE:∀(rs:List Rf) {l m:List Fd},OkFs l->G5 rs l=Hs m->OkFs m
 | [],l,m,h,e=>by cases e;exact h
 |r::rs,l,m,h,e=>by
  unfold G5 at e;split at e;cases e;exact ZoE rs (ZgA h r) e
theorem Zgz:∀(fs:List Fd) {l m:List Fd},(∀f∈fs,f.cases'.length<=1000000)->OkFs l->We fs l=Hs m->OkFs m
 | [],l,m,_,h,e=>by cases e;exact h
 |f::fs,l,m,hc,h,e=>by
  unfold We at e;split at e;cases e;exact Zgz fs (λg a=>hc g (by simp[a])) (ZsX h (hc f (by simp))) e
def ZtS {l:List Fd} {x:Ln} (b:OkFs l) (h:OkLn x):OkFs (ZW l x).1:=by
 have c:OkFs []:=⟨Jn _,λf g=>by cases g⟩;unfold ZW;split;exact c;split;exact c;rename_i m a;unfold ZcR at a;split at a;cases a;obtain⟨k,d,e⟩:=JQ.1 a;exact Zgz _ (ZvN b h).c (ZoE _ b d) e
def ZoG:OkFs ZbG:=⟨by decide,by decide⟩
theorem ZoD:∀(w:List Eg) {fs gs:List Fd},(∀e∈w,OkLn e.ln)->OkFs fs->WE w fs=Hs gs->OkFs gs
 | [],fs,gs,_,h,e=>by cases e;exact h
 |e::w,fs,gs,hw,h,he=>by
  unfold WE at he;split at he;cases he;exact ZoD w (λx a=>hw x (by simp[a])) (ZtS h (hw e (by simp))) he
def ZvQ {m:List Eg} (d:∀e∈m,OkLn e.ln) (e:Eg):OkFs (Ys m e).sch/\0<=(Ys m e).dep/\(Ys m e).dep<=(m.length:Int):=by
 have c:OkFs []:=⟨Jn _,λf a=>by cases a⟩;unfold Ys Zcl;split;exact⟨c,by simp,by simp⟩;rename_i w g;have b:=WZ.1 g;split;exact⟨c,by simp,by simp⟩;rename_i fs a;have:=b.len;exact⟨ZoD w (λx h=>d x (b.mem x h)) ZoG a,by simp,by simp only;omega⟩
theorem ZvO {m:List Eg} {c:List Nd} (g:∀e∈m,OkLn e.ln) (h:ZhL m c) (id:Tg):OkFs (atN c id).sch/\0<=(atN c id).dep/\(atN c id).dep<=(m.length:Int):=by
 have d:OkFs []:=⟨Jn _,λf b=>by cases b⟩;unfold atN;split;exact⟨ZoG,by simp[ZiK],by simp[ZiK]⟩;cases b:D3 c id with
 |none=>exact⟨d,Int.le_refl _,by show(0:Int)<=_;omega⟩
 |some n=>
  simp only[JS];obtain⟨_,a⟩:=ZjY h (Js b);rcases a with a|⟨a,_⟩;rw[a];exact⟨d,by simp[Zj4],by simp[Zj4]⟩;rw[a];exact ZvQ g _
def Zr4 {m:List Eg} {c:List Nd} (b:Apart m) (h:ZhL m c) {i:Nat} (a:i<c.length):(c.findIdx? λn=>decide ((c.getD i Jd).e.id=n.e.id))=Hs i:=by
 rw[Jr];refine⟨a,by rw[getD_lt a];simp,λj d=> ?_⟩;have hd:=b.d;rw[<-ZeN h,JI]at hd;rw[Ji,Je]at hd;have:=hd j i (by simp;omega) (by simpa using a) d;simp only[Jf,Function.comp]at this;rw[getD_lt a];simp only[decide_eq_true_eq];exact λe=>this e.symm
def Zke {m:List Eg} {c:List Nd} (d:Apart m) (h:ZhL m c) {i:Nat} (g:i<c.length) (b:(atN c (c.getD i Jd).e.par).st=2\/(atN c (c.getD i Jd).e.par).st=3):ZhL m (c.set i (Ti (c.getD i Jd).e (atN c (c.getD i Jd).e.par))):=by
 have a:i<m.length:=by have:=h.1;omega
 have f:=ZdE h a;rw[f]at b ⊢;obtain⟨l,n⟩:=ZoZ d h (Zc a) b;rw[l];refine⟨by simp[h.1],λj k=> ?_⟩;by_cases e:i=j;subst e;right;have:(c.set i (Ys m (m.getD i Jd))).getD i Jd=Ys m (m.getD i Jd):=by
  rw[getD_lt (by simpa using g)];simp
 rw[this];exact⟨rfl,n⟩;have:(c.set i (Ys m (m.getD i Jd))).getD j Jd=c.getD j Jd:=by
  simp only[List.getD_eq_getElem?_getD,List.getElem?_set_ne e]
 rw[this];exact h.2 j k
def ZrK (c:List Nd):Nat:=c.countP λn=>decide (n.st=1)
def Zbx {c:List Nd} {i:Nat} {n:Nd} (b:i<c.length) (a:(c.getD i Jd).st=1) (d:n.st≠1):ZrK (c.set i n)<ZrK c:=by
 unfold ZrK;rw[getD_lt b]at a;rw[List.countP_set b];have:0<c.countP λn=>decide (n.st=1):=List.countP_pos_iff.2 ⟨c[i],Jj b,by simpa using a⟩
 simp only[a,decide_true,if_true,d,decide_false,JA,if_false];omega
def Zik (c:List Nd) (i:Nat) (n:Nd) (h:n.e=(c.getD i Jd).e):kts (c.set i n)=kts c:=by
 unfold kts;apply List.ext_getElem?;intro j;simp only[List.getElem?_map,List.getElem?_set];by_cases e:i=j;subst e;by_cases a:i<c.length;simp[a,h,getD_lt a];simp[a];simp[e]
def Zis (c:List Nd) (i:Nat) (n:Nd):nds (c.set i n)=(nds c).set i (nd n):=by simp[nds,List.map_set]
def Zit (e:Eg) (u:Nd):(Ti e u).e=e:=by unfold Ti;split<;>rfl
def ZeB (e:Eg) (u:Nd):(Ti e u).st≠1:=by unfold Ti;split<;>simp
def Zbf (c:List Nd):(kts c).length=c.length:=by simp[kts]
structure Seen (n:Nat) (p:Nat->Prop) where
 l:List Nat
 d:l.Nodup
 h:∀i∈l,i<n/\p i
def Seen.next {n:Nat} {p:Nat->Prop} (s:Seen n p) (i:Nat) (g:i<n) (hp:p i) (h:i∉s.l):Seen n p:=
 ⟨s.l++ [i],by rw[JP];exact⟨s.d,by simp,λa f b d=>by simp at d;subst d;exact λe=>h (e▸f)⟩,λj c=>by
  rcases Jo.1 c with c|c
  ·exact s.h j c
  ·simp at c;subst c;exact⟨g,hp⟩⟩
def Seen.len {n:Nat} {p:Nat->Prop} (s:Seen n p):s.l.length<=n:=by
 have:=ZeD (m:=List.range n) s.d (λi a=>List.mem_range.2 (s.h i a).1);simpa using this
def Zyc (m:List Eg):Type:= { c:List Nd // ZhL m c }
def Zr8 (c:List Nd) (i:Nat):Prop:=(c.getD i Jd).st≠1\/((atN c (c.getD i Jd).e.par).st≠2/\(atN c (c.getD i Jd).e.par).st≠3)
def Zgh (l:List Nat) (i:Nat):(l++ [i]).getLast? = Hs i:=by simp
def Zo0 {m:List Eg} {c:List Nd} (h:ZhL m c) {i:Nat} (d:i<m.length) (b:(c.getD i Jd).st=1):(c.getD i Jd).sch= []/\(c.getD i Jd).dep=0:=by
 rcases h.2 i d with a|⟨_,a⟩;rw[a];exact⟨rfl,rfl⟩;exact absurd b a
def Zo2 (m:List Eg) (C:List Nd) (A:Apart m) (K:ZhL m C) (J:∀e∈m,OkLn e.ln) (S:m.length<=1000):PL.Wr prog 53 (λb=> [.rptr [.mref b]]) (mc C) (.tup []) (mc (Ze m)):=by
 refine PL.Wr.of_v func53 (by decide) rfl ntmps53 results53 (by simp) rfl (λb=> ?_);simp only[go_sem];refine ZuK (ι:=Zyc m) 61 (λx=> [(0,.rptr [.mref b])]) (λx=> []) (λx=> []) (λx=> [(b,mc x.1)]) (λx=> []) (λx=>ZrK x.1) 0 _ (by exact rfl) (λx=>⟨(fcs rfl fnl),fnl⟩) (λx=> ?_) (λcut=> ?_);obtain⟨c,l⟩:=x;simp only;have N:=l.1;simp only[go_sem];intro r;simp only[go_sem,forall_const,mc,Zbf];refine Ztd (ι:=Seen c.length (Zr8 c)) 61 (λx=> [(0,.rptr [.mref b]),(11,.iptr r)]) (λx=> []) (λx=> []) (λx=> [(b,mc c)]) (λx=> [(r,⟨b,c.length,x.l,none⟩)]) (λx=>c.length-x.l.length) ⟨[],by simp,λi a=>by cases a⟩
  ⟨⟨rfl,(Fc2 rfl rfl),fnl,fnl⟩,fcs (by simp[upd,mc]) fnl,fcs (by simp[upd]) fnl⟩ (λx=>⟨(Fc2 rfl rfl),fnl⟩) (λx=> ?_)
 have O:=x.len;simp only[go_sem,mc,Zbf];refine⟨λt=> ?_,λi a v=> ?_⟩;have p:c=Ze m:=ZoY A l λi a=>by
  have:=(x.h i (t i (by omega))).2;unfold Zr8 at this;rw[ZdE l a]at this;exact this
 rw[<-p];have q:i<m.length:=by omega
 have L:=ZmU c (c.getD i Jd).e.par;obtain⟨I,P,Q⟩:=ZvO J l (c.getD i Jd).e.par;have M:=ZkC (atN c (c.getD i Jd).e.par).sch (c.getD i Jd).e.ln I (by rw[ZdE l q];exact J _ (Zc q));have k:=Zr4 A l a;have F:IntKind.i64.wrap ((atN c (c.getD i Jd).e.par).dep+1)=(atN c (c.getD i Jd).e.par).dep+1:=w64 (by omega);have w:∀(s':St) (j:Seen c.length (Zr8 c)),j.l.length=x.l.length+1->HasO 61 [(0,.rptr [.mref b]),(11,.iptr r)] [] [] [(b,mc c)] [(r,⟨b,c.length,j.l,none⟩)] s'->Ztr 61 (λx=> [(0,.rptr [.mref b]),(11,.iptr r)]) (λx=> []) (λx=> []) (λx=> [(b,mc c)]) (λx=> [(r,⟨b,c.length,x.l,none⟩)]) (λx:Seen c.length (Zr8 c)=>c.length-x.l.length) x s':=λs' j R u=>⟨j,by have:=j.len;show c.length-j.l.length<c.length-x.l.length;omega,u⟩
 by_cases o:(c.getD i Jd).st=1;obtain⟨y,z⟩:=Zo0 l q o;have D:((c.getD i Jd).st !=1)=false:=by rw[o];rfl
 simp only[go_sem,Zgh,Zba a,ZnM a,a,Zbf,tg,nd,D];refine Zao L (ZrC _) ?_ ?_ ?_;simp only[go_sem];simp only[go_sem,tr,tg,kts,nds];by_cases d:(atN c (c.getD i Jd).e.par).st=2;have s:((atN c (c.getD i Jd).e.par).st !=2)=false:=by rw[d];rfl
 have n:((atN c (c.getD i Jd).e.par).st==2)=true:=by rw[d];rfl
 have f:=Zke A l a (.inl d);simp only[go_sem,nd,s,n];refine vc3 M ?_;simp only[go_sem,YX,Zt];by_cases B:(ZW (atN c (c.getD i Jd).e.par).sch (c.getD i Jd).e.ln).2=0;have h:Ti (c.getD i Jd).e (atN c (c.getD i Jd).e.par)=⟨(c.getD i Jd).e,2,(ZW (atN c (c.getD i Jd).e.par).sch (c.getD i Jd).e.ln).1,(atN c (c.getD i Jd).e.par).dep+1⟩:=by unfold Ti;rw[if_pos ⟨d,B⟩]
 simp only[go_sem,B];refine Zks [(4,3)] (by kernel_rfl) (by kernel_rfl) (by exact rfl) ?_;simp only[go_sem,F];refine vDq ?_;simp only[go_sem,YE,k];refine⟨⟨_,f⟩,Zbx a o (ZeB _ _),⟨⟨rfl,(fcs rfl fnl),fnl,fnl⟩,fcs ?_ fnl,fnl⟩⟩;simp only[Za];rw[Zik c i _ (Zit _ _),Zis,h];rfl;have h:Ti (c.getD i Jd).e (atN c (c.getD i Jd).e.par)=⟨(c.getD i Jd).e,3,[],0⟩:=by unfold Ti;rw[if_neg (λu=>B u.2)]
 have G:((ZW (atN c (c.getD i Jd).e.par).sch (c.getD i Jd).e.ln).2==0)=false:=by simpa using B
 simp only[go_sem,G];refine vDq ?_;simp only[go_sem,YE,k];refine⟨⟨_,f⟩,Zbx a o (ZeB _ _),⟨⟨rfl,(fcs rfl fnl),fnl,fnl⟩,fcs ?_ fnl,fnl⟩⟩;simp only[Za];rw[Zik c i _ (Zit _ _),Zis,h];simp only[nd,y,z];by_cases g:(atN c (c.getD i Jd).e.par).st=3;have s:((atN c (c.getD i Jd).e.par).st !=2)=true:=by rw[g];rfl
 have n:((atN c (c.getD i Jd).e.par).st==2)=false:=by rw[g];rfl
 have E:((atN c (c.getD i Jd).e.par).st !=3)=false:=by rw[g];rfl
 have f:=Zke A l a (.inr g);have h:Ti (c.getD i Jd).e (atN c (c.getD i Jd).e.par)=⟨(c.getD i Jd).e,3,[],0⟩:=by unfold Ti;rw[if_neg (λu=>d u.1)]
 simp only[go_sem,nd,s,n,E];refine vDq ?_;simp only[go_sem,YE,k];refine⟨⟨_,f⟩,Zbx a o (ZeB _ _),⟨⟨rfl,(fcs rfl fnl),fnl,fnl⟩,fcs ?_ fnl,fnl⟩⟩;simp only[Za];rw[Zik c i _ (Zit _ _),Zis,h];simp only[nd,y,z]
 ·have s:((atN c (c.getD i Jd).e.par).st !=2)=true:=by simpa using d
  have E:((atN c (c.getD i Jd).e.par).st !=3)=true:=by simpa using g
  simp only[go_sem,nd,s,E];refine w _ (x.next i a (.inr ⟨d,g⟩) v) (by simp[Seen.next]) ?_;exact⟨⟨rfl,(Fc2 rfl rfl),fnl,fnl⟩,fcs (by simp[upd,mc]) fnl,fcs (by simp[upd,Seen.next]) fnl⟩
 ·have D:((c.getD i Jd).st !=1)=true:=by simpa using o
  simp only[go_sem,Zgh,Zba a,ZnM a,a,Zbf,tg,nd,D];refine w _ (x.next i a (.inl o) v) (by simp[Seen.next]) ?_;exact⟨⟨rfl,(Fc2 rfl rfl),fnl,fnl⟩,fcs (by simp[upd,mc]) fnl,fcs (by simp[upd,Seen.next]) fnl⟩
 simp only[go_sem];exact YS (cut ⟨C,K⟩ _ ⟨⟨rfl,(fcs rfl fnl),fnl,fnl⟩,fcs (by simp[upd]) fnl,fnl⟩)
def Ze7 (m:List Eg) (e:Eg):List Eg×Int:=
 if Gl e=Hf then(m,5)else match Xz m e.id with
  |some x=>if x=e then(m,7)else(m,15)
  |none=>if 40<=m.length then(m,9)else(m++ [e],0)
structure OkM (m:List Eg):Prop where
 a:Apart m
 l:∀e∈m,OkLn e.ln
 n:m.length<=40
def Gz:OkM []:=⟨⟨by simp,λe h=>(by cases h)⟩,λe h=>(by cases h),by simp⟩
def ZtV {m:List Eg} (h:OkM m) {e:Eg} (k:OkLn e.ln):OkM (Ze7 m e).1:=by
 unfold Ze7;split;exact h;rename_i f;split;split<;>exact h
 rename_i g;split;exact h;rename_i l;refine⟨⟨?_,λx c=> ?_⟩,λx c=> ?_,by simp;omega⟩;rw[JF,JP];refine⟨h.a.d,by simp,λa j b d=> ?_⟩;simp only[Jk,List.map_nil,Ju]at d;subst d;obtain⟨x,c,rfl⟩:=Jc.1 j;unfold Xz at g;rw[JL]at g;have:=g x c;simp only[decide_eq_true_eq]at this;exact λi=>this i.symm
 rcases Jo.1 c with c|c;exact h.a.n x c;rw[Ju.1 c];have f:Gl e=true:=by simpa using f
 simp only[Gl,Jg]at f;exact FJ f.1;rcases Jo.1 c with c|c;exact h.l x c;rw[Ju.1 c];exact k
def ZfR {m:List Eg} {e x:Eg} {id:Tg} (h:Xz m id=Hs x):Xz (m++ [e]) id=Hs x:=by
 unfold Xz at *;rw[JZ,h];rfl
theorem Way.append {m:List Eg} {e:Eg} {id:Tg} {w:List Eg} (h:Way m id w):Way (m++ [e]) id w:=by
 induction h with
 |root=>exact .root
 |step hn he hw ih=>exact .step hn (ZfR he) ih
theorem Zr5 {m:List Eg} (e:Eg):ZhL (m++ [e]) (Ze m++ [Zj4 e]):=by
 refine⟨by simp[Ze],λi g=> ?_⟩;by_cases b:i<m.length;rw[Zf (by simpa[Ze]using b),Zf b];have d:(Ze m).getD i Jd=Ys m (m.getD i Jd):=by
  rw[getD_lt (by simpa[Ze]using b),getD_lt b];simp[Ze]
 rw[d];cases a:Zmq m (m.getD i Jd).id with
 |none=>exact .inl (Gy a)
 |some w=>
  right;have:Zmq (m++ [e]) (m.getD i Jd).id=Hs w:=WZ.2 (WZ.1 a).append;refine⟨by simp only[Ys,a,this],λf=> ?_⟩;rw[UL.1 f]at a;cases a
 left;have c:i=m.length:=by simp at g;omega
 subst c;rw[Zg (by simp[Ze]),Zg (Nat.le_refl _)];simp[Ze]
theorem Zpq (m:List Eg):ZhL m (Ze m):=by
 refine⟨by simp[Ze],λi b=> ?_⟩;have c:(Ze m).getD i Jd=Ys m (m.getD i Jd):=by
  rw[getD_lt (by simpa[Ze]using b),getD_lt b];simp[Ze]
 rw[c];cases a:Zmq m (m.getD i Jd).id with
 |none=>exact .inl (Gy a)
 |some w=>exact .inr ⟨rfl,λd=>by rw[UL.1 d]at a;cases a⟩
def TR (m:List Eg) (id:Tg):D3 (Ze m) id=(Xz m id).map (Ys m):=by
 unfold D3 Xz Ze;rw[J9];congr 1;congr 1;funext x;simp[Uh]
def ZjL (m:List Eg) (id:Tg):((Ze m).findIdx? λn=>decide (id=n.e.id))=m.findIdx? λe=>decide (id=e.id):=by
 unfold Ze;rw[List.findIdx?_map];congr 1;funext x;simp[Uh]
def Zsl (m:List Eg):(Ze m).length=m.length:=by simp[Ze]
def ZtO (m:List Eg) (e:Eg):mc (Ze m++ [Zj4 e])=⟨kts (Ze m)++ [tg e.id],nds (Ze m)++ [nd (Zj4 e)]⟩:=by simp[mc,kts,nds,Zj4]
theorem ZvW (m:List Eg) (e:Eg) (t:OkM m) (p:OkLn e.ln):PL.Wr prog 20 (λb=> [.rptr [.mref b],eg e]) (mc (Ze m)) (.int .i64 (Ze7 m e).2) (mc (Ze (Ze7 m e).1)):=by
 have h:=Zl8 e p;have c:=ZtV t p;unfold Ze7 at c ⊢;cases q:Gl e;rw[q]at h;refine PL.Wr.of_v func20 (by decide) rfl ntmps20 results20 (by simp) rfl (λb=> ?_);simp only[go_sem,eg];refine vc3 h ?_;simp only[go_sem,if_true];rw[q]at h;simp only[q,Ja,if_false]at c ⊢;have a:=ZjL m e.id;cases s:m.findIdx? (λx=>decide (e.id=x.id))with
 |some i=>
  rw[s]at a;obtain⟨v,d⟩:=TQ a;rw[TR]at d;cases f:Xz m e.id with
  |none=>rw[f]at d;cases d
  |some x=>
   rw[f]at d;simp only[JG,J7.injEq]at d;have r:=(Wg f).2;have o:=Zmd x e (t.l x r) p;have z:((Ze m).getD i Jd).e=x:=by rw[<-d,Uh]
   have g:(nds (Ze m)).getD i .any=nd (Ys m x):=by rw[Zba v,d]
   have l:=Uh m x;simp only;cases hd:decide (x=e)
   ·rw[hd]at o;have n:¬x=e:=by simpa using hd
    simp only[n,if_false];refine PL.Wr.of_v func20 (by decide) rfl ntmps20 results20 (by simp) rfl (λb=> ?_);simp only[go_sem,eg];refine vc3 h ?_;simp only[go_sem];refine vDq ?_;simp only[go_sem,mc,YE,a,g,nd,l];refine vc3 o ?_;simp only[go_sem,mc]
   ·rw[hd]at o;have n:x=e:=by simpa using hd
    simp only[n,if_true];refine PL.Wr.of_v func20 (by decide) rfl ntmps20 results20 (by simp) rfl (λb=> ?_);simp only[go_sem,eg];refine vc3 h ?_;simp only[go_sem];refine vDq ?_;simp only[go_sem,mc,YE,a,g,nd,l];refine vc3 o ?_;simp only[go_sem,mc]
 |none=>
  rw[s]at a;have d:=TP.1 a;rw[TR]at d;have f:Xz m e.id=none:=by
   cases n:Xz m e.id with
   |none=>rfl
   |some x=>rw[n]at d;cases d
  rw[f]at c ⊢;simp only at c ⊢;have k:(kts (Ze m)).length=m.length:=by rw[Zbf,Zsl]
  by_cases u:40<=m.length
  ·have j:(40:Int)<=(m.length:Int):=by omega
   simp only[u,if_true];refine PL.Wr.of_v func20 (by decide) rfl ntmps20 results20 (by simp) rfl (λb=> ?_);simp only[go_sem,eg];refine vc3 h ?_;simp only[go_sem];refine vDq ?_;simp only[go_sem,mc,YE,a,k,j]
  ·have j:¬(40:Int)<=(m.length:Int):=by omega
   simp only[u,if_false]at c ⊢;have w:=Zhf e p;have y:=Zo2 (m++ [e]) (Ze m++ [Zj4 e]) c.a (Zr5 e) c.l (by have:=c.n;omega);refine PL.Wr.of_v func20 (by decide) rfl ntmps20 results20 (by simp) rfl (λb=> ?_);simp only[go_sem,eg];refine vc3 h ?_;simp only[go_sem];refine vDq ?_;simp only[go_sem,mc,YE,a,k,j];refine vDq ?_;simp only[go_sem];refine vc3 w ?_;simp only[go_sem,eg,mc,YE,a];refine Zkr b y ?_ ?_ ?_ ?_
   ·simp only[go_sem]
   ·simp only[go_sem]
   ·rw[ZtO];simp[upd,tg,nd,Zj4]
   ·simp only[go_sem,mc]
def ZqZ (x:List Eg×Int):PV:= .tup [egs x.1,.int .i64 x.2]
theorem Zjy (l:List Eg):(egs l).dids= []:=by
 unfold egs;simp only[Jt];induction l with
 |nil=>rfl
 |cons e l ih=>simp only[Jk,Jl,ih,Zh7,Jb]
def TM (x:List Eg×Int):(ZqZ x).dids= []:=by simp only[ZqZ,Jt,Jl,Zjy,Jb]
def Zr6 (l:List Eg):Sized 20 (l.map eg):=λe a=>by
 obtain⟨x,_,rfl⟩:=Jc.1 a;rfl
def ZqA (l:List Eg):XF (l.map eg):=λe a=>by
 obtain⟨x,_,rfl⟩:=Jc.1 a;rfl
theorem Zrg {m:List Eg} {id:Tg}:(idx (λx=>decide (x.id=id)) m= -1/\Xz m id=none)\/ ∃i:Nat,i<m.length/\idx (λx=>decide (x.id=id)) m=(i:Int)/\Xz m id=Hs (m.getD i Jd):=by
 have e:(λx:Eg=>decide (x.id=id))=λx=>decide (id=x.id):=by funext x;simp[eq_comm]
 unfold idx;rw[e];cases b:m.findIdx? (λx=>decide (id=x.id))with
 |none=>
  left;refine⟨rfl,?_⟩;rw[JM]at b;unfold Xz;rw[JL];intro x h c;rw[b x h]at c;cases c
 |some i=>
  right;rw[Jr]at b;obtain⟨a,d,f⟩:=b;refine⟨i,a,rfl,?_⟩;unfold Xz;rw[List.find?_eq_some_iff_getElem];exact⟨by rw[getD_lt a];exact d,i,a,(getD_lt a).symm,λj g=>by simpa using f j g⟩
def ZmJ (m:List Eg) (e:Eg) (n:OkM m) (l:OkLn e.ln):Pp 19 [egs m,eg e] (ZqZ (Ze7 m e)):=by
 have a:=ZkO e l;have c:=ZmI m e.id (by rw[Zd];have:=n.n;omega);unfold Ze7;cases k:Gl e;rw[k]at a;refine ZS func19 rfl ntmps19 results19 (TM _) ?_;simp only[go_sem,eg,egs];refine vc3 a ?_;simp only[go_sem,if_true,ZqZ,egs];rw[k]at a;simp only[Ja,if_false];rcases Zrg (m:=m) (id:=e.id)with ⟨h1,h2⟩|⟨i,hi,h1,h2⟩;rw[h1]at c;rw[h2];by_cases o:40<=m.length;have b:(39:Int)<(m.length:Int):=by omega
 simp only[o,if_true];refine ZS func19 rfl ntmps19 results19 (TM _) ?_;simp only[go_sem,eg,egs];refine vc3 a ?_;simp only[go_sem];refine vc3 c ?_;simp only[go_sem];refine vDq ?_;simp only[go_sem,b,ZqZ,egs]
 ·have b:¬(39:Int)<(m.length:Int):=by omega
  simp only[o,if_false];have g:=YP (show m.length<=1000000 by omega) (show 256<=1000 by omega);have h:=YP (show m.length+1<=1000000 by omega) (show 256<=1000 by omega);refine ZS func19 rfl ntmps19 results19 (TM _) ?_;simp only[go_sem,eg,egs];refine vc3 a ?_;simp only[go_sem];refine vc3 c ?_;simp only[go_sem];refine vDq ?_;simp only[go_sem,b,ZqZ,egs,Zr6,ZqA,g,h];repeat((with_reducible refine And.intro ?_ ?_);(focus((repeat' (with_reducible apply And.intro))<;>(first|omega|exact Yl (by omega) (by omega)|exact Yl (by simp;omega) (by omega)|exact Yb _|(simp;done)|(simp;omega)))))
  simp[eg]
 rw[h1]at c;rw[h2];have d:=ZhG (m.getD i Jd) e (n.l _ (Zc hi)) l;have f:=Jq i
 have p:(i:Int)<(m.length:Int):=by omega
 cases hd:decide (m.getD i Jd=e);rw[hd]at d;have j:¬m.getD i Jd=e:=by simpa using hd
 simp only[j,if_false];refine ZS func19 rfl ntmps19 results19 (TM _) ?_;simp only[go_sem,eg,egs];refine vc3 a ?_;simp only[go_sem];refine vc3 c ?_;simp only[go_sem];refine vDq ?_;simp only[go_sem,f,p,TU hi,eg];refine vc3 d ?_;simp only[go_sem,f,ZqZ,egs];rw[hd]at d;have j:m.getD i Jd=e:=by simpa using hd
 simp only[j,if_true];refine ZS func19 rfl ntmps19 results19 (TM _) ?_;simp only[go_sem,eg,egs];refine vc3 a ?_;simp only[go_sem];refine vc3 c ?_;simp only[go_sem];refine vDq ?_;simp only[go_sem,f,p,TU hi,eg];refine vc3 d ?_;simp only[go_sem,f,ZqZ,egs]
def VX (l:List Eg):List Eg:=l.foldl (λm e=>(Ze7 m e).1) []
theorem Zix:∀(l:List Eg) {m:List Eg},OkM m->(∀e∈l,OkLn e.ln)->OkM (l.foldl (λm e=>(Ze7 m e).1) m)
 | [],m,h,_=>h
 |e::l,m,h,hl=>Zix l (ZtV h (hl e (by simp))) (λx a=>hl x (by simp[a]))
def Zlk {l:List Eg} {k:Nat} (a:k<l.length):(l.take (k+1)).foldl (λm e=>(Ze7 m e).1) []=(Ze7 ((l.take k).foldl (λm e=>(Ze7 m e).1) []) (l.getD k Jd)).1:=by
 have:l.take (k+1)=l.take k++ [l.getD k Jd]:=by
  rw[getD_lt a,JB];simp[a]
 rw[this,List.foldl_append];rfl
def grv (m:List Eg):PV:= .tup [tr (Ze m),egs m,.bool Ht]
theorem Znm (l:List Nd):Jl (kts l)= []:=by
 unfold kts;induction l with
 |nil=>rfl
 |cons e l ih=>simp only[Jk,Jl,ih,Zpl,Jb]
theorem Znn (l:List Nd):Jl (nds l)= []:=by
 unfold nds;induction l with
 |nil=>rfl
 |cons e l ih=>simp only[Jk,Jl,ih,Zir,Jb]
def Zum (l:List Nd):(tr l).dids= []:=by simp only[tr,Jt,Jl,Znm,Znn,Jb]
def Zre (m:List Eg):(grv m).dids= []:=by simp only[grv,Jt,Jl,Zum,Zjy,Jb]
def ZkK (l:List Eg) (t:l.length<=1000) (j:∀e∈l,OkLn e.ln):Pp 8 [egs l] (grv (VX l)):=by
 have f:l.length<=maxLen:=by rw[Zd];omega
 refine PL.Pure.of_vs func8 (by decide) rfl ntmps8 results8 (by simp) (Zre _) ?_;simp only[go_sem,egs];refine Zkq ZsU ?_ ?_ (λb r=> ?_);simp only[go_sem];simp only[go_sem];simp only[go_sem];refine Zna 6 11 [] rfl ?_;refine Ztd (ι:= { k:Nat // k<=l.length }) 40 (λx=> [(0,egs l),(5,.rptr [.mref b]),(6,egs (VX (l.take x.1))),(7,.int .i64 (x.1:Int))]) (λx=> []) (λx=> []) (λx=> [(b,mc (Ze (VX (l.take x.1))))]) (λx=> []) (λx=>l.length-x.1) ⟨0,Jn _⟩
  ⟨⟨rfl,(Fc4 rfl rfl rfl rfl),fnl,fnl⟩,fcs (by simp[upd];rfl) fnl,fnl⟩ (λx=>⟨(Fc4 rfl rfl rfl rfl),fnl⟩) (λx=> ?_)
 obtain⟨k,s⟩:=x;simp only;by_cases h:(k:Int)<(l.length:Int);have a:k<l.length:=by omega
 have q:=Wa a f;have m:=Jq k
 have c:=Zlk a;have d:OkM (VX (l.take k)):=Zix _ Gz (λe p=>j e (List.mem_of_mem_take p));have n:=ZmJ (VX (l.take k)) (l.getD k Jd) d (j _ (Zc a));have o:=ZvW (VX (l.take k)) (l.getD k Jd) d (j _ (Zc a));have g:((Ze7 (VX (l.take k)) (l.getD k Jd)).2 !=(Ze7 (VX (l.take k)) (l.getD k Jd)).2)=false:=by simp
 simp only[go_sem,egs,h,TU a,eg,m];refine vc3 n ?_;simp only[go_sem,ZqZ,egs,h,TU a,eg,m];refine Zkr b o ?_ ?_ ?_ ?_;simp only[go_sem];simp only[go_sem,eg];simp[upd];simp only[go_sem,g,q];refine⟨⟨k+1,by omega⟩,nx9 (by omega),⟨⟨rfl,fcs rfl (fcs rfl (fcs ?_ (fcs ?_ fnl))),fnl,fnl⟩,fcs ?_ fnl,fnl⟩⟩;show _=egs (VX (l.take (k+1)));unfold VX;rw[c];rfl;rfl;show _=Hs (mc (Ze (VX (l.take (k+1)))));unfold VX;rw[c];simp[upd];obtain rfl:k=l.length:=by omega
 have i:l.take l.length=l:=JT;simp only[go_sem,egs,h,i,mc];exact⟨_,rfl,by simp[PV.shut,PV.sealL,upd,grv,tr,egs]⟩
def edc (x:Eg×Int):PV:= .tup [eg x.1,.int .i64 x.2]
def Zjx (x:Eg×Int):(edc x).dids= []:=by simp only[edc,Jt,Jl,Zh7,Jb]
theorem ZcV:eg Jd= .agg [.int .i64 0,.int .i64 0,.int .i64 0,.int .i64 0,.int .i64 0,.int .i64 0,.str [],.str [],.str [],.str [],.int .i64 0,.int .i64 0,.str [],.str [],.int .i64 0,.str [],.sl .no [],.int .i64 0,.sl .no [],.sl .no []]:=rfl
def ZfV (m:List Eg) (id:Tg):Eg×Int:=match Xz m id with|some e=>(e,0)|none=>(Jd,6)
theorem ZcJ (m:List Eg) (id:Tg) (j:OkM m):Pp 190 [tr (Ze m),tg id] (edc (ZfV m id)):=by
 have a:=ZjL m id;unfold ZfV;cases f:m.findIdx? (λx=>decide (id=x.id))with
 |some i=>
  rw[f]at a;obtain⟨g,c⟩:=TQ a;rw[TR]at c;cases b:Xz m id with
  |none=>rw[b]at c;cases c
  |some x=>
   rw[b]at c;simp only[JG,J7.injEq]at c;have h:=Zhf x (j.l x (Wg b).2);have d:(nds (Ze m)).getD i .any=nd (Ys m x):=by rw[Zba g,c]
   have e:=Uh m x;refine ZS func190 rfl ntmps190 results190 (Zjx _) ?_;simp only[go_sem,tr,tg];refine vDq ?_;simp only[go_sem,YE,a,d,nd,e];refine vc3 h ?_;simp only[go_sem,eg,edc]
 |none=>
  rw[f]at a;have c:=TP.1 a;rw[TR]at c;have b:Xz m id=none:=by
   cases k:Xz m id with
   |none=>rfl
   |some x=>rw[k]at c;cases c
  rw[b];refine ZS func190 rfl ntmps190 results190 (Zjx _) ?_;simp only[go_sem,tr,tg];refine vDq ?_;simp only[go_sem,YE,a,edc,ZcV]
def YC (l:List Nd) (id:Tg):List Fd×Int:=if(atN l id).st=2 then((atN l id).sch,0)else if(atN l id).st=3 then([],16)else([],13)
def Y6 (m:List Eg) (id:Tg) (h:OkM m):Pp 11 [tr (Ze m),tg id] (YX (YC (Ze m) id)):=by
 have e:=ZmU (Ze m) id;obtain⟨f,i,j⟩:=ZvO h.l (Zpq m) id;have g:=Zfp (atN (Ze m) id).sch (by have:=f.n;omega) f.c;unfold YC;by_cases a:(atN (Ze m) id).st=2;have b:((atN (Ze m) id).st==2)=true:=by rw[a];rfl
 simp only[a,if_true];refine ZS func11 rfl ntmps11 results11 (Yr _) ?_;simp only[go_sem,tr,tg];refine vc5 e ?_;simp only[go_sem,nd,b];refine vc2 g ?_;simp only[go_sem,Zt,YX];by_cases c:(atN (Ze m) id).st=3;have b:((atN (Ze m) id).st==2)=false:=by simpa using a
 have d:((atN (Ze m) id).st==3)=true:=by rw[c];rfl
 simp only[a,c,if_true,if_false];refine ZS func11 rfl ntmps11 results11 (Yr _) ?_;simp only[go_sem,tr,tg];refine vc5 e ?_;simp only[go_sem,nd,b,d,YX,Zt];have b:((atN (Ze m) id).st==2)=false:=by simpa using a
 have d:((atN (Ze m) id).st==3)=false:=by simpa using c
 simp only[a,c,if_false];refine ZS func11 rfl ntmps11 results11 (Yr _) ?_;simp only[go_sem,tr,tg];refine vc5 e ?_;simp only[go_sem,nd,b,d,YX,Zt]
def Zyh (l:List Nd) (id:Tg):Int:=if(atN l id).st=2 then(atN l id).dep else-1
def upL (w:List Eg):List Tg:=(w.reverse.map (·.id))++ [Jd]
def upC (m:List Eg) (id:Tg):Int:=(YC (Ze m) id).2
def Um (m:List Eg) (id:Tg):List Eg:=(Zmq m id).getD []
def Zqz (m:List Eg) (id:Tg) (h:id≠Jd):atN (Ze m) id=((Xz m id).map (Ys m)).getD Jd:=by
 simp only[atN,h,if_false,TR]
theorem XB {m:List Eg} {id:Tg} (h:upC m id=0):Way m id (Um m id)/\WE (Um m id) ZbG=Hs (YC (Ze m) id).1/\Zyh (Ze m) id=((Um m id).length:Int):=by
 have a:(atN (Ze m) id).st=2:=by
  unfold upC YC at h;split at h;assumption;split at h<;>cases h
 have j:(YC (Ze m) id).1=(atN (Ze m) id).sch:=by simp only[YC,a,if_true]
 have c:Zyh (Ze m) id=(atN (Ze m) id).dep:=by simp only[Zyh,a,if_true]
 rw[j,c];by_cases hd:id=Jd;subst hd;have b:Um m Jd= []:=by
  have:=WZ.2 (Way.root (m:=m));simp[Um,this]
 rw[b];exact⟨.root,by simp[WE,atN,ZiK],by simp[atN,ZiK]⟩;rw[Zqz m id hd]at a ⊢;cases d:Xz m id with
 |none=>rw[d]at a;cases a
 |some e=>
  rw[d]at a;simp only[JG,JS]at a ⊢;have g:=(Wg d).1;unfold Ys Zcl at a ⊢;rw[<-g]at a ⊢;cases b:Zmq m id with
  |none=>rw[b]at a;cases a
  |some w=>
   have i:Um m id=w:=by simp[Um,b]
   rw[b]at a;rw[i];simp only at a ⊢;cases f:WE w ZbG with
   |none=>rw[f]at a;cases a
   |some fs=>exact⟨WZ.1 b,rfl,rfl⟩
def Zkp (w:List Eg) (e:Eg):upL (w++ [e])=e.id::upL w:=by simp[upL]
def GI (w:List Eg):(upL w).length=w.length+1:=by simp[upL]
def Zi0 (w:List Eg) (t:Nat) (a:t<w.length):(upL w).getD (w.length-t-1) Jd=(w.getD t Jd).id:=by
 unfold upL;rw[Zf (by simp;omega)];rw[getD_lt (by simp;omega),getD_lt a];simp only[Jf,List.getElem_reverse];congr 2;omega
theorem Zko {m:List Eg} {id:Tg} {w:List Eg} (h:Way m id w):upL w=id::(upL w).tail:=by
 cases h with
 |root=>rfl
 |step hn he hw=>rw[Zkp,(Wg he).1];rfl
def Zp3 (x:List Tg×Int):PV:= .tup [tgs x.1,.int .i64 x.2]
def Zkk (l:List Tg):(tgs l).dids= []:=by simp only[tgs,Jt,Zjq]
def Zhc (x:List Tg×Int):(Zp3 x).dids= []:=by simp only[Zp3,Jt,Jl,Zkk,Jb]
def upM (m:List Eg) (id:Tg):List Tg×Int:=if upC m id≠0 then([],upC m id)else(upL (Um m id),0)
structure UpS (m:List Eg) (w:List Eg) where
 id:Tg
 r:List Eg
 acc:List Tg
 hw:Way m id r
 hx:acc++(upL r).tail=upL w
def tgd (t:Tg):(t.r==0&&t.n==0)=decide (t=Jd):=Z6 t Jd
theorem ZmM (m:List Eg) (id:Tg) (j:OkM m):Pp 198 [tr (Ze m),tg id] (Zp3 (upM m id)):=by
 have q:=Y6 m id j;unfold upM;by_cases f:upC m id=0;obtain⟨l,_,_⟩:=XB f;simp only[f,ne_eq,not_true_eq_false,if_false];have c:(YC (Ze m) id).2=0:=f;generalize Um m id=w at *;have v:w.length<=40:=by have:=l.len;have:=j.n;omega
 refine ZS func198 rfl ntmps198 results198 (Zhc _) ?_;simp only[go_sem,tr,tg];refine vc5 q ?_;simp only[go_sem,YX,c];refine YL 8 21 39 1 2 25 [tg id] rfl rfl rfl ?_;refine ZA (ι:=UpS m w) 41 (λx=> [(0,tr (Ze m)),(3,.ptr 3 0),(8,.sl (.row 39) (x.acc.map tg))]) (λx=> [(3,[.int .i64 x.id.r,.int .i64 x.id.n],Hf)]) (λx=> [(39,.live x.acc.length 2 25)]) (λx=>x.r.length) ⟨id,w,[id],l,by rw[Zko l];rfl⟩
  ⟨rfl,(Fc3 rfl rfl rfl),fcs ⟨rfl,rfl⟩ fnl,fcs rfl fnl⟩ (λx=>⟨Fc3 rfl rfl (by simp[Ke,ZR]),(fcs rfl fnl)⟩) (λx=> ?_)
 obtain⟨b,r,a,s,n⟩:=x;simp only;have t:a.length<=41:=by
  have:=congrArg Kf n;rw[JK,GI]at this;omega
 have k:=YP (show a.length+1<=1000000 by omega) (show 16<=1000 by omega);by_cases hd:b=Jd;have g:decide (b=Jd)=true:=by simpa using hd
 have d:a=upL w:=by
  rw[<-n];subst hd;cases s with
  |root=>simp[upL]
  |step hn _ _=>exact absurd rfl hn
 simp only[go_sem,tgd,g,Zp3,tgs,d];have g:decide (b=Jd)=false:=by simpa using hd
 have p:=ZcJ m b j;cases s with
 |root=>exact absurd rfl hd
 |step hn he hw'=>
  rename_i e u;have i:ZfV m b=(e,0):=by simp[ZfV,he]
  rw[i]at p;have o:(a++ [e.par])++(upL u).tail=upL w:=by
   rw[<-n,Zkp,List.tail_cons,Zko hw'];simp
  simp only[go_sem,tr,tgd,g];refine vc5 p ?_;simp only[go_sem,edc,eg,Zaj,k];exact⟨⟨e.par,u,a++ [e.par],hw',o⟩,by show u.length<(u++ [e]).length;simp,⟨rfl,Fc3 rfl rfl (by simp[upd,tg]),fcs ⟨rfl,rfl⟩ fnl,fcs (by simp[upd]) fnl⟩⟩
 have c:((YC (Ze m) id).2 !=0)=true:=by have h:(YC (Ze m) id).2≠0:=f;simpa using h
 simp only[ne_eq,f,not_false_eq_true,if_true];refine ZS func198 rfl ntmps198 results198 (Zhc _) ?_;simp only[go_sem,tr,tg];refine vc5 q ?_;simp only[go_sem,YX,c,Zp3,tgs,upC]
def lcp:List Eg->List Eg->Nat
 |a::xs,b::ys=>if a=b then lcp xs ys+1 else 0
 |_,_=>0
theorem ZjR:∀(a b:List Eg),lcp a b<=a.length/\lcp a b<=b.length
 | [],b=>by simp[lcp]
 |a::xs,[]=>by simp[lcp]
 |a::xs,b::ys=>by
  have:=ZjR xs ys;simp only[lcp];split;simp;omega;simp
theorem Zin:∀(a b:List Eg) (t:Nat),t<lcp a b->a.getD t Jd=b.getD t Jd
 | [],b,t,h=>by simp[lcp]at h
 |a::xs,[],t,h=>by simp[lcp]at h
 |a::xs,b::ys,t,h=>by
  simp only[lcp]at h;split at h;rename_i e;cases t with
  |zero=>simpa using e
  |succ t=>simpa using Zin xs ys t (by omega)
  omega
theorem ZjS:∀(a b:List Eg),lcp a b<a.length->lcp a b<b.length->a.getD (lcp a b) Jd≠b.getD (lcp a b) Jd
 | [],b,h,_=>by simp at h
 |a::xs,[],_,h=>by simp at h
 |a::xs,b::ys,h1,h2=>by
  simp only[lcp]at h1 h2 ⊢;split;rename_i e;rw[if_pos e]at h1 h2;simpa using ZjS xs ys (by simpa using h1) (by simpa using h2);rename_i e;simpa using e
def Zrq (a b:List Eg):a.take (lcp a b)=b.take (lcp a b):=by
 have f:=ZjR a b;apply JR;simp;omega;intro i c e;have d:i<lcp a b:=by simp at c;omega
 have:=Zin a b i d;rw[getD_lt (by omega),getD_lt (by omega)]at this;simpa using this
def Apart.inj {m:List Eg} (h:Apart m) {a b:Eg} (d:a∈m) (f:b∈m) (e:a.id=b.id):a=b:=by
 have c:=h.find d;rw[e,h.find f]at c;cases c;rfl
structure WayT where
 up:List Tg
 down:List Tg
 i:Nat
 j:Nat
 c:Int
def Zp5 (x:WayT):PV:= .tup [tgs x.up,tgs x.down,.int .i64 (x.i:Int),.int .i64 (x.j:Int),.int .i64 x.c]
def Zb3 (x:WayT):(Zp5 x).dids= []:=by simp only[Zp5,Jt,Jl,Zkk,Jb]
def Zmr (m:List Eg) (a b:Tg):WayT:=
 if upC m a≠0 then⟨[],[],0,0,upC m a⟩else if upC m b≠0 then⟨[],[],0,0,upC m b⟩
 else⟨upL (Um m a),upL (Um m b),(Um m a).length-lcp (Um m a) (Um m b),(Um m b).length-lcp (Um m a) (Um m b),0⟩
def ZpO (m:List Eg) (a b:Tg) (g:OkM m):Pp 189 [tr (Ze m),tg a,tg b] (Zp5 (Zmr m a b)):=by
 have c:=ZmM m a g;have d:=ZmM m b g;unfold Zmr;unfold upM at c d;by_cases f:upC m a=0;by_cases i:upC m b=0;obtain⟨F,_,_⟩:=XB f;obtain⟨G,_,_⟩:=XB i;simp only[f,i,ne_eq,not_true_eq_false,if_false]at c d ⊢;generalize Um m a=p at *;generalize Um m b=q at *;have I:=ZjR p q;have J:p.length<=40:=by have:=F.len;have:=g.n;omega
 have K:q.length<=40:=by have:=G.len;have:=g.n;omega
 have M:((upL p).length:Int)=(p.length:Int)+1:=by rw[GI];rfl
 have N:((upL q).length:Int)=(q.length:Int)+1:=by rw[GI];rfl
 have O:IntKind.i64.wrap ((p.length:Int)+1-1)=(p.length:Int):=by rw[w64 (by omega)];omega
 have P:IntKind.i64.wrap ((q.length:Int)+1-1)=(q.length:Int):=by rw[w64 (by omega)];omega
 refine ZS func189 rfl ntmps189 results189 (Zb3 _) ?_;simp only[go_sem,tr,tg];refine Ze0 (ι:= { t:Nat // t<=lcp p q }) 62 (λx=> [(6,tgs (upL p)),(7,tgs (upL q)),(8,.int .i64 ((p.length-x.1:Nat):Int)),(9,.int .i64 ((q.length-x.1:Nat):Int))]) (λx=> []) (λx=> []) (λx=>lcp p q-x.1) 0 _ (by exact rfl) (λx=>⟨(Fc4 rfl rfl rfl rfl),fnl⟩) (λx=> ?_) (λcut=> ?_);obtain⟨t,Q⟩:=x;simp only;by_cases w:t<p.length;have c1:(0:Int)<((p.length-t:Nat):Int):=by omega
 by_cases y:t<q.length;have h:(0:Int)<((q.length-t:Nat):Int):=by omega
 have D:IntKind.i64.wrap (((p.length-t:Nat):Int)-1)=((p.length-t-1:Nat):Int):=by rw[w64 (by omega)];omega
 have E:IntKind.i64.wrap (((q.length-t:Nat):Int)-1)=((q.length-t-1:Nat):Int):=by rw[w64 (by omega)];omega
 have z:p.length-t-1<(upL p).length:=by rw[GI];omega
 have A:q.length-t-1<(upL q).length:=by rw[GI];omega
 have r:(0:Int)<=((p.length-t-1:Nat):Int):=by omega
 have s:(0:Int)<=((q.length-t-1:Nat):Int):=by omega
 have u:((p.length-t-1:Nat):Int)<((upL p).length:Int):=by omega
 have v:((q.length-t-1:Nat):Int)<((upL q).length:Int):=by omega
 have B:=Zi0 p t w;have C:=Zi0 q t y;by_cases n:t<lcp p q;have l:decide ((p.getD t Jd).id=(q.getD t Jd).id)=true:=by rw[Zin p q t n];simp
 simp only[go_sem,tgs];refine vDq ?_;simp only[go_sem,c1,h,D,E,YU z,YU A,B,C,tg,r,s,u,v,Z6,l];exact⟨⟨t+1,by omega⟩,by show lcp p q-(t+1)<lcp p q-t;omega,⟨rfl,Fc4 rfl rfl (by simp only[Kg];rfl) (by simp only[Kg];rfl),fnl,fnl⟩⟩;obtain rfl:t=lcp p q:=by omega
 have o:decide ((p.getD (lcp p q) Jd).id=(q.getD (lcp p q) Jd).id)=false:=by
  rw[decide_eq_false_iff_not];intro e;have L:=ZjS p q (by omega) (by omega);exact L (g.a.inj (F.mem _ (Zc w)) (G.mem _ (Zc y)) e)
 simp only[go_sem,tgs];refine vDq ?_;simp only[go_sem,c1,h,D,E,YU z,YU A,B,C,tg,r,s,u,v,Z6,o,Zp5,tgs];have h:¬(0:Int)<((q.length-t:Nat):Int):=by omega
 obtain rfl:t=lcp p q:=by omega
 simp only[go_sem,tgs];refine vDq ?_;simp only[go_sem,c1,h,Zp5,tgs];have c1:¬(0:Int)<((p.length-t:Nat):Int):=by omega
 obtain rfl:t=lcp p q:=by omega
 simp only[go_sem,tgs];refine vDq ?_;simp only[go_sem,c1,Zp5,tgs];simp only[go_sem];refine vc5 c ?_;simp only[go_sem,Zp3];refine vc5 d ?_;simp only[go_sem,Zp3,tgs,M,N,O,P];exact YS (cut ⟨0,Jn _⟩ _ ⟨rfl,(Fc4 rfl rfl rfl rfl),fnl,fnl⟩);have k:(upC m b !=0)=true:=by simpa using i
 simp only[f,i,ne_eq,not_true_eq_false,not_false_eq_true,if_true,if_false]at c d ⊢;refine ZS func189 rfl ntmps189 results189 (Zb3 _) ?_;simp only[go_sem,tr,tg];refine Tt ?_;simp only[go_sem];refine vc5 c ?_;simp only[go_sem,Zp3];refine vc5 d ?_;simp only[go_sem,Zp3,tgs,k,Zp5];have j:(upC m a !=0)=true:=by simpa using f
 simp only[f,ne_eq,not_false_eq_true,if_true]at c ⊢;refine ZS func189 rfl ntmps189 results189 (Zb3 _) ?_;simp only[go_sem,tr,tg];refine Tt ?_;simp only[go_sem];refine vc5 c ?_;simp only[go_sem,Zp3,tgs,j,Zp5]
def dn (e:Eg):Lg:=⟨e.id,Ht⟩
def upg (i:Tg):Lg:=⟨i,Hf⟩
def Zck (p q:List Eg):List Lg:=((p.drop (lcp p q)).reverse.map λe=>upg e.id)++(q.drop (lcp p q)).map dn
def Zsn (p:List Eg) (c:Nat) (a:c<=p.length):(upL p).take (p.length-c)=(p.drop c).reverse.map (·.id):=by
 unfold upL;rw[JD (by simp),<-Kd,List.take_reverse];congr 3;omega
def Zio (x:List Lg×Int):PV:= .tup [lgs x.1,.int .i64 x.2]
theorem ZqR (l:List Lg):Jl (l.map lg)= []:=by
 induction l with
 |nil=>rfl
 |cons t l ih=>simp only[Jk,Jl,ih,lg,Jt,Jb]
def Zrs (l:List Lg):(lgs l).dids= []:=by simp only[lgs,Jt,ZqR]
def Zdh (x:List Lg×Int):(Zio x).dids= []:=by simp only[Zio,Jt,Jl,Zrs,Jb]
def Zkg (l:List Lg):Sized 3 (l.map lg):=λe a=>by
 obtain⟨x,_,rfl⟩:=Jc.1 a;rfl
def UO (m:List Eg) (a b:Tg):Int:=if upC m a≠0 then upC m a else upC m b
def ZlM (m:List Eg) (a b:Tg):List Lg×Int:=if UO m a b≠0 then([],UO m a b)else(Zck (Um m a) (Um m b),0)
def VF {m:List Eg} {a b:Tg}:UO m a b=0↔upC m a=0/\upC m b=0:=by
 unfold UO;split;rename_i h;exact⟨λc=>absurd c h,λc=>absurd c.1 h⟩;rename_i h;exact⟨λc=>⟨by simpa using h,c⟩,λc=>c.2⟩
def ZpN {m:List Eg} {a b:Tg} (h:UO m a b≠0):Zmr m a b=⟨[],[],0,0,UO m a b⟩:=by
 unfold Zmr UO at *;split;rfl;rename_i c;rw[if_neg c]at h;rw[if_pos h]
def Zms {m:List Eg} {a b:Tg} (h:UO m a b=0):Zmr m a b=⟨upL (Um m a),upL (Um m b),(Um m a).length-lcp (Um m a) (Um m b),(Um m b).length-lcp (Um m a) (Um m b),0⟩:=by
 obtain⟨c,d⟩:=VF.1 h;unfold Zmr;rw[if_neg (by simp[c]),if_neg (by simp[d])]
def Zch {q:List Eg} {c s:Nat} (h:c+s<q.length):(q.drop c).take (s+1)=(q.drop c).take s++ [q.getD (c+s) Jd]:=by
 rw[JB];congr 1;rw[List.getElem?_drop,List.getElem?_eq_getElem h,getD_lt h];rfl
def ZmG (m:List Eg) (a b:Tg) (v:OkM m):Pp 175 [tr (Ze m),tg a,tg b] (Zio (ZlM m a b)):=by
 have o:=ZpO m a b v;unfold ZlM;by_cases j:UO m a b=0;rw[Zms j]at o;obtain⟨I,J⟩:=VF.1 j;obtain⟨U,_,_⟩:=XB I;obtain⟨V,_,_⟩:=XB J;simp only[j,ne_eq,not_true_eq_false,if_false];generalize Um m a=p at *;generalize Um m b=q at *;have u:=ZjR p q;have N:p.length<=40:=by have:=U.len;have:=v.n;omega
 have O:q.length<=40:=by have:=V.len;have:=v.n;omega
 unfold Zck;have B:=Zsn p (lcp p q) u.1;have K:(p.drop (lcp p q)).length=p.length-lcp p q:=by simp
 have E:(q.drop (lcp p q)).length=q.length-lcp p q:=by simp
 generalize f:(p.drop (lcp p q)).reverse.map (·.id)=ids at *;have D:ids.length=p.length-lcp p q:=by rw[<-f];simp
 have l:((p.drop (lcp p q)).reverse.map λe=>upg e.id)=ids.map upg:=by rw[<-f,JI];rfl
 rw[l];have n:ids.length<=maxLen:=by rw[Zd];omega
 have S:IntKind.i64.wrap (((p.length-lcp p q:Nat):Int)+((q.length-lcp p q:Nat):Int))=((p.length-lcp p q+(q.length-lcp p q):Nat):Int):=by rw[w64 (by omega)];omega
 have P:(upL p).length=p.length+1:=GI p;refine ZS func175 rfl ntmps175 results175 (Zdh _) ?_;simp only[go_sem,tr,tg];refine Ze0 (ι:= { s:Nat // s<=q.length-lcp p q }) 60 (λx=> [(9,tgs (upL q)),(11,.int .i64 ((q.length-lcp p q-x.1:Nat):Int)),(13,.sl (.row 58) ((ids.map upg++((q.drop (lcp p q)).take x.1).map dn).map lg))]) (λx=> []) (λx=> [(58,.live (ids.length+x.1) 3 233)]) (λx=>q.length-lcp p q-x.1) 0 _ (by exact rfl)
  (λx=>⟨Fc3 rfl rfl (by simp[Ke,ZR]),fnl⟩) (λx=> ?_) (λcut=> ?_)
 obtain⟨s,W⟩:=x;simp only;by_cases M:s<q.length-lcp p q;have c1:(0:Int)<((q.length-lcp p q-s:Nat):Int):=by omega
 have C:IntKind.i64.wrap (((q.length-lcp p q-s:Nat):Int)-1)=((q.length-(lcp p q+s)-1:Nat):Int):=by rw[w64 (by omega)];omega
 have R:q.length-(lcp p q+s)-1<(upL q).length:=by rw[GI];omega
 have F:(0:Int)<=((q.length-(lcp p q+s)-1:Nat):Int):=by omega
 have G:((q.length-(lcp p q+s)-1:Nat):Int)<((upL q).length:Int):=by omega
 have T:=Zi0 q (lcp p q+s) (by omega);have g:=YP (show ids.length+s+1<=1000000 by omega) (show 24<=1000 by omega);have y:(ids.map upg++((q.drop (lcp p q)).take s).map dn).length=ids.length+s:=by simp;omega
 have w:=Zch (q:=q) (c:=lcp p q) (s:=s) (by omega);simp only[go_sem,tgs,c1,C,YU R,T,tg,F,G,Zkg,y,g];refine⟨⟨s+1,by omega⟩,by show q.length-lcp p q-(s+1)<q.length-lcp p q-s;omega,⟨rfl,fcs rfl (fcs ?_ (fcs ?_ fnl)),fnl,fcs ?_ fnl⟩⟩;show PV.int .i64 _=PV.int .i64 _;congr 2;simp only;omega;show Kh (.row 58) _=Kh (.row 58) _;simp[w,dn,lg];rfl;obtain rfl:s=q.length-lcp p q:=by omega
 have c1:¬(0:Int)<((q.length-lcp p q-(q.length-lcp p q):Nat):Int):=by omega
 have i:(q.drop (lcp p q)).take (q.length-lcp p q)=q.drop (lcp p q):=JU (by omega);simp only[go_sem,tgs,c1,Zio,lgs,i]
 ·simp only[go_sem];refine vc5 o ?_;simp only[go_sem,Zp5,tgs,S];repeat((with_reducible refine And.intro ?_ ?_);(focus((repeat' (with_reducible apply And.intro))<;>(first|omega|exact Yl (by omega) (by omega)|exact Yl (by simp;omega) (by omega)|exact Yb _|(simp;done)|(simp;omega)))))
  have A:PL.cut (List.map tg (upL p)) 0 ((p.length-lcp p q:Nat):Int)=ids.map tg:=by simp[PL.cut,<-Kd,B]
  refine⟨⟨by omega,by omega,Zaj _⟩,?_⟩;simp only[go_sem,A];refine YL 13 32 45 0 3 233 [] rfl rfl rfl ?_;refine ZA (ι:= { x:Nat // x<=(ids).length }) 60 (λx=> [(9,tgs (upL q)),(11,.int .i64 ((q.length-lcp p q:Nat):Int)),(13,.sl (.row 45) (((ids.take x.1).map upg).map lg)),(35,tgs ids),(36,.int .i64 (ids.length:Int)),(37,.int .i64 (x.1:Int))]) (λx=> []) (λx=> [(45,.live (x.1) (3) (233))]) (λx=>(ids).length-x.1) ⟨0,Jn _⟩ ⟨rfl,(Fc6 rfl rfl rfl rfl rfl rfl),fnl,(fcs rfl fnl)⟩ (λx=>⟨(Fc6 rfl rfl (by simp[Ke,ZR]) rfl rfl rfl),fnl⟩) (λx=> ?_);obtain⟨k,L⟩:=x;simp only at L ⊢;by_cases h:(k:Int)<(ids.length:Int)
  ·(have d:k<(ids).length:=by omega);(have C:=Wa d (n));(have Q:=Jq k)
   have z:ids.take (k+1)=ids.take k++ [ids.getD k Jd]:=by rw[JB,getD_lt d];simp[d]
   have t:(ids.take k).length=k:=by simp;omega
   have g:=YP (show k+1<=1000000 by omega) (show 24<=1000 by omega);simp only[go_sem,h,tgs,YU d,tg,Q,C,Zkg,t,g];exact⟨⟨k+1,by(try simp only);omega⟩,by show(ids).length-(k+1)<(ids).length-k;omega,⟨rfl,(Fc6 rfl rfl (by(show Kh _ _=Kh _ _;simp[z,upg,lg])) rfl rfl rfl),fnl,(fcs rfl fnl)⟩⟩
  obtain rfl:k=ids.length:=by omega
  have i:ids.take ids.length=ids:=JT;simp only[go_sem,h,i];refine YL 13 45 58 ids.length 3 233 ((ids.map upg).map lg) rfl rfl rfl ?_;exact YS (cut ⟨0,Jn _⟩ _ ⟨rfl,Fc3 rfl rfl (by simp[upd,St.with]),fnl,fcs (by simp[upd,Hp.setq,St.with]) fnl⟩)
 have r:(UO m a b !=0)=true:=by simpa using j
 rw[ZpN j]at o;simp only[ne_eq,j,not_false_eq_true,if_true];refine ZS func175 rfl ntmps175 results175 (Zdh _) ?_;simp only[go_sem,tr,tg];refine Tt ?_;simp only[go_sem];refine vc5 o ?_;simp only[go_sem,Zp5,tgs,r,Zio,lgs]
def awX:Ln:=⟨1,⟨1,[],[110,111,116,101]⟩,[109,101,109,111],[],0,Jd,[],[]⟩
def awA:Eg:=⟨⟨1,1⟩,Jd,awX⟩
def ZA5:OkLn awX:=⟨by decide,by decide,by decide⟩
def ZA7:Ze7 [] awA=([awA],0):=by decide+kernel
def okA:OkM [awA]:=by have:=ZtV Gz (e:=awA) ZA5;rw[ZA7]at this;exact this
def flip (l:Lg):Lg:=⟨l.id,!l.down⟩
def ZjT (m:List Eg) (a b:Tg) (c:OkM m):(ZlM m a b).1.length<=80:=by
 unfold ZlM;split;simp;rename_i h;have h:=VF.1 (by simpa using h);have d:=(XB h.1).1.len;have e:=(XB h.2).1.len;have:=c.n;simp only[Zck,JK,J8,List.length_reverse,List.length_drop];omega
def okL {l:List Eg} (h:Zbb l 50=Hf):l.length<=50/\ ∀e∈l,OkLn e.ln:=by
 simp only[Zbb,JE,decide_eq_false_iff_not,J2]at h;exact⟨by omega,λe a=>ZoF (by simpa using h.2 e a)⟩
def Yz {x:Ln} (h:Zx x=Ht):(x.kind=1\/x.kind=2\/x.kind=3\/x.kind=4\/x.kind=5\/x.kind=6\/x.kind=7\/x.kind=8\/x.kind=9\/x.kind=10)/\(x.kind≠8->x.fo= []/\x.ba= []):=by
 unfold Zx at h;split at h;rename_i a;simp only[Jg,J3]at h;exact⟨by omega,λ_=>Ts.1 h.2.2.2.2.1⟩;simp only[Jg]at h;obtain⟨_,h⟩:=h;split at h;rename_i a;exact⟨by omega,λb=>absurd a b⟩;simp only[Jg,J3]at h;refine⟨?_,λ_=>Ts.1 h.1⟩;have h:=h.2;split at h;omega;simp only[Jg]at h;have h:=h.2;split at h;omega;simp only[Jg]at h;have h:=h.2;split at h;omega;split at h;omega;simp only[Jg,decide_eq_true_eq]at h;omega
def Zey (m:List Eg) (x:Lg):Ln×Int:=match Xz m x.id with|none=>(Jd,6)|some e=>if x.down=Ht then(e.ln,0)else(FV e.ln,0)
structure RightM (m:List Eg):Prop where
 r:∀e∈m,Gl e=Ht
def Zle {e:Eg} (h:Gl e=Ht):Zx e.ln=true:=by
 simp only[Gl,Jg]at h;exact h.2.2.2.2
def ZrW {m:List Eg} (h:RightM m) (e:Eg):RightM (Ze7 m e).1:=by
 unfold Ze7;split;exact h;rename_i b;split;split<;>exact h
 split;exact h;refine⟨λx a=> ?_⟩;rcases Jo.1 a with a|a;exact h.r x a;rw[Ju.1 a];simpa using b
theorem Zdw:∀(l:List Eg) {m:List Eg},RightM m->RightM (l.foldl (λm e=>(Ze7 m e).1) m)
 | [],m,h=>h
 |e::l,m,h=>Zdw l (ZrW h e)
def ZbF:RightM []:=⟨λe h=>by cases h⟩
theorem ZkT (m:List Eg) (x:Lg) (d:OkM m) (i:RightM m):Pp 176 [tr (Ze m),lg x] (lnc (Zey m x)):=by
 have a:=ZcJ m x.id d;unfold ZfV at a;unfold Zey;cases c:Xz m x.id with
 |none=>
  rw[c]at a;simp only at a ⊢;refine ZS func176 rfl ntmps176 results176 (Di _) ?_;simp only[go_sem,tr,lg];refine vc5 a ?_;simp only[go_sem,edc,ZcV,lnc,Zbh]
 |some e=>
  rw[c]at a;simp only at a ⊢;have b:=(Wg c).2;have g:=Zaw e.ln (d.l e b);have f:=Zfg e.ln (d.l e b);have h:Zxs e.ln=(FV e.ln,0):=by unfold Zxs;rw[Zle (i.r e b)];rfl
  rw[h]at f;obtain⟨id,down⟩:=x;cases down
  ·refine ZS func176 rfl ntmps176 results176 (Di _) ?_;simp only[go_sem,tr,lg];refine vc5 a ?_;simp only[go_sem,edc,eg];refine vc3 f ?_;simp only[go_sem,lnc,lns,if_false]
  ·refine ZS func176 rfl ntmps176 results176 (Di _) ?_;simp only[go_sem,tr,lg];refine vc5 a ?_;simp only[go_sem,edc,eg];refine vc3 g ?_;simp only[go_sem,lnc,lns,if_true]
def Zyq {x:Ln} (h:OkLn x):OkLn (FV x):=by
 unfold FV;repeat' split
 all_goals first|exact⟨h.c,h.f,h.b⟩|exact⟨h.c,h.b,h.f⟩
def ZvP {m:List Eg} (b:OkM m) (x:Lg):OkLn (Zey m x).1:=by
 unfold Zey;split;exact⟨by decide,by decide,by decide⟩;rename_i e a;have:=b.l e (Wg a).2;split;exact this;exact Zyq this
def tgc (x:Tg×Int):PV:= .tup [tg x.1,.int .i64 x.2]
def Zsi (x:Tg×Int):(tgc x).dids= []:=by simp only[tgc,Jt,Jl,Zpl,Jb]
def ZtL {m:List Eg} {a b:Tg} (h:UO m a b=0) (j:Apart m):∀x∈Zck (Um m a) (Um m b),∃e,e∈m/\Xz m x.id=Hs e/\x.id=e.id:=by
 obtain⟨g,i⟩:=VF.1 h;obtain⟨k,_,_⟩:=XB g;obtain⟨l,_,_⟩:=XB i;intro x d;have key:∀e∈m,∃f,f∈m/\Xz m e.id=Hs f/\e.id=f.id:=λe c=>⟨e,c,j.find c,rfl⟩
 unfold Zck at d;rcases Jo.1 d with d|d;obtain⟨e,c,rfl⟩:=Jc.1 d;exact key e (k.mem e (Jv (J6.1 c)));obtain⟨e,c,rfl⟩:=Jc.1 d;exact key e (l.mem e (Jv c))
def G9 (m:List Eg) (l:List Lg):List Ln:=l.map λx=>(Zey m x).1
def Zdy (m:List Eg) (a b:Tg):List Ln×Int:=if UO m a b≠0 then([],UO m a b)else(G9 m (Zck (Um m a) (Um m b)),0)
def Zhw (l:List Ln):PV:= .sl .no (l.map lns)
def ZsS (x:List Ln×Int):PV:= .tup [Zhw x.1,.int .i64 x.2]
theorem Zoh (l:List Ln):(Zhw l).dids= []:=by
 unfold Zhw;simp only[Jt];induction l with
 |nil=>rfl
 |cons e l ih=>simp only[Jk,Jl,ih,Zae,Jb]
def Zgj (x:List Ln×Int):(ZsS x).dids= []:=by simp only[ZsS,Jt,Jl,Zoh,Jb]
def Zr7 (l:List Ln):Sized 16 (l.map lns):=λe a=>by
 obtain⟨x,_,rfl⟩:=Jc.1 a;rfl
def ZnN {l:List Ln} {i:Nat} (h:i<l.length):(l.map lns).getD i .any=lns (l.getD i Jd):=Xk h
def Zqf (m:List Eg) (a b:Tg) (j:OkM m) (w:RightM m):Pp 146 [tr (Ze m),tg a,tg b] (ZsS (Zdy m a b)):=by
 have f:=ZmG m a b j;have g:=ZjT m a b j;unfold Zdy;unfold ZlM at f g;by_cases i:UO m a b=0
 ·have o:=ZtL i j.a;simp only[i,ne_eq,not_true_eq_false,if_false]at f g ⊢;generalize Zck (Um m a) (Um m b)=legs at *;have q:legs.length<=maxLen:=by rw[Zd];omega
  refine ZS func146 rfl ntmps146 results146 (Zgj _) ?_;simp only[go_sem,tr,tg];refine vc5 f ?_;simp only[go_sem,Zio,lgs];repeat((with_reducible refine And.intro ?_ ?_);(focus((repeat' (with_reducible apply And.intro))<;>(first|omega|exact Yl (by omega) (by omega)|exact Yl (by simp;omega) (by omega)|exact Yb _|(simp;done)|(simp;omega)))))
  refine YL 10 27 46 0 16 72 [] rfl rfl rfl ?_;refine ZA (ι:= { x:Nat // x<=(legs).length }) 49 (λx=> [(0,tr (Ze m)),(10,.sl (.row 46) ((G9 m (legs.take x.1)).map lns)),(28,lgs legs),(29,.int .i64 (legs.length:Int)),(30,.int .i64 (x.1:Int))]) (λx=> []) (λx=> [(46,.live (x.1) (16) (72))]) (λx=>(legs).length-x.1) ⟨0,Jn _⟩ ⟨rfl,(Fc5 rfl rfl rfl rfl rfl),fnl,(fcs rfl fnl)⟩ (λx=>⟨(Fc5 rfl (by simp[Ke,ZR]) rfl rfl rfl),fnl⟩) (λx=> ?_);obtain⟨k,v⟩:=x;simp only at v ⊢;by_cases h:(k:Int)<(legs.length:Int)
  ·(have c:k<(legs).length:=by omega);(have A:=Wa c (q));(have z:=Jq k)
   obtain⟨e,B,n,_⟩:=o _ (Zc (d:=Jd) c);have u:=ZkT m (legs.getD k Jd) j w;have y:(Zey m (legs.getD k Jd)).2=0:=by unfold Zey;rw[n];simp only;split<;>rfl
   have t:legs.take (k+1)=legs.take k++ [legs.getD k Jd]:=by rw[JB,getD_lt c];simp[c]
   have p:(G9 m (legs.take k)).length=k:=by simp[G9];omega
   have r:=YP (show k+1<=1000000 by omega) (show 232<=1000 by omega);simp only[go_sem,tr,h,lgs,ZtH c,lg,z];refine vc5 u ?_;simp only[go_sem,lnc,y,lns,Zr7,p,r,A];exact⟨⟨k+1,by(try simp only);omega⟩,by show(legs).length-(k+1)<(legs).length-k;omega,⟨rfl,(Fc5 rfl (by(show Kh _ _=Kh _ _;simp[t,G9,lns])) rfl rfl rfl),fnl,(fcs rfl fnl)⟩⟩
  obtain rfl:k=legs.length:=by omega
  have s:legs.take legs.length=legs:=JT;simp only[go_sem,h,s,ZsS,Zhw]
 have l:(UO m a b !=0)=true:=by simpa using i
 simp only[ne_eq,i,not_false_eq_true,if_true]at f ⊢;refine ZS func146 rfl ntmps146 results146 (Zgj _) ?_;simp only[go_sem,tr,tg];refine vc5 f ?_;simp only[go_sem,Zio,lgs,l,ZsS,Zhw]
def ZoW {x:Ln} (h:Zx x=Ht) (b:x.kind=1\/x.kind=2\/x.kind=3\/x.kind=4\/x.kind=5\/x.kind=6\/x.kind=7\/x.kind=8\/x.kind=9\/x.kind=10):Zx (FV x)=true:=by
 obtain⟨kind,⟨sc,q,t⟩,nm,u,c,m,n,l⟩:=x;simp only at b;rcases b with rfl|rfl|rfl|rfl|rfl|rfl|rfl|rfl|rfl|rfl
 all_goals
  simp[Zx,FV,Vd,GH]at h ⊢
  (try(simp_all;done))
  (try(obtain⟨r,s⟩:=h;simp_all;done))
 obtain⟨⟨⟨d,f,o⟩,g⟩,i,j,k,p,a⟩:=h;exact⟨⟨⟨d,f,.inr a⟩,g⟩,i,j,k,λe=>by subst e;exact absurd a (by decide)⟩
def Znx (f:Fd) (r:Rf) (h:f.at'=r):(⟨r,f.kind,f.df,f.cases',f.worth⟩:Fd)=f:=by subst h;rfl
def ZvX {f:Fd} (h:ZT f=Ht) (b:f.kind=1):f=⟨f.at',1,[],[],f.worth⟩:=by
 obtain⟨a,k,d,c,w⟩:=f;simp only at b;subst b;simp[ZT]at h;simp_all
def ZvY {f:Fd} (h:ZT f=Ht) (b:f.kind=2):f=⟨f.at',2,f.df,[],0⟩:=by
 obtain⟨a,k,d,c,w⟩:=f;simp only at b;subst b;simp[ZT,Zha]at h;simp_all
def Zft {l m:List Fd} {x:Ln} (P:x.kind<=8) (h:ZW l x=(m,0)):ZW m (FV x)=(l,0):=by
 obtain⟨j,v,cs,Q,a,n,o⟩:=Xb h;have g:x.kind=1\/x.kind=2\/x.kind=3\/x.kind=4\/x.kind=5\/x.kind=6\/x.kind=7\/x.kind=8:=by
  have:=(Yz v).1;omega
 have s:=ZoW v (by omega);obtain⟨R,S,B⟩:=ZL.1 j;obtain⟨C,G,I,J,K⟩:=Ga j n;obtain⟨D,p,L,M,N⟩:=WU C o;have q:=(ZL.1 D).2.1;have find1:∀ {r:Rf},(Zp l r).2=0->(Zp l r).1∈l/\(Zp l r).1.at'=r:=λh=>Y1 h
 obtain⟨kind,⟨sc,e,k⟩,nm,A,w,z,O,E⟩:=x;simp only at g;rcases g with rfl|rfl|rfl|rfl|rfl|rfl|rfl|rfl
 -- rename
 simp only[WM,Zi,Zy,Jh,if_false,if_true,Jm]at a;split at a;cases a;rename_i i;simp only[JH.injEq,and_true]at a;obtain⟨c,b⟩:=find1 (by simpa using i);generalize (Zp l ⟨sc,e,k⟩).1=f at *;subst a;refine TW j n o s (gs:= [f]) rfl ?_ (by simpa using c) (by simp[ZN,b]);have d:=YZ q ((p ⟨⟨sc,e,nm⟩,f.kind,f.df,f.cases',f.worth⟩).2 (.inr (by simp)));simp only[WM,FV,Zi,Zy,Jh,if_false,if_true,Jm,d,ne_eq,not_true_eq_false];rw[Znx f _ b]
 -- add
 simp only[WM,Jh,if_true,JH.injEq,and_true]at a;subst a;have d:=YZ q ((p z).2 (.inr (by simp)));refine TW j n o s (gs:= []) rfl ?_ (by simp) rfl;simp[WM,FV,d]
 -- remove
 simp only[WM,Jh,if_false,if_true,JH.injEq,Jg,decide_eq_true_eq]at a;obtain⟨rfl,t,y⟩:=a;obtain⟨c,b⟩:=find1 t;rw[y]at c;exact TW j n o s (gs:= [z]) rfl (by simp[WM,FV]) (by simpa using c) rfl
 -- hoist
 simp only[WM,Zi,Jh,if_false,if_true,Jm]at a;split at a;cases a;rename_i i;simp only[JH.injEq,and_true]at a;obtain⟨c,b⟩:=find1 (by simpa using i);generalize (Zp l ⟨sc,e,k⟩).1=f at *;subst a;refine TW j n o s (gs:= [f]) rfl ?_ (by simpa using c) (by simp[ZN,b]);have d:=YZ q ((p ⟨⟨sc,[],k⟩,f.kind,f.df,f.cases',f.worth⟩).2 (.inr (by simp)));simp only[WM,FV,Zi,Zy,Jh,if_false,if_true,Jm,d,ne_eq,not_true_eq_false];rw[Znx f _ b]
 -- plunge
 have F:e= []:=by simp[Zx]at v;exact v.2.2.2.2.1
 subst F;simp only[WM,Zi,Jh,if_false,if_true,Jm]at a;split at a;cases a;rename_i i;simp only[JH.injEq,and_true]at a;obtain⟨c,b⟩:=find1 (by simpa using i);generalize (Zp l ⟨sc,[],k⟩).1=f at *;subst a;refine TW j n o s (gs:= [f]) rfl ?_ (by simpa using c) (by simp[ZN,b]);have d:=YZ q ((p ⟨⟨sc,nm,k⟩,f.kind,f.df,f.cases',f.worth⟩).2 (.inr (by simp)));simp only[WM,FV,Zi,Zy,Jh,if_false,if_true,Jm,d,ne_eq,not_true_eq_false];rw[Znx f _ b]
 -- split
 simp only[WM,Zy,Jh,if_false,if_true]at a;split at a;cases a;rename_i i;simp only[JH.injEq,decide_eq_true_eq]at a;obtain⟨a,t⟩:=a;obtain⟨c,b⟩:=find1 (by simpa using i);generalize (Zp l ⟨sc,e,k⟩).1=f at *;subst a;have u:=ZvX (B f c) t;rw[b]at u;refine TW j n o s (gs:= [f]) rfl ?_ (by simpa using c) (by simp[ZN,b]);have d:=YZ q ((p ⟨⟨sc,e,nm⟩,1,[],[],f.worth⟩).2 (.inr (by simp)));have hd:=YZ q ((p ⟨⟨sc,e,A⟩,1,[],[],IntKind.i64.wrap (f.worth*w)⟩).2 (.inr (by simp)));simp only[WM,Uu,FV,Zy,Jh,if_false,if_true,d,hd,ne_eq,not_true_eq_false,or_self];rw[<-u]
 -- wrap
 simp only[WM,Jh,if_false,if_true]at a;split at a;cases a;rename_i i;simp only[JH.injEq,Jg,decide_eq_true_eq]at a;obtain⟨a,t,y⟩:=a;obtain⟨c,b⟩:=find1 (by simpa using i);generalize (Zp l ⟨sc,e,k⟩).1=f at *;subst a;have u:=ZvY (B f c) t;rw[b,y]at u;refine TW j n o s (gs:= [f]) rfl ?_ (by simpa using c) (by simp[ZN,b]);have d:=YZ q ((p ⟨⟨sc,e,k⟩,4,[],[],0⟩).2 (.inr (by simp)));simp only[WM,FV,Jh,if_false,if_true,d,ne_eq,not_true_eq_false,decide_true];rw[<-u]
 -- convert
 simp only[WM,Jh,if_false,if_true]at a;split at a;cases a;rename_i i;simp only[JH.injEq,decide_eq_true_eq]at a;obtain⟨a,t⟩:=a;obtain⟨c,b⟩:=find1 (by simpa using i);generalize (Zp l ⟨sc,e,k⟩).1=f at *;subst a;refine TW j n o s (gs:= [f]) rfl ?_ (by simpa using c) (by simp[ZN,b]);have d:=YZ q ((p ⟨⟨sc,e,k⟩,3,A,X4 E,0⟩).2 (.inr (by simp)));simp only[WM,FV,Jh,if_false,if_true,d,ne_eq,not_true_eq_false,decide_true];rw[t]
def Xe (w:Int):Int:=(4503599627370496:Int).tdiv w
def Zbj {w:Int} (h:1<=w):0<=Xe w/\Xe w<=4503599627370496/\Xe w*w<=4503599627370496/\4503599627370496<(Xe w+1)*w:=by
 unfold Xe;have e:(4503599627370496:Int).tdiv w=(4503599627370496:Int) / w:=Int.tdiv_eq_ediv_of_nonneg (by omega);rw[e];have a:(4503599627370496:Int) / w*w<=4503599627370496:=Int.ediv_mul_le _ (by omega);have b:=Int.lt_ediv_add_one_mul_self 4503599627370496 (show 0<w by omega);have c:0<=(4503599627370496:Int) / w:=Int.ediv_nonneg (by omega) (by omega);have d:(4503599627370496:Int) / w<=4503599627370496:=Int.ediv_le_self _ (by omega);exact⟨c,d,a,b⟩
def SZ (u p f:Int):Int×Int:=
 if ¬(2<=f/\f<=1000)then(0,2)else if p < - Xe f\/Xe f<p then(0,3)
 else if Xp (IntKind.i64.wrap (u+IntKind.i64.wrap (f*p)))=Ht then(IntKind.i64.wrap (u+IntKind.i64.wrap (f*p)),0)else(0,3)
def ZtJ (x:Int×Int):PV:= .tup [.int .i64 x.1,.int .i64 x.2]
def Sj {n:Int} (h: -9223372036854775808<=n/\n<=9223372036854775807):IntKind.i64.wrap n=n:=w64 (by omega)
def ZkL (u p f:Int) (m:Lim u) (hp:Lim p):Pp 199 [.cpx .f64 (WD u) (WD p),.int .i64 f] (ZtJ (SZ u p f)):=by
 have a:=Zat f;have e:=Sn u p m hp;have d:=ZmX (IntKind.i64.wrap (u+IntKind.i64.wrap (f*p)));unfold SZ;by_cases g:2<=f/\f<=1000;have k:(decide (2<=f)&&decide (f<=1000))=true:=by simpa using g
 rw[k]at a;rw[if_neg (λh=>h g)];have n:=Zbj (w:=f) (by omega);have i:IntKind.i64.wrap ((4503599627370496:Int).tdiv f)=Xe f:=Sj (by unfold Xe at n;omega);have j:IntKind.i64.wrap (0-Xe f)= - Xe f:=by rw[Sj (by omega)];omega
 have c:f≠0:=by omega
 by_cases c1:p < - Xe f;rw[if_pos (.inl c1)];refine ZS func199 rfl ntmps199 results199 (rfl) ?_;simp only[go_sem];refine vc1 a ?_;simp only[go_sem];refine vc1 e ?_;simp only[go_sem,i,j,c,c1,ZtJ];by_cases b:Xe f<p;rw[if_pos (.inr b)];refine ZS func199 rfl ntmps199 results199 (rfl) ?_;simp only[go_sem];refine vc1 a ?_;simp only[go_sem];refine vc1 e ?_;simp only[go_sem,i,j,c,c1,b,ZtJ];rw[if_neg (by omega)];cases l:Xp (IntKind.i64.wrap (u+IntKind.i64.wrap (f*p)));rw[l]at d;simp only[JA,if_false];refine ZS func199 rfl ntmps199 results199 (rfl) ?_;simp only[go_sem];refine vc1 a ?_;simp only[go_sem];refine vc1 e ?_;simp only[go_sem,i,j,c,c1,b];refine vc1 d ?_;simp only[go_sem,ZtJ];rw[l]at d;simp only[if_true];refine ZS func199 rfl ntmps199 results199 (rfl) ?_;simp only[go_sem];refine vc1 a ?_;simp only[go_sem];refine vc1 e ?_;simp only[go_sem,i,j,c,c1,b];refine vc1 d ?_;simp only[go_sem,ZtJ];have k:(decide (2<=f)&&decide (f<=1000))=false:=by rw[J4];simpa using g
 rw[k]at a;rw[if_pos g];refine ZS func199 rfl ntmps199 results199 (rfl) ?_;simp only[go_sem];refine vc1 a ?_;simp only[go_sem,ZtJ]
structure OkOp (o:Opn):Prop where
 d:o.drops.length<=1000000
def XR (o:Opn) (a:OkOp o):Pp 177 [opv o] (opv o):=by
 have b:=YP a.d (show 16<=1000 by omega);refine ZS func177 rfl ntmps177 results177 (Do _) ?_;simp only[go_sem,opv,Zaj,Zjj,b]
def V1 (o:Opn) (i f:Int):Int×Bool:=if o.kind≠3 then(0,Hf)else if i=0 then(o.delta,Ht)else if Xp o.delta=Ht then((SZ 0 o.delta f).1,decide ((SZ 0 o.delta f).2=0))else(0,Hf)
def Zrj (x:Int×Bool):PV:= .tup [.int .i64 x.1,.bool x.2]
def ZgX (o:Opn) (i f:Int):Pp 193 [opv o,.int .i64 i,.int .i64 f] (Zrj (V1 o i f)):=by
 unfold V1;by_cases e:o.kind=3;have a:(o.kind !=3)=false:=by simpa using e
 rw[if_neg (λh=>h e)];by_cases d:i=0;have ei:(i==0)=true:=by simpa using d
 rw[if_pos d];refine ZS func193 rfl ntmps193 results193 (rfl) ?_;simp only[go_sem,opv,a,ei,Zrj];have ei:(i==0)=false:=by simpa using d
 rw[if_neg d];have b:=ZhD 0 o.delta;have g:Xp 0=true:=by decide
 cases hd:Xp o.delta;rw[if_neg (by rw[hd];simp)]at b;simp only[JA,if_false];refine ZS func193 rfl ntmps193 results193 (rfl) ?_;simp only[go_sem,opv,a,ei];refine vc1 b ?_;simp only[go_sem,Zrj];rw[if_pos ⟨g,hd⟩]at b;have k:=ZkL 0 o.delta f (Yw.1 g) (Yw.1 hd);simp only[if_true];generalize SZ 0 o.delta f=y at *;obtain⟨n,c⟩:=y;have j:(c==0)=decide (c=0):=by rw[Bool.eq_iff_iff];simp
 refine ZS func193 rfl ntmps193 results193 (rfl) ?_;simp only[go_sem,opv,a,ei];refine vc1 b ?_;simp only[go_sem];refine vc1 k ?_;simp only[go_sem,ZtJ,j,Zrj];have a:(o.kind !=3)=true:=by simpa using e
 rw[if_pos e];refine ZS func193 rfl ntmps193 results193 (rfl) ?_;simp only[go_sem,opv,a,Zrj]
def TI (o:Opn) (a:List Pr):Str×Bool:=if o.kind≠4 then([],Hf)else if o.has=Hf then(o.text,Ht)else Xc a o.text
def ZlV (o:Opn) (a:List Pr) (g:a.length<=maxLen):Pp 194 [opv o,prs a] (ZdL (TI o a)):=by
 have e:=GM a o.text g;unfold TI;obtain⟨id,sch,time,cart,kind,item,f,delta,has,text,drops⟩:=o;simp only at e ⊢;by_cases d:kind=4;have c:(kind !=4)=false:=by simpa using d
 rw[if_neg (λh=>h d)];cases has;refine ZS func194 rfl ntmps194 results194 (rfl) ?_;simp only[go_sem,opv,prs,c,ZdL,if_true];simp only[Ja,if_false];generalize Xc a text=y at *;obtain⟨s,b⟩:=y;refine ZS func194 rfl ntmps194 results194 (rfl) ?_;simp only[go_sem,opv,prs,c];refine vc3 e ?_;simp only[go_sem,ZdL];have c:(kind !=4)=true:=by simpa using d
 rw[if_pos d];refine ZS func194 rfl ntmps194 results194 (rfl) ?_;simp only[go_sem,opv,prs,c,ZdL]
def Zr (o:Opn) (r:Rf):Opn:=⟨o.id,o.sch,o.time,o.cart,o.kind,o.item,r,o.delta,o.has,o.text,o.drops⟩
def Z5 (o:Opn) (d:Int):Opn:=⟨o.id,o.sch,o.time,o.cart,o.kind,o.item,o.at',d,o.has,o.text,o.drops⟩
def YW (o:Opn) (s:Str):Opn:=⟨o.id,o.sch,o.time,o.cart,o.kind,o.item,o.at',o.delta,o.has,s,o.drops⟩
def vcn {x:Bool} {M:KH} {g:FuncId} {args args':List PV} {K:KR} {r:PV} (b:Pp g args' r) (c:K.k r M.m) (a:JX M.m args:=by first|(simp only[go_sem,ref,ent,ZX,doc,Y5,row,Zt,fld,lns,tg,refs,prs,pr,eg,egs,tgs,lg,lgs,Zy,opv,tr,Zr,Z5,YW];done)|exact rfl) (d:Ka M.m args=args':=by first|(simp only[go_sem,ref,ent,ZX,doc,Y5,row,Zt,fld,lns,tg,refs,prs,pr,eg,egs,tgs,lg,lgs,Zy,opv,tr,Zr,Z5,YW];done)|exact rfl):@V8 prog x M (Hs (g,args)) K:=YN b a d c
def Zj (x:Ln) (o:Opn):Opn×Bool:=
 if x.kind=1\/x.kind=4\/x.kind=5 then(o,Ht)
 else if x.kind=6 then(o,decide (o.kind=3))
 else if x.kind=9 then(Z5 o (V1 o (Yn (ZN x) o.at') x.fac).1,(V1 o (Yn (ZN x) o.at') x.fac).2)
 else if x.kind=7\/x.kind=10 then(o,decide (o.kind=4))
 else if x.kind=8 then(YW o (TI o x.fo).1,(TI o x.fo).2)
 else(o,Hf)
def Va (x:Ln) (o:Opn):Opn×Bool:=
 if Zx x=Hf then(Jd,Hf)else if o.kind≠3/\o.kind≠4 then(o,Ht)else if Yn (ZN x) o.at'<0 then(o,Ht)
 else if(Zj x o).2=Hf then(Jd,Hf)else(Zr (Zj x o).1 ((Zi x).getD 0 Jd),Ht)
def ZmF (x:Ln) (o:Opn) (F:OkLn x) (C:OkOp o):Pp 178 [lns x,opv o] (opb (Va x o)):=by
 have n:=WI x F;have G:=XR o C;unfold Va;cases B:Zx x;rw[B]at n;refine ZS func178 rfl ntmps178 results178 (ZE _) ?_;simp only[go_sem,lns,opv];refine vc3 n ?_;simp only[go_sem,if_true,opb,ZV];have J:=(Yz B).1;rw[B]at n;simp only[Ja,if_false];by_cases hp:o.kind≠3/\o.kind≠4;rw[if_pos hp];have g:(o.kind !=3)=true:=by simpa using hp.1
 have q:(o.kind !=4)=true:=by simpa using hp.2
 refine ZS func178 rfl ntmps178 results178 (ZE _) ?_;simp only[go_sem,lns,opv];refine vc3 n ?_;simp only[go_sem,g,q,opv];refine vc6 G ?_;simp only[go_sem,opb,opv];rw[if_neg hp];have r:=Zau x F;have v:=ZcA x F;have L:Zf9 x=ZN x:=by simp[Zf9,B]
 have K:ZcT x=Zi x:=by simp[ZcT,B]
 rw[L]at r;rw[K]at v;have t:Pp 192 [refs (ZN x),ref o.at'] (.int .i64 (Yn (ZN x) o.at')):=Zhz (ZN x) o.at' (by have:=ZnP x;rw[Zd];omega);have A:((o.kind !=3)=Ht/\(o.kind !=4)=Hf)\/(o.kind !=3)=false:=by
  by_cases I:o.kind=3;right;simpa using I;left;refine⟨by simpa using I,?_⟩;simp only[bne_eq_false_iff_eq];exact Kc λh=>hp ⟨I,h⟩
 by_cases p:Yn (ZN x) o.at'<0;rw[if_pos p];rcases A with ⟨g,q⟩|g;refine ZS func178 rfl ntmps178 results178 (ZE _) ?_;simp only[go_sem,lns,opv];refine vc3 n ?_;simp only[go_sem,g,q,lns];refine vDq ?_;simp only[go_sem,lns,opv];refine vc3 r ?_;simp only[go_sem,refs];refine vc3 t ?_;simp only[go_sem,p,opv];refine vc6 G ?_;simp only[go_sem,opb,opv];refine ZS func178 rfl ntmps178 results178 (ZE _) ?_;simp only[go_sem,lns,opv];refine vc3 n ?_;simp only[go_sem,g,lns];refine vDq ?_;simp only[go_sem,lns,opv];refine vc3 r ?_;simp only[go_sem,refs];refine vc3 t ?_;simp only[go_sem,p,opv];refine vc6 G ?_;simp only[go_sem,opb,opv];rw[if_neg p];have D:=ZgX o (Yn (ZN x) o.at') x.fac;have E:=ZlV o x.fo (by have:=F.f;rw[Zd];omega);obtain⟨kind,c,nm,j,a,i,e,f⟩:=x;simp only at J D E;rcases J with rfl|rfl|rfl|rfl|rfl|rfl|rfl|rfl|rfl|rfl;have z:(Zi ⟨1,c,nm,j,a,i,e,f⟩).length≠0:=by unfold Zi;simp
 have s:0<(Zi ⟨1,c,nm,j,a,i,e,f⟩).length:=by omega
 have l:(0:Int)<((Zi ⟨1,c,nm,j,a,i,e,f⟩).length:Int):=by omega
 have m:(((Zi ⟨1,c,nm,j,a,i,e,f⟩).map ref).getD 0 .any)=ref ((Zi ⟨1,c,nm,j,a,i,e,f⟩).getD 0 Jd):=XV s;generalize Zi ⟨1,c,nm,j,a,i,e,f⟩=comes at *;have w:Zj ⟨1,c,nm,j,a,i,e,f⟩ o=(o,Ht):=by simp[Zj]
 rw[w];simp only[Ja,if_false];have k:=XR (Zr o (comes.getD 0 Jd)) ⟨C.d⟩;rcases A with ⟨g,q⟩|g;refine ZS func178 rfl ntmps178 results178 (ZE _) ?_;simp only[go_sem,lns,opv];refine vc3 n ?_;simp only[go_sem,g,q,lns];refine vDq ?_;simp only[go_sem,lns,opv];refine vc3 r ?_;simp only[go_sem,refs];refine vc3 t ?_;simp only[go_sem,p,opv,lns];refine vc3 v ?_;simp only[go_sem,refs,l,m,ref,opv,Zr,Z5,YW];refine vcn k ?_;simp only[go_sem,opb,opv,Zr,Z5,YW];refine ZS func178 rfl ntmps178 results178 (ZE _) ?_;simp only[go_sem,lns,opv];refine vc3 n ?_;simp only[go_sem,g,lns];refine vDq ?_;simp only[go_sem,lns,opv];refine vc3 r ?_;simp only[go_sem,refs];refine vc3 t ?_;simp only[go_sem,p,opv,lns];refine vc3 v ?_;simp only[go_sem,refs,l,m,ref,opv,Zr,Z5,YW];refine vcn k ?_;simp only[go_sem,opb,opv,Zr,Z5,YW];exfalso;have:ZN ⟨2,c,nm,j,a,i,e,f⟩= []:=by simp[ZN]
 rw[this]at p;exact p (by show(-1:Int)<0;omega);have w:Zj ⟨3,c,nm,j,a,i,e,f⟩ o=(o,Hf):=by simp[Zj]
 rw[w];simp only[if_true];rcases A with ⟨g,q⟩|g
 ·refine ZS func178 rfl ntmps178 results178 (ZE _) ?_;simp only[go_sem,lns,opv];refine vc3 n ?_;simp only[go_sem,g,q,lns];refine vDq ?_;simp only[go_sem,lns,opv];refine vc3 r ?_;simp only[go_sem,refs];refine vc3 t ?_;simp only[go_sem,p,opv,lns]
  (try simp only[go_sem,opb,ZV])
 ·refine ZS func178 rfl ntmps178 results178 (ZE _) ?_;simp only[go_sem,lns,opv];refine vc3 n ?_;simp only[go_sem,g,lns];refine vDq ?_;simp only[go_sem,lns,opv];refine vc3 r ?_;simp only[go_sem,refs];refine vc3 t ?_;simp only[go_sem,p,opv,lns]
  (try simp only[go_sem,opb,ZV])
 have z:(Zi ⟨4,c,nm,j,a,i,e,f⟩).length≠0:=by unfold Zi;simp
 have s:0<(Zi ⟨4,c,nm,j,a,i,e,f⟩).length:=by omega
 have l:(0:Int)<((Zi ⟨4,c,nm,j,a,i,e,f⟩).length:Int):=by omega
 have m:(((Zi ⟨4,c,nm,j,a,i,e,f⟩).map ref).getD 0 .any)=ref ((Zi ⟨4,c,nm,j,a,i,e,f⟩).getD 0 Jd):=XV s;generalize Zi ⟨4,c,nm,j,a,i,e,f⟩=comes at *;have w:Zj ⟨4,c,nm,j,a,i,e,f⟩ o=(o,Ht):=by simp[Zj]
 rw[w];simp only[Ja,if_false];have k:=XR (Zr o (comes.getD 0 Jd)) ⟨C.d⟩;rcases A with ⟨g,q⟩|g;refine ZS func178 rfl ntmps178 results178 (ZE _) ?_;simp only[go_sem,lns,opv];refine vc3 n ?_;simp only[go_sem,g,q,lns];refine vDq ?_;simp only[go_sem,lns,opv];refine vc3 r ?_;simp only[go_sem,refs];refine vc3 t ?_;simp only[go_sem,p,opv,lns];refine vc3 v ?_;simp only[go_sem,refs,l,m,ref,opv,Zr,Z5,YW];refine vcn k ?_;simp only[go_sem,opb,opv,Zr,Z5,YW];refine ZS func178 rfl ntmps178 results178 (ZE _) ?_;simp only[go_sem,lns,opv];refine vc3 n ?_;simp only[go_sem,g,lns];refine vDq ?_;simp only[go_sem,lns,opv];refine vc3 r ?_;simp only[go_sem,refs];refine vc3 t ?_;simp only[go_sem,p,opv,lns];refine vc3 v ?_;simp only[go_sem,refs,l,m,ref,opv,Zr,Z5,YW];refine vcn k ?_;simp only[go_sem,opb,opv,Zr,Z5,YW];have z:(Zi ⟨5,c,nm,j,a,i,e,f⟩).length≠0:=by unfold Zi;simp
 have s:0<(Zi ⟨5,c,nm,j,a,i,e,f⟩).length:=by omega
 have l:(0:Int)<((Zi ⟨5,c,nm,j,a,i,e,f⟩).length:Int):=by omega
 have m:(((Zi ⟨5,c,nm,j,a,i,e,f⟩).map ref).getD 0 .any)=ref ((Zi ⟨5,c,nm,j,a,i,e,f⟩).getD 0 Jd):=XV s;generalize Zi ⟨5,c,nm,j,a,i,e,f⟩=comes at *;have w:Zj ⟨5,c,nm,j,a,i,e,f⟩ o=(o,Ht):=by simp[Zj]
 rw[w];simp only[Ja,if_false];have k:=XR (Zr o (comes.getD 0 Jd)) ⟨C.d⟩;rcases A with ⟨g,q⟩|g;refine ZS func178 rfl ntmps178 results178 (ZE _) ?_;simp only[go_sem,lns,opv];refine vc3 n ?_;simp only[go_sem,g,q,lns];refine vDq ?_;simp only[go_sem,lns,opv];refine vc3 r ?_;simp only[go_sem,refs];refine vc3 t ?_;simp only[go_sem,p,opv,lns];refine vc3 v ?_;simp only[go_sem,refs,l,m,ref,opv,Zr,Z5,YW];refine vcn k ?_;simp only[go_sem,opb,opv,Zr,Z5,YW];refine ZS func178 rfl ntmps178 results178 (ZE _) ?_;simp only[go_sem,lns,opv];refine vc3 n ?_;simp only[go_sem,g,lns];refine vDq ?_;simp only[go_sem,lns,opv];refine vc3 r ?_;simp only[go_sem,refs];refine vc3 t ?_;simp only[go_sem,p,opv,lns];refine vc3 v ?_;simp only[go_sem,refs,l,m,ref,opv,Zr,Z5,YW];refine vcn k ?_;simp only[go_sem,opb,opv,Zr,Z5,YW];have z:(Zi ⟨6,c,nm,j,a,i,e,f⟩).length≠0:=by unfold Zi;simp
 have s:0<(Zi ⟨6,c,nm,j,a,i,e,f⟩).length:=by omega
 have l:(0:Int)<((Zi ⟨6,c,nm,j,a,i,e,f⟩).length:Int):=by omega
 have m:(((Zi ⟨6,c,nm,j,a,i,e,f⟩).map ref).getD 0 .any)=ref ((Zi ⟨6,c,nm,j,a,i,e,f⟩).getD 0 Jd):=XV s;generalize Zi ⟨6,c,nm,j,a,i,e,f⟩=comes at *;have w:Zj ⟨6,c,nm,j,a,i,e,f⟩ o=(o,decide (o.kind=3)):=by simp[Zj]
 rw[w];by_cases kk:o.kind=3;have u:(o.kind==3)=true:=by simpa using kk
 simp only[kk,decide_true,Ja,if_false];have k:=XR (Zr o (comes.getD 0 Jd)) ⟨C.d⟩;rcases A with ⟨g,q⟩|g;refine ZS func178 rfl ntmps178 results178 (ZE _) ?_;simp only[go_sem,lns,opv];refine vc3 n ?_;simp only[go_sem,g,q,lns];refine vDq ?_;simp only[go_sem,lns,opv];refine vc3 r ?_;simp only[go_sem,refs];refine vc3 t ?_;simp only[go_sem,p,opv,lns,u];refine vc3 v ?_;simp only[go_sem,refs,l,m,ref,opv,Zr,Z5,YW];refine vcn k ?_;simp only[go_sem,opb,opv,kk,Zr,Z5,YW];refine ZS func178 rfl ntmps178 results178 (ZE _) ?_;simp only[go_sem,lns,opv];refine vc3 n ?_;simp only[go_sem,g,lns];refine vDq ?_;simp only[go_sem,lns,opv];refine vc3 r ?_;simp only[go_sem,refs];refine vc3 t ?_;simp only[go_sem,p,opv,lns,u];refine vc3 v ?_;simp only[go_sem,refs,l,m,ref,opv,Zr,Z5,YW];refine vcn k ?_;simp only[go_sem,opb,opv,kk,Zr,Z5,YW];have u:(o.kind==3)=false:=by simpa using kk
 simp only[kk,decide_false,if_true];rcases A with ⟨g,q⟩|g
 ·refine ZS func178 rfl ntmps178 results178 (ZE _) ?_;simp only[go_sem,lns,opv];refine vc3 n ?_;simp only[go_sem,g,q,lns];refine vDq ?_;simp only[go_sem,lns,opv];refine vc3 r ?_;simp only[go_sem,refs];refine vc3 t ?_;simp only[go_sem,p,opv,lns,u]
  (try simp only[go_sem,opb,ZV])
 ·refine ZS func178 rfl ntmps178 results178 (ZE _) ?_;simp only[go_sem,lns,opv];refine vc3 n ?_;simp only[go_sem,g,lns];refine vDq ?_;simp only[go_sem,lns,opv];refine vc3 r ?_;simp only[go_sem,refs];refine vc3 t ?_;simp only[go_sem,p,opv,lns,u]
  (try simp only[go_sem,opb,ZV])
 have z:(Zi ⟨7,c,nm,j,a,i,e,f⟩).length≠0:=by unfold Zi;simp
 have s:0<(Zi ⟨7,c,nm,j,a,i,e,f⟩).length:=by omega
 have l:(0:Int)<((Zi ⟨7,c,nm,j,a,i,e,f⟩).length:Int):=by omega
 have m:(((Zi ⟨7,c,nm,j,a,i,e,f⟩).map ref).getD 0 .any)=ref ((Zi ⟨7,c,nm,j,a,i,e,f⟩).getD 0 Jd):=XV s;generalize Zi ⟨7,c,nm,j,a,i,e,f⟩=comes at *;have w:Zj ⟨7,c,nm,j,a,i,e,f⟩ o=(o,decide (o.kind=4)):=by simp[Zj]
 rw[w];by_cases kk:o.kind=4;have u:(o.kind==4)=true:=by simpa using kk
 simp only[kk,decide_true,Ja,if_false];have k:=XR (Zr o (comes.getD 0 Jd)) ⟨C.d⟩;rcases A with ⟨g,q⟩|g;refine ZS func178 rfl ntmps178 results178 (ZE _) ?_;simp only[go_sem,lns,opv];refine vc3 n ?_;simp only[go_sem,g,q,lns];refine vDq ?_;simp only[go_sem,lns,opv];refine vc3 r ?_;simp only[go_sem,refs];refine vc3 t ?_;simp only[go_sem,p,opv,lns,u];refine vc3 v ?_;simp only[go_sem,refs,l,m,ref,opv,Zr,Z5,YW];refine vcn k ?_;simp only[go_sem,opb,opv,kk,Zr,Z5,YW];refine ZS func178 rfl ntmps178 results178 (ZE _) ?_;simp only[go_sem,lns,opv];refine vc3 n ?_;simp only[go_sem,g,lns];refine vDq ?_;simp only[go_sem,lns,opv];refine vc3 r ?_;simp only[go_sem,refs];refine vc3 t ?_;simp only[go_sem,p,opv,lns,u];refine vc3 v ?_;simp only[go_sem,refs,l,m,ref,opv,Zr,Z5,YW];refine vcn k ?_;simp only[go_sem,opb,opv,kk,Zr,Z5,YW];have u:(o.kind==4)=false:=by simpa using kk
 simp only[kk,decide_false,if_true];rcases A with ⟨g,q⟩|g
 ·refine ZS func178 rfl ntmps178 results178 (ZE _) ?_;simp only[go_sem,lns,opv];refine vc3 n ?_;simp only[go_sem,g,q,lns];refine vDq ?_;simp only[go_sem,lns,opv];refine vc3 r ?_;simp only[go_sem,refs];refine vc3 t ?_;simp only[go_sem,p,opv,lns,u]
  (try simp only[go_sem,opb,ZV])
 ·refine ZS func178 rfl ntmps178 results178 (ZE _) ?_;simp only[go_sem,lns,opv];refine vc3 n ?_;simp only[go_sem,g,lns];refine vDq ?_;simp only[go_sem,lns,opv];refine vc3 r ?_;simp only[go_sem,refs];refine vc3 t ?_;simp only[go_sem,p,opv,lns,u]
  (try simp only[go_sem,opb,ZV])
 have z:(Zi ⟨8,c,nm,j,a,i,e,f⟩).length≠0:=by unfold Zi;simp
 have s:0<(Zi ⟨8,c,nm,j,a,i,e,f⟩).length:=by omega
 have l:(0:Int)<((Zi ⟨8,c,nm,j,a,i,e,f⟩).length:Int):=by omega
 have m:(((Zi ⟨8,c,nm,j,a,i,e,f⟩).map ref).getD 0 .any)=ref ((Zi ⟨8,c,nm,j,a,i,e,f⟩).getD 0 Jd):=XV s;generalize Zi ⟨8,c,nm,j,a,i,e,f⟩=comes at *;have w:Zj ⟨8,c,nm,j,a,i,e,f⟩ o=(YW o (TI o e).1,(TI o e).2):=by simp[Zj]
 rw[w];generalize TI o e=y at *;obtain⟨d,b⟩:=y;cases b;simp only[if_true];rcases A with ⟨g,q⟩|g;refine ZS func178 rfl ntmps178 results178 (ZE _) ?_;simp only[go_sem,lns,opv];refine vc3 n ?_;simp only[go_sem,g,q,lns];refine vDq ?_;simp only[go_sem,lns,opv];refine vc3 r ?_;simp only[go_sem,refs];refine vc3 t ?_;simp only[go_sem,p,opv,lns];refine vc6 E ?_;simp only[go_sem,ZdL,opb,ZV];refine ZS func178 rfl ntmps178 results178 (ZE _) ?_;simp only[go_sem,lns,opv];refine vc3 n ?_;simp only[go_sem,g,lns];refine vDq ?_;simp only[go_sem,lns,opv];refine vc3 r ?_;simp only[go_sem,refs];refine vc3 t ?_;simp only[go_sem,p,opv,lns];refine vc6 E ?_;simp only[go_sem,ZdL,opb,ZV];simp only[Ja,if_false];have k:=XR (Zr (YW o d) (comes.getD 0 Jd)) ⟨C.d⟩;rcases A with ⟨g,q⟩|g;refine ZS func178 rfl ntmps178 results178 (ZE _) ?_;simp only[go_sem,lns,opv];refine vc3 n ?_;simp only[go_sem,g,q,lns];refine vDq ?_;simp only[go_sem,lns,opv];refine vc3 r ?_;simp only[go_sem,refs];refine vc3 t ?_;simp only[go_sem,p,opv,lns];refine vc6 E ?_;simp only[go_sem,ZdL,lns];refine vc3 v ?_;simp only[go_sem,refs,l,m,ref,opv,Zr,Z5,YW];refine vcn k ?_;simp only[go_sem,opb,opv,Zr,Z5,YW];refine ZS func178 rfl ntmps178 results178 (ZE _) ?_;simp only[go_sem,lns,opv];refine vc3 n ?_;simp only[go_sem,g,lns];refine vDq ?_;simp only[go_sem,lns,opv];refine vc3 r ?_;simp only[go_sem,refs];refine vc3 t ?_;simp only[go_sem,p,opv,lns];refine vc6 E ?_;simp only[go_sem,ZdL,lns];refine vc3 v ?_;simp only[go_sem,refs,l,m,ref,opv,Zr,Z5,YW];refine vcn k ?_;simp only[go_sem,opb,opv,Zr,Z5,YW];have z:(Zi ⟨9,c,nm,j,a,i,e,f⟩).length≠0:=by unfold Zi;simp
 have s:0<(Zi ⟨9,c,nm,j,a,i,e,f⟩).length:=by omega
 have l:(0:Int)<((Zi ⟨9,c,nm,j,a,i,e,f⟩).length:Int):=by omega
 have m:(((Zi ⟨9,c,nm,j,a,i,e,f⟩).map ref).getD 0 .any)=ref ((Zi ⟨9,c,nm,j,a,i,e,f⟩).getD 0 Jd):=XV s;generalize Zi ⟨9,c,nm,j,a,i,e,f⟩=comes at *;have w:Zj ⟨9,c,nm,j,a,i,e,f⟩ o=(Z5 o (V1 o (Yn (ZN ⟨9,c,nm,j,a,i,e,f⟩) o.at') a).1,(V1 o (Yn (ZN ⟨9,c,nm,j,a,i,e,f⟩) o.at') a).2):=by simp[Zj]
 rw[w];generalize V1 o (Yn (ZN ⟨9,c,nm,j,a,i,e,f⟩) o.at') a=y at *;obtain⟨d,b⟩:=y;cases b;simp only[if_true];rcases A with ⟨g,q⟩|g;refine ZS func178 rfl ntmps178 results178 (ZE _) ?_;simp only[go_sem,lns,opv];refine vc3 n ?_;simp only[go_sem,g,q,lns];refine vDq ?_;simp only[go_sem,lns,opv];refine vc3 r ?_;simp only[go_sem,refs];refine vc3 t ?_;simp only[go_sem,p,opv,lns];refine vc6 D ?_;simp only[go_sem,Zrj,opb,ZV];refine ZS func178 rfl ntmps178 results178 (ZE _) ?_;simp only[go_sem,lns,opv];refine vc3 n ?_;simp only[go_sem,g,lns];refine vDq ?_;simp only[go_sem,lns,opv];refine vc3 r ?_;simp only[go_sem,refs];refine vc3 t ?_;simp only[go_sem,p,opv,lns];refine vc6 D ?_;simp only[go_sem,Zrj,opb,ZV];simp only[Ja,if_false];have k:=XR (Zr (Z5 o d) (comes.getD 0 Jd)) ⟨C.d⟩;rcases A with ⟨g,q⟩|g;refine ZS func178 rfl ntmps178 results178 (ZE _) ?_;simp only[go_sem,lns,opv];refine vc3 n ?_;simp only[go_sem,g,q,lns];refine vDq ?_;simp only[go_sem,lns,opv];refine vc3 r ?_;simp only[go_sem,refs];refine vc3 t ?_;simp only[go_sem,p,opv,lns];refine vc6 D ?_;simp only[go_sem,Zrj,lns];refine vc3 v ?_;simp only[go_sem,refs,l,m,ref,opv,Zr,Z5,YW];refine vcn k ?_;simp only[go_sem,opb,opv,Zr,Z5,YW];refine ZS func178 rfl ntmps178 results178 (ZE _) ?_;simp only[go_sem,lns,opv];refine vc3 n ?_;simp only[go_sem,g,lns];refine vDq ?_;simp only[go_sem,lns,opv];refine vc3 r ?_;simp only[go_sem,refs];refine vc3 t ?_;simp only[go_sem,p,opv,lns];refine vc6 D ?_;simp only[go_sem,Zrj,lns];refine vc3 v ?_;simp only[go_sem,refs,l,m,ref,opv,Zr,Z5,YW];refine vcn k ?_;simp only[go_sem,opb,opv,Zr,Z5,YW];have z:(Zi ⟨10,c,nm,j,a,i,e,f⟩).length≠0:=by unfold Zi;simp
 have s:0<(Zi ⟨10,c,nm,j,a,i,e,f⟩).length:=by omega
 have l:(0:Int)<((Zi ⟨10,c,nm,j,a,i,e,f⟩).length:Int):=by omega
 have m:(((Zi ⟨10,c,nm,j,a,i,e,f⟩).map ref).getD 0 .any)=ref ((Zi ⟨10,c,nm,j,a,i,e,f⟩).getD 0 Jd):=XV s;generalize Zi ⟨10,c,nm,j,a,i,e,f⟩=comes at *;have w:Zj ⟨10,c,nm,j,a,i,e,f⟩ o=(o,decide (o.kind=4)):=by simp[Zj]
 rw[w];by_cases kk:o.kind=4;have u:(o.kind==4)=true:=by simpa using kk
 simp only[kk,decide_true,Ja,if_false];have k:=XR (Zr o (comes.getD 0 Jd)) ⟨C.d⟩;rcases A with ⟨g,q⟩|g;refine ZS func178 rfl ntmps178 results178 (ZE _) ?_;simp only[go_sem,lns,opv];refine vc3 n ?_;simp only[go_sem,g,q,lns];refine vDq ?_;simp only[go_sem,lns,opv];refine vc3 r ?_;simp only[go_sem,refs];refine vc3 t ?_;simp only[go_sem,p,opv,lns,u];refine vc3 v ?_;simp only[go_sem,refs,l,m,ref,opv,Zr,Z5,YW];refine vcn k ?_;simp only[go_sem,opb,opv,kk,Zr,Z5,YW];refine ZS func178 rfl ntmps178 results178 (ZE _) ?_;simp only[go_sem,lns,opv];refine vc3 n ?_;simp only[go_sem,g,lns];refine vDq ?_;simp only[go_sem,lns,opv];refine vc3 r ?_;simp only[go_sem,refs];refine vc3 t ?_;simp only[go_sem,p,opv,lns,u];refine vc3 v ?_;simp only[go_sem,refs,l,m,ref,opv,Zr,Z5,YW];refine vcn k ?_;simp only[go_sem,opb,opv,kk,Zr,Z5,YW];have u:(o.kind==4)=false:=by simpa using kk
 simp only[kk,decide_false,if_true];rcases A with ⟨g,q⟩|g
 ·refine ZS func178 rfl ntmps178 results178 (ZE _) ?_;simp only[go_sem,lns,opv];refine vc3 n ?_;simp only[go_sem,g,q,lns];refine vDq ?_;simp only[go_sem,lns,opv];refine vc3 r ?_;simp only[go_sem,refs];refine vc3 t ?_;simp only[go_sem,p,opv,lns,u]
  (try simp only[go_sem,opb,ZV])
 refine ZS func178 rfl ntmps178 results178 (ZE _) ?_;simp only[go_sem,lns,opv];refine vc3 n ?_;simp only[go_sem,g,lns];refine vDq ?_;simp only[go_sem,lns,opv];refine vc3 r ?_;simp only[go_sem,refs];refine vc3 t ?_;simp only[go_sem,p,opv,lns,u]
 (try simp only[go_sem,opb,ZV])
structure ChT where
 l:List Fd
 n:Nat
 c:Int
def Znf:List Fd->List Ln->Nat->ChT
 |fs,[],i=>⟨fs,i,0⟩
 |fs,x::xs,i=>if(ZW fs x).2≠0 then⟨[],i,(ZW fs x).2⟩else Znf (ZW fs x).1 xs (i+1)
structure ChS (l:List Fd) (row:List Ln) where
 k:Nat
 fs:List Fd
 hk:k<=row.length
 ok:OkFs fs
 h:Znf fs (row.drop k) k=Znf l row 0
def ZtA {row:List Ln} {k:Nat} (a:k<row.length):row.drop k=row.getD k Jd::row.drop (k+1):=by
 rw[getD_lt a,List.drop_eq_getElem_cons a]
def Gr:List Ln->List Fd->Option (List Fd)
 | [],fs=>Hs fs
 |x::xs,fs=>if(ZW fs x).2≠0 then none else Gr xs (ZW fs x).1
theorem Fx (w v:List Ln) (fs:List Fd):Gr (w++v) fs=(Gr w fs).bind (Gr v):=by
 induction w generalizing fs with
 |nil=>rfl
 |cons e w ih=>
  simp only[J5,Gr];split;rfl;exact ih _
theorem Zlj (w:List Eg) (fs:List Fd):Gr (w.map (·.ln)) fs=WE w fs:=by
 induction w generalizing fs with
 |nil=>rfl
 |cons e w ih=>
  simp only[Jk,Gr,WE];split;rfl;exact ih _
def Zc6 {e:Eg} {w:List Eg} {fs gs:List Fd} (h:WE (e::w) fs=Hs gs):∃a,ZW fs e.ln=(a,0)/\WE w a=Hs gs:=by
 simp only[WE]at h;split at h;cases h;rename_i b;exact⟨(ZW fs e.ln).1,Prod.ext rfl (Ki.1 b),h⟩
theorem ZjE:∀(w:List Eg) {fs gs:List Fd},(∀e∈w,e.ln.kind<=8)->WE w fs=Hs gs->Gr (w.reverse.map λe=>FV e.ln) gs=Hs fs
 | [],fs,gs,_,h=>by cases h;rfl
 |e::w,fs,gs,hk,h=>by
  obtain⟨a,b,d⟩:=Zc6 h;have g:=ZjE w (λx f=>hk x (by simp[f])) d;have c:=Zft (hk e (by simp)) b;rw[List.reverse_cons,JF,Fx,g];show Gr [FV e.ln] a=Hs fs;simp[Gr,c]
theorem Za3:∀(w:List Eg) {fs gs:List Fd},(∀e∈w,e.ln.kind<=8)->ZP fs=Ht->WE w fs=Hs gs->ZP gs=Ht
 | [],fs,gs,_,hr,h=>by cases h;exact hr
 |e::w,fs,gs,hk,hr,h=>by
  obtain⟨d,a,b⟩:=Zc6 h;exact Za3 w (λx c=>hk x (by simp[c])) (Xb (Zft (hk e (by simp)) a)).1 b
def ZlU:ZP ZbG=true:=by decide
theorem Za4 {w:List Eg} {fs gs:List Fd} (c:Nat) (h:WE w fs=Hs gs):∃a,WE (w.take c) fs=Hs a/\WE (w.drop c) a=Hs gs:=by
 rw[<-List.take_append_drop c w,Fw]at h;cases b:WE (w.take c) fs with
 |none=>rw[b]at h;cases h
 |some a=>rw[b]at h;exact⟨a,rfl,h⟩
def Zlx {m:List Eg} (b:Apart m) {p q:List Eg} (hp:∀e∈p,e∈m) (c:∀e∈q,e∈m):G9 m (Zck p q)=((p.drop (lcp p q)).reverse.map λe=>FV e.ln)++(q.drop (lcp p q)).map (·.ln):=by
 unfold G9 Zck;rw[JF,JI,JI];congr 1;apply JY;intro e a;have:=b.find (hp e (Jv (J6.1 a)));simp[Zey,upg,this];apply JY;intro e a;have:=b.find (c e (Jv a));simp[Zey,dn,this]
def ZfK {e:Eg} (h:Gl e=Ht):e.ln.kind<=8:=by
 simp only[Gl,Jg,decide_eq_true_eq]at h;exact h.2.2.2.1
def Zpp:List Ln->Rf->Rf×Bool
 | [],r=>(r,Ht)
 |x::xs,r=>if(Zkn x r).2=Hf then(Jd,Hf)else Zpp xs (Zkn x r).1
def Zod:List Ln->Rf->Bool
 | [],r=>Ht
 |x::xs,r=>if Zym x r=Hf then Hf else if(Zkn x r).2=Hf then Hf else Zod xs (Zkn x r).1
structure TrS (row:List Ln) (f:List Ln->Rf->Rf×Bool) (r0:Rf) where
 k:Nat
 r:Rf
 hk:k<=row.length
 h:f (row.drop k) r=f row r0
structure KpS (row:List Ln) (r0:Rf) where
 k:Nat
 r:Rf
 hk:k<=row.length
 h:Zod (row.drop k) r=Zod row r0
def Zv0 {m:List Eg} {a b:Tg} (d:OkM m):(Zdy m a b).1.length<=1000/\ ∀x∈(Zdy m a b).1,OkLn x:=by
 unfold Zdy;split;simp;rename_i h;have c:=ZjT m a b d;unfold ZlM at c;rw[if_neg h]at c;refine⟨by simp only at c;simp[G9];omega,λx e=> ?_⟩;obtain⟨y,_,rfl⟩:=Jc.1 e;exact ZvP d y
def Su {l cs:List Fd} {x:Ln} (a:x.kind=1\/x.kind=2\/x.kind=3\/x.kind=4\/x.kind=5\/x.kind=6\/x.kind=7\/x.kind=8\/x.kind=9\/x.kind=10) (h:WM l x=(cs,Ht)):cs.map (·.at')=Zi x:=by
 obtain⟨kind,b,nm,g,c,e,f,d⟩:=x;simp only at a;rcases a with rfl|rfl|rfl|rfl|rfl|rfl|rfl|rfl|rfl|rfl
 all_goals
  simp only[WM,Uu,Zi,Jh,if_false,if_true,Jm]at h ⊢
  (repeat' split at h)
  all_goals
   simp only[JH.injEq,JA,and_false,reduceCtorEq]at h;try(rw[<-h.1];rfl)
structure Pair (l m:List Fd) (x y:Ln):Prop where
 a:ZW l x=(m,0)
 b:ZW m y=(l,0)
 g:ZN y=Zi x
 c:Zi y=ZN x
def Pair.back {l m:List Fd} {x y:Ln} (h:Pair l m x y):Pair m l y x:=⟨h.b,h.a,h.c.symm,h.g.symm⟩
def On (l:List Fd) (r:Rf):Prop:=∃f∈l,f.at'=r
def Pair.right {l m:List Fd} {x y:Ln} (h:Pair l m x y):Zx x=true:=(Xb h.a).2.1
inductive Pairs:List Fd->List Fd->List Ln->List Ln->Prop
 |nil (l:List Fd):Pairs l l [] []
 |cons {l m n:List Fd} {x y:Ln} {xs ys:List Ln} (h:Pair l m x y) (hs:Pairs m n xs ys):Pairs l n (x::xs) (ys++ [y])
theorem Pairs.append {l m n:List Fd} {xs ys us vs:List Ln} (b:Pairs l m xs ys) (a:Pairs m n us vs):Pairs l n (xs++us) (vs++ys):=by
 induction b with
 |nil=>simpa using a
 |cons h hs ih=>rw[<-List.append_assoc];exact .cons h (ih a)
theorem Pairs.back {l m:List Fd} {xs ys:List Ln} (h:Pairs l m xs ys):Pairs m l ys xs:=by
 induction h with
 |nil=>exact .nil _
 |cons h hs ih=>exact ih.append (.cons h.back (.nil _))
open Go.PL.Srt
def Ya (a b:Opn):Bool:=if a.time=b.time then Uk a.id b.id else decide (a.time<b.time)
def Sl (a b:Opn):Pp 63 [opv a,opv b] (.bool (Ya a b)):=by
 have c:=ZcK a.id b.id;unfold Ya;by_cases h:a.time=b.time;have e:(a.time !=b.time)=false:=by simpa using h
 rw[if_pos h];refine ZM func63 rfl ntmps63 results63 ?_;simp only[go_sem,opv,e];refine vc3 c ?_;simp only[go_sem];have e:(a.time !=b.time)=true:=by simpa using h
 rw[if_neg h];refine ZM func63 rfl ntmps63 results63 ?_;simp only[go_sem,opv,e]
def ZgB (a b:Opn):Int:=if Ya a b=Ht then-1 else if Ya b a=Ht then 1 else 0
def ZhC (a b:Opn):Pp 55 [opv a,opv b] (.int .i64 (ZgB a b)):=by
 have c:=Sl a b;have e:=Sl b a;unfold ZgB;cases d:Ya a b
 ·cases f:Ya b a;all_goals
   rw[d]at c;rw[f]at e;refine ZM func55 rfl ntmps55 results55 ?_;simp only[go_sem,opv];refine vc6 c ?_;simp only[go_sem];refine vc6 e ?_;simp only[go_sem]
 rw[d]at c;refine ZM func55 rfl ntmps55 results55 ?_;simp only[go_sem,opv];refine vc6 c ?_;simp only[go_sem]
def U1 (a b:Tg):Uk a b=Ht↔a.r<b.r\/(a.r=b.r/\a.n<b.n):=by
 unfold Uk;split;rename_i h;rw[decide_eq_true_eq];exact⟨λk=> .inr ⟨h,k⟩,λk=>by rcases k with k|k;exact absurd h (by omega);exact k.2⟩;rename_i h;rw[decide_eq_true_eq];exact⟨.inl,λk=>by rcases k with k|k;exact k;exact absurd k.1 h⟩
def Zmb {a b:Tg} (h:Uk a b=Ht):Uk b a=false:=by
 rw[J4,ne_eq,U1];rw[U1]at h;omega
def ZiW {a b c:Tg} (d:Uk a b=Ht) (e:Uk b c=Ht):Uk a c=true:=by
 rw[U1]at *;omega
def Zpm {a b:Tg} (h:a≠b):Uk a b=Ht\/Uk b a=true:=by
 rw[U1,U1];by_cases e:a.r=b.r;have d:a.n≠b.n:=λc=>h (by cases a;cases b;simp only at e c;subst e c;rfl)
 omega;omega
def UM:Srt.Good Ya where
 asym a b h:=by
  unfold Ya at *
  by_cases e:a.time=b.time
  ·rw[if_pos e]at h;rw[if_pos e.symm];exact Zmb h
  ·rw[if_neg e]at h;rw[if_neg (λx=>e x.symm)];simp at h ⊢;omega
 trans a b c h1 h2:=by
  unfold Ya at *
  by_cases p:a.time=b.time
  ·rw[if_pos p]at h1
   by_cases q:b.time=c.time
   ·rw[if_pos q]at h2;rw[if_pos (p.trans q)];exact ZiW h1 h2
   ·rw[if_neg q]at h2;rw[if_neg (λx=>q (p.symm.trans x))];simp at h2 ⊢;omega
  ·rw[if_neg p]at h1
   by_cases q:b.time=c.time
   ·rw[if_pos q]at h2;rw[if_neg (λx=>p (x.trans q.symm))];simp at h1 ⊢;omega
   ·rw[if_neg q]at h2;simp at h1 h2;rw[if_neg (by omega)];simp;omega
def ZoI {a b:Opn} (h:a.id≠b.id):Ya a b=Ht\/Ya b a=true:=by
 unfold Ya;by_cases e:a.time=b.time;rw[if_pos e,if_pos e.symm];exact Zpm h;rw[if_neg e,if_neg (λx=>e x.symm)];simp;omega
def ops_sort:SortK opv 55 Ya ZgB where
 len _:=rfl
 atom a:=rfl
 ids a:=by simp[opv,Ke,PV.idsL]
 known _:=rfl
 give a m:=by simp[opv,PV.give,Ka]
 givable a m:=by simp[opv,PV.givable,JX]
 part a:=rfl
 cmp:=ZhC
 cv a b:=by
  unfold ZgB;cases c:Ya a b
  ·cases d:Ya b a<;>simp
  ·simp
 good:=UM
def Z1 (l:List Opn):PV:= .sl .no (l.map opv)
def vc7 {x:Bool} {M:KH} {g:FuncId} {args args':List PV} {K:KR} {r:PV} (b:Pp g args' r) (c:K.k r M.m) (a:JX M.m args:=by first|(simp only[go_sem,ref,ent,ZX,doc,Y5,row,Zt,fld,lns,tg,refs,prs,pr,eg,egs,tgs,lg,lgs,Zy,opv,tr,Z1];done)|exact rfl) (d:Ka M.m args=args':=by first|(simp only[go_sem,ref,ent,ZX,doc,Y5,row,Zt,fld,lns,tg,refs,prs,pr,eg,egs,tgs,lg,lgs,Zy,opv,tr,Z1];done)|exact rfl):@V8 prog x M (Hs (g,args)) K:=YN b a d c
def Ww (l:List Opn):Sized 15 (l.map opv):=λe a=>by
 obtain⟨o,_,rfl⟩:=Jc.1 a;rfl
def Sv (l:List Opn):XF (l.map opv):=λe a=>by
 obtain⟨o,_,rfl⟩:=Jc.1 a;rfl
theorem ZqS (l:List Opn):Jl (l.map opv)= []:=by
 induction l with
 |nil=>rfl
 |cons o l ih=>simp only[Jk,Jl,Do,ih,Jb]
def Zbq (l:List Opn):(Z1 l).dids= []:=by simp only[Z1,Jt,ZqS]
def Z3 {l:List Opn} {k:Nat} (h:k<l.length):(l.map opv).getD k .any=opv (l.getD k Jd):=Xk h
def Uv (o:Opn):(opv o).ids= []:=ops_sort.ids o
def ZmE (o:Opn) (a:OkOp o):Pp 107 [opv o] (opv o):=by
 have b:=YP a.d (show 16<=1000 by omega);refine ZS func107 rfl ntmps107 results107 (Do _) ?_;simp only[go_sem,opv,Zaj,Zjj,b]
def Tf (l:List Opn) (most:Int):Bool:=decide (most<(l.length:Int))||l.any Gc
def Zb8 (l:List Opn) (most:Int) (o:l.length<=maxLen):Pp 6 [Z1 l,.int .i64 most] (.bool (Tf l most)):=by
 by_cases g:most<(l.length:Int);refine ZM func6 rfl ntmps6 results6 ?_;simp only[go_sem,Z1,g,Tf];have b:Tf l most=l.any Gc:=by simp only[Tf,g,decide_false,Bool.false_or]
 rw[b];refine ZM func6 rfl ntmps6 results6 ?_;simp only[go_sem,Z1,g];refine ZA (ι:= { x:Nat // x<=(l).length/\(∀j,j<x->Gc (l.getD j Jd)=Hf) }) 21 (λx=> [(0,Z1 l),(5,.int .i64 (x.1:Int))]) (λx=> []) (λx=> []) (λx=>(l).length-x.1) ⟨0,Jn _,λj i=>absurd i (JV j)⟩ ⟨rfl,(Fc2 rfl rfl),fnl,fnl⟩ (λx=>⟨(Fc2 rfl rfl),fnl⟩) (λx=> ?_);obtain⟨k,n,f⟩:=x;simp only at n f ⊢;by_cases h:(k:Int)<(l.length:Int)
 (have a:k<(l).length:=by omega);(have q:=Wa a (o));(have m:=Jq k)
 have c:=Zfl (l.getD k Jd);cases e:Gc (l.getD k Jd)
 ·rw[e]at c;simp only[go_sem,Z1,h,Z3 a,opv,m];refine vc6 c ?_;simp only[go_sem,q];exact⟨⟨k+1,by(try simp only);omega,Zm f e⟩,by show(l).length-(k+1)<(l).length-k;omega,⟨rfl,(Fc2 rfl rfl),fnl,fnl⟩⟩
 rw[e]at c;have b:=U8 (p:=Gc) a e;simp only[go_sem,Z1,h,Z3 a,opv,m];refine vc6 c ?_;simp only[go_sem,b];have b:=UC (p:=Gc) (d:=Jd) (l:=l) (λj i=>f j (by omega));simp only[go_sem,Z1,h,b]
def Zyr {l:List Opn} {most:Nat} (h:Tf l (most:Int)=Hf):l.length<=most/\ ∀o∈l,OkOp o:=by
 simp only[Tf,JE,decide_eq_false_iff_not,J2]at h;refine⟨by omega,λo a=>⟨?_⟩⟩;have:=h.2 o a;simp only[Gc,Bool.not_eq_true,JE,decide_eq_false_iff_not]at this;omega
def apartB (l:List Opn):Bool:=decide (l.map Opn.id).Nodup
def ZmT {l:List Opn} (h:∀i,i<l.length-> ∀j,j<i->(l.getD i Jd).id≠(l.getD j Jd).id):apartB l=true:=by
 unfold apartB;rw[decide_eq_true_eq,Ji,Je];intro i j c b a;simp only[J8]at c b;have:=h j b i a;rw[getD_lt c,getD_lt b]at this;simp only[Jf];exact λe=>this e.symm
def Zqw {l:List Opn} {i j:Nat} (a:i<l.length) (b:j<i) (h:(l.getD i Jd).id=(l.getD j Jd).id):apartB l=false:=by
 unfold apartB;rw[decide_eq_false_iff_not,Ji,Je];intro c;have:=c j i (by simp;omega) (by simpa using a) b;simp only[Jf]at this;rw[getD_lt a,getD_lt (by omega)]at h;exact this h.symm
def ZhF (l:List Opn) (t:l.length<=maxLen):Pp 7 [Z1 l] (.bool (apartB l)):=by
 refine ZM func7 rfl ntmps7 results7 ?_;simp only[go_sem,Z1];refine ZA (ι:= { x:Nat // x<=(l).length/\(∀i,i<x-> ∀j,j<i->(l.getD i Jd).id≠(l.getD j Jd).id) }) 27 (λx=> [(0,Z1 l),(3,.int .i64 (x.1:Int))]) (λx=> []) (λx=> []) (λx=>(l).length-x.1) ⟨0,Jn _,λj c=>absurd c (JV j)⟩ ⟨rfl,(Fc2 rfl rfl),fnl,fnl⟩ (λx=>⟨(Fc2 rfl rfl),fnl⟩) (λx=> ?_);obtain⟨k,v,p⟩:=x;simp only at v p ⊢;by_cases h:(k:Int)<(l.length:Int)
 (have b:k<(l).length:=by omega);(have w:=Wa b (t));(have u:=Jq k)
 simp only[go_sem,Z1,h];refine ZA (ι:= { x:Nat // x<=(l.take k).length/\(∀j,j<x->(l.getD k Jd).id≠(l.getD j Jd).id) }) 27 (λx=> [(0,Z1 l),(3,.int .i64 (k:Int)),(4,.int .i64 (x.1:Int))]) (λx=> []) (λx=> []) (λx=>(l.take k).length-x.1) ⟨0,Jn _,λj c=>absurd c (JV j)⟩ ⟨rfl,(Fc3 rfl rfl rfl),fnl,fnl⟩ (λx=>⟨(Fc3 rfl rfl rfl),fnl⟩) (λx=> ?_);obtain⟨a,m,f⟩:=x;simp only at m f ⊢;have g:(l.take k).length=k:=by rw[List.length_take];omega
 rw[g]at m;by_cases q:(a:Int)<(k:Int);have d:a<l.length:=by omega
 have y:IntKind.i64.wrap ((a:Int)+1)=((a+1:Nat):Int):=by rw[w64 (by rw[Zd]at t;omega)];rfl
 have n:(0:Int)<=(a:Int)/\(a:Int)<(l.length:Int):=by omega
 by_cases o:(l.getD k Jd).id=(l.getD a Jd).id;have s:=Zqw b (show a<k by omega) o;simp only[go_sem,Z1,q];refine vDq ?_;simp only[go_sem,Z3 b,Z3 d,opv,u,h,n.1,n.2,Z6,o,s];simp only[go_sem,Z1,q];refine vDq ?_;simp only[go_sem,Z3 b,Z3 d,opv,u,h,n.1,n.2,Z6,o,y];exact⟨⟨a+1,by rw[g];omega,λj c=>by
  have c:j<a+1:=c;by_cases e:j=a;subst e;exact o;exact f j (by omega)⟩,by show(l.take k).length-(a+1)<(l.take k).length-a;rw[g];omega,⟨rfl,(Fc3 rfl rfl rfl),fnl,fnl⟩⟩
 simp only[go_sem,Z1,q,w];exact⟨⟨k+1,by omega,λi r j c=>by
  have r:i<k+1:=r;by_cases e:i=k;subst e;exact f j (by omega);exact p i (by omega) j c⟩,nx9 (by omega),⟨rfl,(Fc2 rfl rfl),fnl,fnl⟩⟩
 have s:=ZmT (l:=l) (λi r=>p i (by omega));simp only[go_sem,Z1,h,s]
structure Cg where
 kind:Int
 item:Str
 was:En
 now:En
 l:List En
deriving DecidableEq,Inhabited
def chg (c:Cg):PV:= .agg [.int .i64 c.kind,.str c.item,.int .i64 c.was.at'.sc,.str c.was.at'.gr,.str c.was.at'.nm,.int .i64 c.was.n,.sl .no (c.was.l.map .str),.int .i64 c.now.at'.sc,.str c.now.at'.gr,.str c.now.at'.nm,.int .i64 c.now.n,.sl .no (c.now.l.map .str),.sl .no (c.l.map ent)]
def Zcd (l:List Cg):PV:= .sl .no (l.map chg)
def vc8 {x:Bool} {M:KH} {g:FuncId} {args args':List PV} {K:KR} {r:PV} (b:Pp g args' r) (c:K.k r M.m) (a:JX M.m args:=by first|(simp only[go_sem,ref,ent,ZX,doc,Y5,row,Zt,fld,lns,tg,refs,prs,pr,eg,egs,tgs,lg,lgs,Zy,opv,tr,chg,Zcd];done)|exact rfl) (d:Ka M.m args=args':=by first|(simp only[go_sem,ref,ent,ZX,doc,Y5,row,Zt,fld,lns,tg,refs,prs,pr,eg,egs,tgs,lg,lgs,Zy,opv,tr,chg,Zcd];done)|exact rfl):@V8 prog x M (Hs (g,args)) K:=YN b a d c
structure FineC (c:Cg):Prop where
 w:c.was.l.length<=maxLen
 n:c.now.l.length<=maxLen
 l:c.l.length<=maxLen
 e:∀e∈c.l,e.l.length<=maxLen
def Zep {l:List Cg} {i:Nat} (h:i<l.length):(l.map chg).getD i .any=chg (l.getD i Jd):=Xk h
def ZnE (c:Cg):Cg:=if c.kind=1 then⟨c.kind,c.item,c.now,c.was,c.l⟩else if c.kind=2\/c.kind=3 then⟨5-c.kind,c.item,c.was,c.now,c.l⟩else c
def ZfA (l:List Cg):List Cg:=l.reverse.map ZnE
def Znb (l:List Cg):(ZfA l).length=l.length:=by simp[ZfA]
def UZ (l:List Cg):Sized 13 (l.map chg):=λe a=>by
 obtain⟨x,_,rfl⟩:=Jc.1 a;rfl
def ZmV (l:List Cg):XF (l.map chg):=λe a=>by
 obtain⟨x,_,rfl⟩:=Jc.1 a;rfl
def ZqO (c:Cg):(chg c).dids= []:=by simp only[chg,Jt,Jl,XI,TJ,Jb]
theorem ZfG (l:List Cg):Jl (l.map chg)= []:=by
 induction l with
 |nil=>rfl
 |cons e l ih=>rw[Jk,Jl,ih,ZqO];rfl
def ZfE (l:List Cg):(Zcd l).dids= []:=by simp only[Zcd,Jt,ZfG]
structure RAtS (l:List Opn) where
 k:Nat
 hk:k<=l.length
 id:Nat
 hid:id=27
structure WyS (m:List Eg) (id0:Tg) where
 k:Nat
 id:Tg
 way:List Eg
 hk:k<=m.length+1
 hl:way.length=k
 h:Zti m (m.length+1-k) id way=Zmq m id0
def Zub (x:Ln) (r:Rf):List Rf:=if Zx x=Hf then []else if Yn (Zi x) r<0 then [r]else if x.kind=6/\0<Yn (Zi x) r then []else ZN x
def Zyw (b:List Rf) (s:Rf):List Rf:=if(b.any λx=>decide (s=x))=Ht then b else b++ [s]
def Zyd (b src:List Rf):List Rf:=src.foldl Zyw b
def Znc (x:Ln):List Rf->List Rf->Option (List Rf)
 |acc,[]=>Hs acc
 |acc,e::es=>if Zpi x e=Hf then none else Znc x (Zyd acc (Zub x e)) es
def Zud:List Ln->List Rf->Bool
 | [],_=>Ht
 |x::xs,es=>match Znc x [] es with|none=>Hf|some b=>Zud xs b
structure SuS (row:List Ln) (r0:Rf) where
 k:Nat
 es:List Rf
 hk:k<=row.length
 hl:es.length<=1+2*(row.length-k)
 h:Zud (row.take k).reverse es=Zud row.reverse [r0]
structure AlS (row:List Ln) (r0:Rf) where
 k:Nat
 r:Rf
 kp:Bool
 hk:k<=row.length
 h:Zpp (row.drop k) r=Zpp row r0
 h2:(kp&&Zod (row.drop k) r)=Zod row r0
structure FineB (c:Cg):Prop where
 w:c.was.l.length<=1000000
 n:c.now.l.length<=1000000
 l:c.l.length<=100000
 e:∀e∈c.l,e.l.length<=1000000
def FineB.flip {c:Cg} (h:FineB c):FineB (ZnE c):=by
 unfold ZnE;split;exact⟨h.n,h.w,h.l,h.e⟩;split;exact⟨h.w,h.n,h.l,h.e⟩;exact h
open Go.ChangeShapes Go.WideShapes Go.ChangeAt Go.RowKit
theorem ZvM:Ze6 prog 57=false:=by kernel_rfl
def ZvV {cs:List PV} (h:PT prog 57 cs):∃l:List Tg,cs= [.sl .no (l.map tg)]/\l.length<=maxLen:=by
 obtain⟨l,rfl,a,b⟩:=h.slice_inv ZvM underlying57;obtain⟨xs,rfl,_⟩:=Sq (enc:=tg) (Q:=λ_=>True) (λp hp=>by
  obtain⟨s,rfl⟩:=ZsZ (b p hp);exact⟨s,rfl,trivial⟩)
 exact⟨xs,rfl,by simpa using a⟩
def Zyu {p:PV} (h:PA prog 59 p):∃o:Opn,p=opv o/\o.drops.length<=maxLen:=by
 obtain⟨cs,rfl,a⟩:=PA.agg Zuh h;have a:PTs prog [25,25,2,9,3,9,56,2,4,9,57] cs:=a.struct_inv underlying59;obtain⟨N,Y,rfl,s,t⟩:=a.cons_inv;obtain⟨O,Z,rfl,u,v⟩:=t.cons_inv;obtain⟨P,b3,rfl,w,x⟩:=v.cons_inv;obtain⟨Q,b4,rfl,y,z⟩:=x.cons_inv;obtain⟨R,b5,rfl,b,c⟩:=z.cons_inv;obtain⟨S,b6,rfl,d,e⟩:=c.cons_inv;obtain⟨T,b7,rfl,f,g⟩:=e.cons_inv;obtain⟨U,b8,rfl,i,j⟩:=g.cons_inv;obtain⟨V,b9,rfl,k,l⟩:=j.cons_inv;obtain⟨W,ba,rfl,m,n⟩:=l.cons_inv;obtain⟨X,bb,rfl,q,r⟩:=n.cons_inv;obtain⟨B,rfl⟩:=ZgH s;obtain⟨C,rfl⟩:=ZgH u;obtain⟨D,rfl,_⟩:=w.int_inv underlying2;obtain⟨E,rfl,_⟩:=y.string_inv underlying9;obtain⟨F,rfl,_⟩:=b.int_inv underlying3;obtain⟨G,rfl,_⟩:=d.string_inv underlying9;obtain⟨I,rfl⟩:=ZoQ f;obtain⟨J,rfl,_⟩:=i.int_inv underlying2;obtain⟨K,rfl⟩:=k.bool_inv underlying4;obtain⟨L,rfl,_⟩:=m.string_inv underlying9;obtain⟨M,rfl,A⟩:=ZvV q;rw[r.nil_inv];exact⟨⟨B,C,D,E,F,G,I,J,K,L,M⟩,rfl,A⟩
end Go.Proofs.YtcmpkokndngplaaGreat
