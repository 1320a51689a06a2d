/- A logic of values for functions that only read and build, over the model (part 3): no statement of the seat is proved here. -/
import Derived.Test.YthingdchjkhfbaaGreatPlB
import Derived.Lib.Strings
namespace Go.PL
set_option maxHeartbeats 64000000
set_option maxRecDepth 20000
set_option linter.unusedVariables false
set_option linter.unusedSimpArgs false
open Go.RowKit
def Zfd (place:Nat→Option (Nat×Nat)):List PV→List (Nat×PV)→Option (List PV)
 |cs,[]=>some cs
 |cs,(i,p)::rest=>match place i with
  |none=>none
  |some (o,sz)=>if p.known=true∧p.cells.length=sz∧o+sz≤cs.length then Zfd place (ZaK cs o p.cells) rest else none
inductive BdK where
 |str (fs:List (Nat×Nat)) (z:List PV)
 |arr (esz:Nat) (z:List PV)
 |none
def tbd (P:Program) (t:TypeId):BdK:=
 match P.info? t with
 |some i=>match i.zero with
  |some z=>match P.underlying t with
   |some (.struct fs)=>if(fs.all fun f=>(P.info? f.type).isSome)&&(ZbI z).known then .str (fs.toList.map fun f=>(f.offset,tsz P f.type)) (ZbI z).cells else .none
   |some (.array _ e)=>if(P.info? e).isSome&&(ZbI z).known then .arr (tsz P e) (ZbI z).cells else .none
   |_=> .none
  |none=> .none
 |none=> .none
def Zgz (P:Program) (t:TypeId) (parts:List (Nat×PV)) (m:Hp):ARes:=
 match tbd P t with
 | .str fs z=>match Zfd (fs[·]?) z parts with
  |some cs=>⟨True,.agg cs,m⟩
  |none=> .fail
 | .arr esz z=>match Zfd (fun i=>some (i*esz,esz)) z parts with
  |some cs=>⟨True,.agg cs,m⟩
  |none=> .fail
 | .none=> .fail
section
variable {P:Program} {B:Frm} {S:Stable} {M:Maps} {s:St} {a:Act} {w:World}
theorem ZnF (l:List Value):∀(k:Nat) (cs:Array Value) (off:Nat),off+k+l.length≤cs.size→
  (l.zipIdx k).foldl (fun cs x=>cs.setIfInBounds (off+x.2) x.1) cs=⟨cs.toList.take (off+k)++l++cs.toList.drop (off+k+l.length)⟩:=by
 induction l with
 |nil=>intro k cs off h;simp
 |cons v l ih=>
  intro k cs off h;simp only[List.zipIdx_cons,List.foldl_cons];rw[ih (k+1) _ off (by simp at h ⊢;omega)];congr 1;simp only[Array.toList_setIfInBounds];apply List.ext_getElem?;intro j;simp only[List.length_cons]at h;have hk:off+k<cs.toList.length:=by simp;omega
  simp only[List.append_assoc,List.getElem?_append,List.length_take,List.length_set,Array.length_toList,List.getElem?_take,List.getElem?_drop,List.getElem?_set,List.length_cons];have m1:min (off+(k+1)) cs.size=off+k+1:=by omega
  have m2:min (off+k) cs.size=off+k:=by omega
  rw[m1,m2]
  by_cases c1:j<off+k
  ·have:j<off+k+1:=by omega
   have h3:¬off+k=j:=by omega
   simp[c1,this,h3];omega
  ·by_cases c2:j=off+k
   ·subst c2;have:off+k<cs.size:=by omega
    simp[this]
   ·have c3:¬j<off+k+1:=by omega
    simp only[c1,c3,if_false];have e1:j-(off+k)=(j-(off+k+1))+1:=by omega
    rw[e1];simp only[List.length_cons,List.getElem?_cons_succ]
    by_cases c4:j-(off+k+1)<l.length
    ·have:j-(off+k+1)+1<l.length+1:=by omega
     simp[c4]
    ·have:¬j-(off+k+1)+1<l.length+1:=by omega
     simp only[c4,this,if_false];have e2:¬off+k=off+(k+1)+l.length+(j-(off+k+1)-l.length):=by omega
     simp only[e2,if_false];congr 1;omega
theorem Zpi {place:Nat→Option (Nat×Nat)}:∀(parts:List (Nat×PV)) (vparts:List (Nat×Value)) (cs cs':List PV) (vs:List Value),
  vparts.length=parts.length→(∀i,i<parts.length→(vparts.getD i (0,undef)).1=(parts.getD i (0,.any)).1∧RepS S M s.m.q (vparts.getD i (0,undef)).2 (parts.getD i (0,.any)).2)→
  RepL S M s.m.q vs cs→Zfd place cs parts=some cs'→ ∃vs',Instr.fill place ⟨vs⟩ vparts=some ⟨vs'⟩∧RepL S M s.m.q vs' cs'∧ ∀k∈PV.idsL cs',k∈PV.idsL cs∨ ∃x∈parts,k∈x.2.ids
 | [],vparts,cs,cs',vs,hl,_,hr,h=>by
  have:vparts= []:=List.eq_nil_of_length_eq_zero (by simpa using hl);subst this;simp only[Zfd,Option.some.injEq]at h;subst h;exact⟨vs,rfl,hr,fun k hk=> .inl hk⟩
 |(i,p)::rest,[],cs,cs',vs,hl,_,hr,h=>by simp at hl
 |(i,p)::rest,(i',v)::vrest,cs,cs',vs,hl,hp,hr,h=>by
  obtain⟨h0,hv⟩:=hp 0 (by simp);simp only[List.getD_cons_zero]at h0 hv;subst h0;simp only[Zfd]at h;split at h
  ·cases h
  ·rename_i o sz hpl;split at h
   ·rename_i hc;obtain⟨hc1,hc2,hc3⟩:=hc;obtain⟨ys,hyc,hyl,hyr⟩:=hv.cells_inv hc1;have hlen:ys.length=sz:=by omega
    have hvl:vs.length=cs.length:=hr.1;have hr':RepL S M s.m.q (vs.take o++ys++vs.drop (o+ys.length)) (ZaK cs o p.cells):=by
     refine⟨by simp[ZaK,hvl,hyl],fun j hj=> ?_⟩;have hjl:j<cs.length:=by simp[ZaK]at hj;omega
     unfold ZaK;rw[Zcq (by omega),Zcq (by omega),hyl];split
     ·exact hr.2 j hjl
     ·split
      ·exact hyr _ (by omega)
      ·exact hr.2 j hjl
    obtain⟨vs',e1,e2,e3⟩:=Zpi rest vrest (ZaK cs o p.cells) cs' (vs.take o++ys++vs.drop (o+ys.length)) (by simpa using hl) (fun j hj=>by simpa using hp (j+1) (by simpa using hj)) hr' h;refine⟨vs',?_,e2,fun k hk=> ?_⟩
    ·simp only[Instr.fill,hpl,hyc];have hz:(⟨ys⟩:Array Value).size=sz:=by simp[hlen]
     have hno:¬((decide ((⟨ys⟩:Array Value).size≠sz)||decide (o+(⟨ys⟩:Array Value).size>(⟨vs⟩:Array Value).size))=true):=by
      simp only[List.size_toArray,Bool.or_eq_true,decide_eq_true_eq,not_or];omega
     rw[if_neg hno];have hf:=ZnF ys 0 ⟨vs⟩ o (by simp;omega);simp only[Nat.add_zero]at hf;have hz2:Array.foldl (fun cs x=>cs.setIfInBounds (o+x.2) x.1) (⟨vs⟩:Array Value) (Array.zipIdx ⟨ys⟩)=⟨vs.take o++ys++vs.drop (o+ys.length)⟩:=by
      rw[←Array.foldl_toList];simpa using hf
     first|(rw[hz2];exact e1)|(simp only[hz2];exact e1)
    ·rcases e3 k hk with h1|⟨x,hx,hkx⟩
     ·obtain⟨c,hc,hkc⟩:=PV.mem_idsL.1 h1;simp only[ZaK,List.mem_append]at hc;rcases hc with (hc|hc)|hc
      ·exact .inl (PV.mem_idsL.2 ⟨c,List.mem_of_mem_take hc,hkc⟩)
      ·exact .inr ⟨(i',p),by simp,Zav hc hkc⟩
      ·exact .inl (PV.mem_idsL.2 ⟨c,List.mem_of_mem_drop hc,hkc⟩)
     ·exact .inr ⟨x,by simp[hx],hkx⟩
   ·cases h
end
open Go.RowKit
section
variable {P:Program} {B:Frm} {S:Stable} {M:Maps} {s:St} {a:Act} {w:World}
theorem Zg3 {α β:Type} (g:α→Sem β) (g':α→β) (w:World):∀(l:List α),(∀x∈l,(g x).run P w= .ok (g' x) w)→(l.mapM g).run P w= .ok (l.map g') w
 | [],_=>by simp
 |x::l,h=>by
  have ih:=Zg3 g g' w l (fun y hy=>h y (by simp[hy]));simp[List.mapM_cons,h x (by simp),ih]
theorem Zkj {α β:Type} (g:α→Sem β) (g':α→β) (w:World) (l:Array α) (h:∀x∈l,(g x).run P w= .ok (g' x) w):(l.mapM g).run P w= .ok (l.map g') w:=by
 rw[Array.mapM_eq_mapM_toList];simp only[Sem.run_map,Zg3 g g' w l.toList (fun x hx=>h x (by simpa using hx)),Result.andThen_ok];congr 1;apply Array.ext';simp
theorem ZpR (hs:Sim B S M s a w) {t:TypeId} {parts:List (Nat×PV)} {vparts:List (Nat×Value)} (hl:vparts.length=parts.length)
  (hp:∀i,i<parts.length→(vparts.getD i (0,undef)).1=(parts.getD i (0,.any)).1∧RepS S M s.m.q (vparts.getD i (0,undef)).2 (parts.getD i (0,.any)).2) (hi:∀x∈parts,∀i∈x.2.ids,ZS s.m i)
  (hok:(Zgz P t parts s.m).ok):Snd P B S s a w (Instr.build t ⟨vparts⟩) (Zgz P t parts s.m):=by
 have zero:∀ {i:TypeInfo} {z:Value},P.info? t=some i→i.zero=some z→(ZbI z).known=true→(zeroValue t).run P w= .ok z w∧ ∃zs:List Value,z.cells=⟨zs⟩∧RepL S M s.m.q zs (ZbI z).cells∧PV.idsL (ZbI z).cells= []:=by
  intro i z h1 h2 hk;refine⟨by simp[zeroValue,Zgq h1,h2],?_⟩;obtain⟨zs,e1,e2,e3⟩:=(RepS.clean (S:=S) (M:=M) (q:=s.m.q) (ZcH S z)).cells_inv hk;refine⟨zs,e1,⟨e2,e3⟩,?_⟩;have:=Zdn z;cases hz:ZbI z with
  |agg cs=>rw[hz]at this;simpa[PV.cells,PV.ids]using this
  |_=>rw[hz]at this;simpa[PV.cells,PV.idsL]using this
 revert hok
 unfold Zgz;split
 ·rename_i fs z heq;unfold tbd at heq;split at heq
  ·rename_i i h1;split at heq
   ·rename_i zv h2;split at heq
    ·rename_i fds h3;split at heq
     ·rename_i hall;cases heq;simp only[Bool.and_eq_true]at hall;obtain⟨hz0,zs,hz1,hz2,hz3⟩:=zero h1 h2 hall.2;split
      ·rename_i cs' hf;intro _;obtain⟨vs',e1,e2,e3⟩:=Zpi (S:=S) (M:=M) (s:=s) parts vparts _ cs' zs hl hp hz2 hf;refine Snd.pure hs (v:= .agg ⟨vs'⟩) ?_ (.agg vs' cs' e2.1 e2.2) (fun k hk=> ?_)
       ·have hm:=Zkj (P:=P) (fun f:Field=>do pure (f.offset,←sizeOf f.type)) (fun f=>(f.offset,tsz P f.type)) w fds (fun f hf=>by
         have hsome:(P.info? f.type).isSome=true:=by
          have:=hall.1;rw[Array.all_eq_true']at this;exact this f hf
         obtain⟨fi,hfi⟩:=Option.isSome_iff_exists.1 hsome;simp[Zau hfi])
        simp only[Instr.build,Sem.run_bind,hz0,Result.andThen_ok,ZJ h3,hm,hz1];have hplace:(fun(x:Nat)=>(fds.map fun f=>(f.offset,tsz P f.type))[x]?)=(fun(x:Nat)=>(List.map (fun f:Field=>(f.offset,tsz P f.type)) fds.toList)[x]?):=by
         funext x;simp
        rw[hplace,e1];simp
       ·rcases e3 k (by simpa[PV.ids]using hk)with h|⟨x,hx,hkx⟩
        ·rw[hz3]at h;cases h
        ·exact hi x hx k hkx
      ·exact fun hok=>hok.elim
     ·cases heq
    ·split at heq<;>cases heq
    ·cases heq
   ·cases heq
  ·cases heq
 ·rename_i esz z heq;unfold tbd at heq;split at heq
  ·rename_i i h1;split at heq
   ·rename_i zv h2;split at heq
    ·split at heq<;>cases heq
    ·rename_i n e h3;split at heq
     ·rename_i hall;cases heq;simp only[Bool.and_eq_true]at hall;obtain⟨hz0,zs,hz1,hz2,hz3⟩:=zero h1 h2 hall.2;obtain⟨ei,hei⟩:=Option.isSome_iff_exists.1 hall.1;split
      ·rename_i cs' hf;intro _;obtain⟨vs',e1,e2,e3⟩:=Zpi (S:=S) (M:=M) (s:=s) parts vparts _ cs' zs hl hp hz2 hf;refine Snd.pure hs (v:= .agg ⟨vs'⟩) ?_ (.agg vs' cs' e2.1 e2.2) (fun k hk=> ?_)
       ·simp only[Instr.build,Sem.run_bind,hz0,Result.andThen_ok,ZJ h3,Zau hei,hz1,e1];simp
       ·rcases e3 k (by simpa[PV.ids]using hk)with h|⟨x,hx,hkx⟩
        ·rw[hz3]at h;cases h
        ·exact hi x hx k hkx
      ·exact fun hok=>hok.elim
     ·cases heq
    ·cases heq
   ·cases heq
  ·cases heq
 ·exact fun hok=>hok.elim
end
open Go.RowKit
mutual
def PV.share:PV→PV
 | .sl _ es=> .sl .no es
 | .agg cs=> .agg (PV.shareL cs)
 | .tup cs=> .tup (PV.shareL cs)
 | .fn f cs=> .fn f (PV.shareL cs)
 |p=>p
def PV.shareL:List PV→List PV
 | []=> []
 |c::cs=>PV.share c::PV.shareL cs
end
mutual
def PV.clean:PV→Bool
 | .ptr _ _=>false
 | .osl _ _ _ _=>false
 | .vsl _ _ _=>false
 | .vptr _ _ _ _ _=>false
 | .agg cs=>PV.cleanL cs
 | .tup cs=>PV.cleanL cs
 | .fn _ cs=>PV.cleanL cs
 |_=>true
def PV.cleanL:List PV→Bool
 | []=>true
 |c::cs=>PV.clean c&&PV.cleanL cs
end
theorem PV.shareL_length:∀(cs:List PV),(PV.shareL cs).length=cs.length
 | []=>rfl
 |c::cs=>by simp[PV.shareL,PV.shareL_length cs]
theorem PV.shareL_getD:∀(cs:List PV) (i:Nat),i<cs.length→(PV.shareL cs).getD i .any=(cs.getD i .any).share
 | [],i,h=>by simp at h
 |c::cs,0,_=>by simp[PV.shareL]
 |c::cs,i+1,h=>by simpa[PV.shareL]using PV.shareL_getD cs i (by simpa using h)
theorem PV.cleanL_getD:∀ {cs:List PV} (h:PV.cleanL cs=true) (i:Nat),i<cs.length→(cs.getD i .any).clean=true
 | [],_,i,h=>by simp at h
 |c::cs,hc,0,_=>by simp[PV.cleanL]at hc ⊢;exact hc.1
 |c::cs,hc,i+1,h=>by simp[PV.cleanL]at hc;simpa using PV.cleanL_getD hc.2 i (by simpa using h)
theorem ZjS (p:PV):p.share.cells=PV.shareL p.cells:=by
 cases p<;>simp[PV.share,PV.cells,PV.shareL]
theorem Zpb {p:PV} (h:p.clean=true) {j:Nat} (hj:j<p.cells.length):(p.cells.getD j .any).clean=true:=by
 cases p with
 |agg cs=>exact PV.cleanL_getD (cs:=cs) (by simpa[PV.clean]using h) j hj
 |_=>
  simp only[PV.cells,List.length_cons,List.length_nil]at hj;have:j=0:=by omega
  subst this;exact h
theorem Rep.share {S:Stable} {v:Value} {p:PV} (r:Rep S v p):Rep S v p.share:=by
 induction r with
 |agg vs cs hl _ ih=>exact .agg vs _ (by rw[PV.shareL_length];exact hl) (fun i hi=>by rw[PV.shareL_length]at hi;rw[PV.shareL_getD cs i hi];exact ih i hi)
 |tup vs cs hl _ ih=>exact .tup vs _ (by rw[PV.shareL_length];exact hl) (fun i hi=>by rw[PV.shareL_length]at hi;rw[PV.shareL_getD cs i hi];exact ih i hi)
 |fn f vs cs hl _ ih=>exact .fn f vs _ (by rw[PV.shareL_length];exact hl) (fun i hi=>by rw[PV.shareL_length]at hi;rw[PV.shareL_getD cs i hi];exact ih i hi)
 |any v=>exact .any v
 |int k n=>exact .int k n
 |bool b=>exact .bool b
 |str l=>exact .str l
 |flt k b=>exact .flt k b
 |cpx k a b=>exact .cpx k a b
 |sl0 a cap=>exact .sl0 a cap
 |slnil=>exact .sl0 none 0
 |sl b o cap sz es vals h1 h2 h3 h4 _=>exact .sl b o cap sz es vals h1 h2 h3 h4
 |rptr b o cs vals h1 h2 _=>exact .rptr b o cs vals h1 h2
 |nilp=>exact .nilp
 |nilfn=>exact .nilfn
 |nilmap=>exact .nilmap
 |mref b=>exact .mref b
 |iptr b=>exact .iptr b
 |rmap b es ks vs h1 h2 h3 h4 h5 h6 _ _=>exact .rmap b es ks vs h1 h2 h3 h4 h5 h6
theorem RepS.share {S:Stable} {M:Maps} {q:Rows} {v:Value} {p:PV} (r:RepS S M q v p) (h:p.clean=true):Rep S v p.share:=by
 induction r with
 |clean r=>exact r.share
 |ptr id off=>simp[PV.clean]at h
 |osl id off len cap sz hc=>simp[PV.clean]at h
 |vsl id len sz v hv t=>simp[PV.clean]at h
 |vptr id n sz i off v hv hi t=>simp[PV.clean]at h
 |row id v es r _=>exact r
 |agg vs cs hl _ ih=>exact .agg vs _ (by rw[PV.shareL_length];exact hl) (fun i hi=>by rw[PV.shareL_length]at hi;rw[PV.shareL_getD cs i hi];exact ih i hi (PV.cleanL_getD h i hi))
 |tup vs cs hl _ ih=>exact .tup vs _ (by rw[PV.shareL_length];exact hl) (fun i hi=>by rw[PV.shareL_length]at hi;rw[PV.shareL_getD cs i hi];exact ih i hi (PV.cleanL_getD h i hi))
 |fn f vs cs hl _ ih=>exact .fn f vs _ (by rw[PV.shareL_length];exact hl) (fun i hi=>by rw[PV.shareL_length]at hi;rw[PV.shareL_getD cs i hi];exact ih i hi (PV.cleanL_getD h i hi))
def ZjG (size:Nat):Nat→List (Nat×PV)→Prop
 |_,[]=>True
 |k,(i,p)::rest=>i=k∧p.clean=true∧p.known=true∧p.cells.length=size∧ZjG size (k+1) rest
def ZaW (P:Program) (d:Nat) (t:TypeId) (len:Nat) (parts:List (Nat×PV)) (m:Hp):ARes:=
 match Zcg P t with
 |some ei=>⟨m.q d=none∧len=parts.length∧len*ei.size≤16777216∧ZjG ei.size 0 parts,.sl (.row d) (parts.map fun x=>x.2.share),m.setq d (.live len ei.size ei.e)⟩
 |none=> .fail
section
variable {P:Program} {B:Frm} {S:Stable} {M:Maps} {s:St} {a:Act} {w:World}
theorem ZhD {size:Nat}:∀(us:List Value) (k:Nat) (vs:List Value),vs.length=(k+us.length)*size→(∀u∈us,u.cells.size=size)→
  Instr.fill (fun i=>some (i*size,size)) ⟨vs⟩ (us.zipIdx k |>.map fun x=>(x.2,x.1))=some ⟨vs.take (k*size)++us.flatMap fun u=>u.cells.toList⟩
 | [],k,vs,hl,_=>by
  have:vs.take (k*size)=vs:=List.take_of_length_le (by simp at hl;omega);simp[Instr.fill,this]
 |u::us,k,vs,hl,hu=>by
  have hus:=hu u (by simp);have hle:k*size+size≤vs.length:=by
   rw[hl];have:=Nat.mul_le_mul_right size (show k+1≤k+(u::us).length by simp);rw[Nat.add_mul]at this;omega
  simp only[List.zipIdx_cons,List.map_cons,Instr.fill];have hno:¬((decide (u.cells.size≠size)||decide (k*size+u.cells.size>(⟨vs⟩:Array Value).size))=true):=by
   simp only[List.size_toArray,Bool.or_eq_true,decide_eq_true_eq,not_or];omega
  rw[if_neg hno];have hf:=ZnF u.cells.toList 0 ⟨vs⟩ (k*size) (by simp;omega);have hz2:Array.foldl (fun cs x=>cs.setIfInBounds (k*size+x.2) x.1) (⟨vs⟩:Array Value) (Array.zipIdx u.cells)=⟨vs.take (k*size)++u.cells.toList++vs.drop (k*size+u.cells.toList.length)⟩:=by
   rw[←Array.foldl_toList];simpa using hf
  have ih:=ZhD us (k+1) (vs.take (k*size)++u.cells.toList++vs.drop (k*size+u.cells.toList.length))
   (by simp only[List.length_append,List.length_take,List.length_drop,Array.length_toList,hus]
       have:(k+1+us.length)*size=(k+(us.length+1))*size:=by congr 1;omega
       simp only[List.length_cons]at hl;omega) (fun x hx=>hu x (by simp[hx]))
  have fin:Instr.fill (fun i=>some (i*size,size)) ⟨vs.take (k*size)++u.cells.toList++vs.drop (k*size+u.cells.toList.length)⟩ ((us.zipIdx (k+1)).map fun x=>(x.2,x.1))=some ⟨vs.take (k*size)++List.flatMap (fun u=>u.cells.toList) (u::us)⟩:=by
   rw[ih];congr 2;have hl2:(vs.take (k*size)++u.cells.toList).length=(k+1)*size:=by simp[hus,Nat.add_mul];omega
   rw[←hl2,List.take_left];simp
  first|(rw[hz2];exact fin)|(simp only[hz2];exact fin)
theorem ZjH {size:Nat}:∀ {parts:List (Nat×PV)} {k:Nat},ZjG size k parts→(∀x∈parts,x.2.clean=true∧x.2.known=true∧x.2.cells.length=size)∧parts.map (·.1)=(List.range' k parts.length)
 | [],k,_=>by simp
 |(i,p)::rest,k,h=>by
  obtain⟨rfl,h1,h2,h3,h4⟩:=h;obtain⟨g1,g2⟩:=ZjH h4;refine⟨fun x hx=> ?_,?_⟩
  ·rcases List.mem_cons.1 hx with rfl|hx
   ·exact⟨h1,h2,h3⟩
   ·exact g1 x hx
  ·simp[g2,List.range'_succ]
theorem Zji {size:Nat}:∀ {us:List Value} (hu:∀u∈us,u.cells.size=size) {i j:Nat} (hi:i<us.length) (hj:j<size),
  (us.flatMap fun u=>u.cells.toList).getD (i*size+j) undef=(us.getD i undef).cells.toList.getD j undef
 | [],_,i,j,hi,_=>by simp at hi
 |u::us,hu,0,j,_,hj=>by
  have:=hu u (by simp);simp only[List.flatMap_cons,Nat.zero_mul,Nat.zero_add,List.getD_cons_zero];rw[Zi (by simpa[this]using hj)]
 |u::us,hu,i+1,j,hi,hj=>by
  have h0:=hu u (by simp);simp only[List.flatMap_cons,List.getD_cons_succ];rw[Zk (by simp[h0,Nat.add_mul];omega)];have:(i+1)*size+j-u.cells.toList.length=i*size+j:=by simp[h0,Nat.add_mul];omega
  rw[this];exact Zji (fun x hx=>hu x (by simp[hx])) (by simpa using hi) hj
theorem Ziq (hs:Sim B S M s a w) {d:Nat} {t:TypeId} {len:Nat} {parts:List (Nat×PV)} {vparts:List (Nat×Value)} (hl:vparts.length=parts.length)
  (hp:∀i,i<parts.length→(vparts.getD i (0,undef)).1=(parts.getD i (0,.any)).1∧RepS S M s.m.q (vparts.getD i (0,undef)).2 (parts.getD i (0,.any)).2)
  (hok:(ZaW P d t len parts s.m).ok):Snd P B S s a w (Instr.buildSlice t len ⟨vparts⟩) (ZaW P d t len parts s.m):=by
 revert hok
 unfold ZaW;split
 ·rename_i ei hx
  rintro ⟨g1,g2,g3,g4⟩
  obtain⟨ti,z,h1,h2,h3,h4,h5,h6,h7,h8⟩:=ZaF hx;obtain⟨p1,p2⟩:=ZjH g4;subst g2
  -- the values of the parts
  have hus:∀i,i<parts.length→RepS S M s.m.q ((vparts.map (·.2)).getD i undef) (parts.getD i (0,.any)).2:=fun i hi=>by
   have:=(hp i hi).2;rw[getD_lt (by simp;omega)];rw[getD_lt (by omega)]at this;simpa using this
  have hcell:∀i,i<parts.length→ ∃ys:List Value,((vparts.map (·.2)).getD i undef).cells=⟨ys⟩∧ys.length=ei.size∧ ∀j,j<ei.size→Rep S (ys.getD j undef) ((parts.getD i (0,.any)).2.share.cells.getD j .any):=fun i hi=>by
   obtain⟨q1,q2,q3⟩:=p1 _ (Zg (d:=(0,PV.any)) hi);obtain⟨ys,e1,e2,e3⟩:=(hus i hi).cells_inv q2;refine⟨ys,e1,by omega,fun j hj=> ?_⟩;have hr:=e3 j (by omega);have hc:((parts.getD i (0,.any)).2.cells.getD j .any).clean=true:=by
    exact Zpb q1 (by omega)
   have:=hr.share hc;rw[ZjS,PV.shareL_getD _ j (by omega)];exact this
  have hsz:∀u∈vparts.map (·.2),u.cells.size=ei.size:=fun u hu=>by
   obtain⟨i,hi,rfl⟩:=List.getElem_of_mem hu;simp only[List.length_map]at hi;obtain⟨ys,e1,e2,_⟩:=hcell i (by omega);rw[getD_lt (by simpa using hi)]at e1;rw[e1];simp[e2]
  have hpairs:vparts=((vparts.map (·.2)).zipIdx 0).map fun x=>(x.2,x.1):=by
   apply List.ext_getElem
   ·simp
   ·intro i hi1 hi2;simp only[List.getElem_map,List.getElem_zipIdx,Nat.zero_add];have:=(hp i (by omega)).1;rw[getD_lt hi1,getD_lt (by omega)]at this;have hidx:(parts[i]'(by omega)).1=i:=by
     have e:=congrArg (fun l=>l[i]?) p2;simp only[List.getElem?_map]at e;rw[List.getElem?_eq_getElem (by omega),List.getElem?_eq_getElem (by simp;omega)]at e;simpa using e
    rw[hidx]at this;exact Prod.ext this rfl
  have hz0:∃zs:List Value,zs.length=parts.length*ei.size∧(Instr.buildSlice t parts.length ⟨vparts⟩).run P w= .ok (.slice (some ⟨w.heap.size,0,none⟩) parts.length parts.length) (w.alloc (.cells ⟨zs.take (0*ei.size)++(vparts.map (·.2)).flatMap fun u=>u.cells.toList⟩ ei.e)):=by
   have nolim:¬parts.length*ei.size>2 ^ 24:=by omega
   have hfill:∀zs:List Value,zs.length=parts.length*ei.size→Instr.fill (fun i=>some (i*ei.size,ei.size)) ⟨zs⟩ vparts=some ⟨zs.take (0*ei.size)++(vparts.map (·.2)).flatMap fun u=>u.cells.toList⟩:=fun zs hzs=>by
    have:=ZhD (size:=ei.size) (vparts.map (·.2)) 0 zs (by simp[hl,hzs]) hsz;rw[←hpairs]at this;exact this
   have e5:(sizeOf ei.e).run P w= .ok ei.size w:=by rw[Zau h2,h8]
   by_cases h0:parts.length*ei.size=0
   ·refine⟨[],by simp[h0],?_⟩;have hp0:parts= []:=by
     rcases Nat.mul_eq_zero.1 h0 with h|h
     ·exact List.eq_nil_of_length_eq_zero h
     ·omega
    subst hp0;have hv0:vparts= []:=List.eq_nil_of_length_eq_zero (by simpa using hl);subst hv0;simp[Instr.buildSlice,ZJ h1,e5,Instr.fill,newRow,newObj,Sem.run,World.alloc_eq];have er:Array.map (fun _:Nat=>(default:Value)) (Array.range 0)=⟨[]⟩:=by
     apply Array.ext';simp
    rw[er]
   ·refine⟨((List.range (parts.length*ei.size)).map fun x=>z.cells[x % z.cells.size]!),by simp,?_⟩;have hf:=hfill ((List.range (parts.length*ei.size)).map fun x=>z.cells[x % z.cells.size]!) (by simp);have hzr:(zeroValue ei.e).run P w= .ok z w:=by simp[zeroValue,Zgq h2,h3]
    simp only[Instr.buildSlice,Sem.run_bind,ZJ h1,Result.andThen_ok,e5,nolim,if_false,Sem.run_pure,h0,hzr];have:(Array.range (parts.length*ei.size)).map (fun x=>z.cells[x % z.cells.size]!)=⟨(List.range (parts.length*ei.size)).map fun x=>z.cells[x % z.cells.size]!⟩:=by
     apply Array.ext';simp
    simp only[this,hf];simp[newRow,newObj,Sem.run,World.alloc_eq]
  obtain⟨zs,_,hrun⟩:=hz0;simp only[Nat.zero_mul,List.take_zero,List.nil_append]at hrun;generalize hvs:(vparts.map (·.2)).flatMap (fun u=>u.cells.toList)=vs at hrun;have hvl:vs.length=parts.length*ei.size:=by
   rw[←hvs,List.length_flatMap];have:(List.map (fun u:Value=>u.cells.toList.length) (vparts.map (·.2)))=List.replicate parts.length ei.size:=by
    apply List.eq_replicate_iff.2;refine⟨by simp[hl],fun x hx=> ?_⟩;obtain⟨u,hu,rfl⟩:=List.mem_map.1 hx;simpa using hsz u hu
   rw[this];simp
  have hmax:parts.length≤maxLen:=by
   have:=Nat.le_mul_of_pos_right parts.length h7;simp only[maxLen];omega
  have hsim:=hs.newRow (d:=d) (n:=parts.length) (sz:=ei.size) (c:=parts.length) (e:=ei.e) (vs:=vs) (w':=w.alloc (.cells ⟨vs⟩ ei.e)) (.inl g1) (Nat.le_refl _) hmax hvl (fun k hk=>Z3 w _ hk) (Zae w _);have hle':SLe S (ZkJ S w.heap.size (parts.length*ei.size) vs):= .cells rfl fun b o v hv=>by
   rw[ZbB];rw[if_neg]
   ·exact hv
   ·rintro ⟨rfl,_⟩;rw[hs.S_lt (Nat.le_refl _)]at hv;cases hv
  have hrep:Rep (ZkJ S w.heap.size (parts.length*ei.size) vs) (.slice (some ⟨w.heap.size,0,none⟩) parts.length parts.length) (.sl .no (parts.map fun x=>x.2.share)):=by
   have:=Zfy (S:=ZkJ S w.heap.size (parts.length*ei.size) vs) (b:=w.heap.size) (cap:=parts.length) (es:=parts.map fun x=>x.2.share) (sz:=ei.size)
    (fun e he=>by
     obtain⟨x,hx',rfl⟩:=List.mem_map.1 he;rw[ZjS,PV.shareL_length];exact(p1 x hx').2.2) (by simp) (cells:=vs)
    (fun k hk=>by rw[ZbB,if_pos ⟨rfl,by simpa using hk⟩])
    (fun i j hi hj=>by
     simp only[List.length_map]at hi;obtain⟨ys,e1,e2,e3⟩:=hcell i hi;have hcells:vs.getD (i*ei.size+j) undef=ys.getD j undef:=by
      rw[←hvs,Zji hsz (by simpa[hl]using hi) hj,e1]
     rw[hcells];rw[getD_lt (l:=List.map _ parts) (by simpa using hi)];simp only[List.getElem_map];have:=e3 j hj;rw[getD_lt hi]at this;exact this.mono hle')
   simpa using this
  refine⟨_,_,_,_,hrun,hsim,?_,?_,hle',?_,?_⟩
  ·refine .row d _ _ hrep fun n' sz' e' hq=> ?_
   simp only[Hp.setq,Zb]at hq;cases hq;refine⟨by simp,fun _=>⟨fun h0=>by simp[Zb]at h0,fun c hc=> ?_⟩⟩;simp only[Zb,Nat.add_right_cancel_iff]at hc ⊢;rw[←hc]
  ·intro i hi;simp only[PV.ids,List.mem_singleton]at hi;subst hi;simp[ZS,Hp.setq,Hp.new,Zb]
  ·intro b hb;refine⟨fun o=> ?_,rfl⟩;rw[ZbB,if_neg]
   rintro ⟨rfl,_⟩
   exact hs.new_ok hb
  ·exact(BelowF.refl B w).alloc hs.hB _
 ·exact fun hok=>hok.elim
end
open Go.RowKit
def Zxt:Option PV→Option Int
 |none=>some 0
 |some (.int _ k)=>some k
 |_=>none
def Zxp (n:Nat):Option PV→Option Int
 |none=>some n
 |some (.int _ k)=>some k
 |_=>none
def cut {α:Type} (l:List α) (i j:Int):List α:=(l.drop i.toNat).take (j.toNat-i.toNat)
def ZgC (P:Program) (t:TypeId) (x:PV) (lo hi:Option PV) (m:Hp):ARes:=
 match tix P t,x with
 | .str,.str l=>match Zxt lo,Zxp l.length hi with
  |some i,some j=>⟨0≤i∧i≤j∧j≤l.length,.str (cut l i j),m⟩
  |_,_=> .fail
 | .slc esz _,.sl _ es=>match Zxt lo,Zxp es.length hi with
  |some i,some j=>⟨0≤i∧i≤j∧j≤es.length∧Sized esz es,.sl .no (cut es i j),m⟩
  |_,_=> .fail
 | .slc esz _,.osl id off len sz=>match Zxt lo,Zxp len hi with
  |some i,some j=>⟨0≤i∧i<j∧j≤len∧esz=sz,.osl id (off+i.toNat*sz) (j.toNat-i.toNat) sz,m⟩
  |_,_=> .fail
 | .arr n esz _,.ptr id off=>match Zxt lo,Zxp n hi with
  |some i,some j=>⟨0≤i∧i<j∧j≤n,.osl id (off+i.toNat*esz) (j.toNat-i.toNat) esz,m⟩
  |_,_=> .fail
 |_,_=> .fail
def Zb3 (P:Program) (d:Nat) (t:TypeId) (c:PV) (m:Hp):ARes:=
 match Zcg P t,c with
 |some ei,.int _ c=>⟨m.q d=none∧0≤c∧(ei.bytes:Int)*c≤281474976710656∧c≤9223372036854775807,.sl (.row d) [],m.setq d (.live 0 ei.size ei.e)⟩
 |_,_=> .fail
section
variable {P:Program} {B:Frm} {S:Stable} {M:Maps} {s:St} {a:Act} {w:World}
theorem Zns (l:List UInt8) (i j:Nat):(⟨⟨l⟩⟩:ByteArray).extract i j=⟨⟨(l.drop i).take (j-i)⟩⟩:=by
 apply ByteArray.ext;apply Array.ext';rw[Lib.extract_data]
theorem Zcb {isSlice:Bool} {len cap:Nat} {lo hi:Option Value} {plo phi:Option PV} {i j:Int} (hlo:∀v p,lo=some v→plo=some p→RepS S M s.m.q v p) (hhi:∀v p,hi=some v→phi=some p→RepS S M s.m.q v p)
  (hl1:lo.isSome=plo.isSome) (hl2:hi.isSome=phi.isSome) (h1:Zxt plo=some i) (h2:Zxp len phi=some j) (g1:0≤i) (g2:i≤j) (g3:j≤len) (hc:len≤cap):
  (Instr.sliceBounds isSlice len cap lo hi none).run P w= .ok (i.toNat,j.toNat,cap) w:=by
 have hj0:0≤j:=by omega
 have hjc:j≤cap:=by omega
 have hij:i≤(j.toNat:Int):=by omega
 have hh:∀code,(match hi,(none:Option Value)with
   |some v,some _=>Instr.sliceBound v cap .slice3B
   |some v,none=>Instr.sliceBound v cap code
   |none,none=>Pure.pure len
   |none,some _=>stuck "x").run P w= .ok j.toNat w:=by
  intro code;cases hi with
  |none=>
   cases phi with
   |none=>simp only[Zxp,Option.some.injEq]at h2;subst h2;simp
   |some p=>simp at hl2
  |some v=>
   cases phi with
   |none=>simp at hl2
   |some p=>
    have r:=hhi v p rfl rfl;cases p<;>simp[Zxp]at h2
    subst h2;rw[r.int_inv];simp[Instr.sliceBound,asIntOf,hj0,hjc]
 have hl:∀code,(match lo with
   |some v=>Instr.sliceBound v j.toNat code
   |none=>Pure.pure 0).run P w= .ok i.toNat w:=by
  intro code;cases lo with
  |none=>
   cases plo with
   |none=>simp only[Zxt,Option.some.injEq]at h1;subst h1;simp
   |some p=>simp at hl1
  |some v=>
   cases plo with
   |none=>simp at hl1
   |some p=>
    have r:=hlo v p rfl rfl;cases p<;>simp[Zxt]at h1
    subst h1;rw[r.int_inv];simp only[Instr.sliceBound,asIntOf,Sem.run_bind,Sem.run_pure,Result.andThen_ok];rw[if_pos ⟨g1,hij⟩];rfl
 unfold Instr.sliceBounds;cases hi with
 |none=>
  have e:=hh .sliceAlen;simp only at e;cases lo with
  |none=>have e':=hl .sliceB;simp only at e';simp only[Sem.run_bind,Sem.run_pure,Result.andThen_ok]at e e' ⊢;simp_all
  |some v=>have e':=hl .sliceB;simp only at e';simp only[Sem.run_bind,Sem.run_pure,Result.andThen_ok]at e e' ⊢;simp_all
 |some u=>
  have e1:=hh .sliceAlen;have e2:=hh .sliceAcap;simp only at e1 e2;cases lo with
  |none=>have e':=hl .sliceB;simp only at e';cases isSlice<;>simp only[Sem.run_bind,Sem.run_pure,Result.andThen_ok,Bool.false_eq_true,if_false,if_true,e1,e2]at e' ⊢ <;> simp_all
  |some v=>have e':=hl .sliceB;simp only at e';cases isSlice<;>simp only[Sem.run_bind,Sem.run_pure,Result.andThen_ok,Bool.false_eq_true,if_false,if_true,e1,e2]at e' ⊢ <;> simp_all
theorem ZpV (hs:Sim B S M s a w) {t:TypeId} {x:Value} {p:PV} {lo hi:Option Value} {plo phi:Option PV} (hx:RepS S M s.m.q x p) (hxi:∀i∈p.ids,ZS s.m i)
  (hlo:∀v p,lo=some v→plo=some p→RepS S M s.m.q v p) (hhi:∀v p,hi=some v→phi=some p→RepS S M s.m.q v p) (hl1:lo.isSome=plo.isSome) (hl2:hi.isSome=phi.isSome)
  (hok:(ZgC P t p plo phi s.m).ok):Snd P B S s a w (Instr.sliceAt t x lo hi none) (ZgC P t p plo phi s.m):=by
 revert hok
 unfold ZgC;split
 ·rename_i l heq;have h1:=ZmM heq;split
  ·rename_i i j e1 e2
   rintro ⟨g1,g2,g3⟩
   rw[hx.str_inv];have hb:=Zcb (P:=P) (w:=w) (isSlice:=false) (cap:=l.length) hlo hhi hl1 hl2 e1 e2 g1 g2 g3 (Nat.le_refl _);refine Snd.clean hs (v:= .string ⟨⟨cut l i j⟩⟩) ?_ (.str _);have hsz:(⟨⟨l⟩⟩:ByteArray).size=l.length:=rfl;simp[Instr.sliceAt,ZJ h1,Instr.slice,hsz,hb,Zns,cut]
  ·exact fun hok=>hok.elim
 ·rename_i esz ea tk es heq;obtain⟨e,d,ti,h1,rfl,rfl,h2,h3⟩:=ZfD heq;split
  ·rename_i i j e1 e2
   rintro ⟨g1,g2,g3,g4⟩
   have hr:=hx.sl_inv;obtain⟨ad,cap,rfl,hcap⟩:=hr.sl_len;have hb:=Zcb (P:=P) (w:=w) (isSlice:=true) (cap:=cap) hlo hhi hl1 hl2 e1 e2 g1 g2 g3 hcap;have hlen:(cut es i j).length=j.toNat-i.toNat:=by simp[cut];omega
   have hrun:(Instr.sliceAt t (.slice ad es.length cap) lo hi none).run P w= .ok (.slice (if cap=i.toNat then ad else ad.map (·.add (i.toNat*tsz P e))) (j.toNat-i.toNat) (cap-i.toNat)) w:=by
    simp[Instr.sliceAt,ZJ h1,Instr.slice,hb,Zau h3]
   refine Snd.clean hs hrun ?_
   by_cases h0:j.toNat-i.toNat=0
   ·have:cut es i j= []:=List.eq_nil_of_length_eq_zero (by omega);rw[this,h0];exact .sl0 _ _
   ·have hlt:i.toNat<es.length:=by omega
    obtain⟨b,o,cap',vals,ev,hcap',hu,hS,hR⟩:=hr.sl_at hlt;cases ev;have e0:(es.getD i.toNat .any).cells.length=tsz P e:=g4 _ (Zg hlt);rw[e0]at hS hR hu;rw[if_neg (by omega)];simp only[Option.map_some,ZaG];have gd:∀k,k<(cut es i j).length→(cut es i j).getD k .any=es.getD (i.toNat+k) .any:=fun k hk=>by
     unfold cut;rw[Zbp (by omega),ZbE]
    have:=Rep.sl (S:=S) b (o+i.toNat*tsz P e) (cap-i.toNat) (tsz P e) (cut es i j) (fun k l=>vals (i.toNat+k) l) (fun k hk=>by rw[gd k hk];exact hu _ (by omega)) (by omega)
     (fun k l hk hl=>by
      have:=hS (i.toNat+k) l (by omega) hl;rw[Nat.add_mul]at this;rw[←this];congr 1;omega)
     (fun k l hk hl=>by rw[gd k hk];exact hR _ _ (by omega) hl)
    rw[hlen]at this;exact this
  ·exact fun hok=>hok.elim
 ·rename_i esz ea id off len sz heq;obtain⟨e,d,ti,h1,rfl,rfl,h2,h3⟩:=ZfD heq;split
  ·rename_i i j e1 e2
   rintro ⟨g1,g2,g3,rfl⟩
   obtain⟨cap,hcap,rfl⟩:=hx.osl_inv;have hb:=Zcb (P:=P) (w:=w) (isSlice:=true) (cap:=cap) hlo hhi hl1 hl2 e1 e2 g1 (by omega) g3 hcap;refine Snd.pure hs (v:= .slice (some ⟨M.φ id,off+i.toNat*tsz P e,none⟩) (j.toNat-i.toNat) (cap-i.toNat)) ?_ (.osl _ _ _ _ _ (by omega)) (by simpa[PV.ids]using hxi);have hne:¬cap=i.toNat:=by omega
   simp[Instr.sliceAt,ZJ h1,Instr.slice,hb,Zau h3,hne,ZaG]
  ·exact fun hok=>hok.elim
 ·rename_i n esz ea id off heq;obtain⟨e,d,ti,h1,rfl,rfl,h2,h3⟩:=Zj0 heq;split
  ·rename_i i j e1 e2
   rintro ⟨g1,g2,g3⟩
   rw[hx.ptr_inv];have hb:=Zcb (P:=P) (w:=w) (isSlice:=false) (cap:=n) hlo hhi hl1 hl2 e1 e2 g1 (by omega) g3 (Nat.le_refl _);refine Snd.pure hs (v:= .slice (some ⟨M.φ id,off+i.toNat*tsz P e,none⟩) (j.toNat-i.toNat) (n-i.toNat)) ?_ (.osl _ _ _ _ _ (by omega)) (by simpa[PV.ids]using hxi);have hne:¬n=i.toNat:=by omega
   simp[Instr.sliceAt,ZJ h1,Instr.sureAddr,hb,Zau h3,hne,ZaG]
  ·exact fun hok=>hok.elim
 ·exact fun hok=>hok.elim
theorem ZmD (hs:Sim B S M s a w) {d:Nat} {t:TypeId} {k:IntKind} {c:Value} {p:PV} (hc:RepS S M s.m.q c p)
  (hok:(Zb3 P d t p s.m).ok):Snd P B S s a w (Instr.makeSlice t (.int k 0) c) (Zb3 P d t p s.m):=by
 revert hok
 unfold Zb3;split
 ·rename_i ei kc n hx
  rintro ⟨g1,g2,g3,g4⟩
  obtain⟨ti,z,h1,h2,h3,h4,h5,h6,h7,h8⟩:=ZaF hx;rw[hc.int_inv];have hrun:=run_make (P:=P) w t ei.e ti z h1 h2 h3 k kc 0 n (Int.le_refl _) g2 (by rw[h6];exact g3) g4;have hm:madeCells z.cells (n.toNat*ti.size)=⟨(madeCells z.cells (n.toNat*ti.size)).toList⟩:=rfl;have hl:(madeCells z.cells (n.toNat*ti.size)).toList.length=n.toNat*ei.size:=by rw[Array.length_toList,size_madeCells,h5]
  have hsim:=hs.newRow (d:=d) (n:=0) (sz:=ei.size) (c:=n.toNat) (e:=ei.e) (w':=w.alloc (.cells (madeCells z.cells (n.toNat*ti.size)) ei.e)) (.inl g1) (Nat.zero_le _) (by simp only[maxLen];omega) hl (fun k hk=>Z3 w _ hk) (Zae w _);have hS:ZkJ S w.heap.size (0*ei.size) (madeCells z.cells (n.toNat*ti.size)).toList=S:=by
   unfold ZkJ;congr 1;funext b o;rw[if_neg (by simp)]
  rw[hS]at hsim;refine⟨_,_,S,_,hrun,hsim,?_,?_,hs.ext_alloc _⟩
  ·refine .row d _ [] (.sl0 _ _) fun n' sz' e' hq=> ?_
   simp only[Hp.setq,Zb]at hq;cases hq;refine⟨Nat.le_refl _,fun _=>⟨fun h0=>by simp[Zb]at h0,fun c hc=> ?_⟩⟩;simp only[Zb,Nat.add_right_cancel_iff]at hc ⊢;rw[←hc];rfl
  ·intro i hi;simp only[PV.ids,List.mem_singleton]at hi;subst hi;simp[ZS,Hp.setq,Hp.new,Zb]
 ·exact fun hok=>hok.elim
def aMakeFull (P:Program) (d:Nat) (t:TypeId) (l c:PV) (m:Hp):ARes:=
 match Zcg P t,l,c with
 |some ei,.int _ n,.int _ n'=>match tz P ei.e with
  |some z=>⟨m.q d=none∧n=n'∧0≤n∧(ei.bytes:Int)*n≤281474976710656∧n≤1000000∧z.cells.length=ei.size,.sl (.row d) (List.replicate n.toNat z),m.setq d (.live n.toNat ei.size ei.e)⟩
  |none=> .fail
 |_,_,_=> .fail
where
 tz (P:Program) (e:TypeId):Option PV:=match P.info? e with
  |some i=>match i.zero with
   |some z=>if(ZbI z).known then some (ZbI z)else none
   |none=>none
  |none=>none
 tbdz (P:Program) (e:TypeId):Option (List PV):=match P.info? e with
  |some i=>match i.zero with
   |some z=>if(ZbI z).known then some (ZbI z).cells else none
   |none=>none
  |none=>none
end
open Go.RowKit
section
variable {P:Program} {B:Frm} {S:Stable} {M:Maps} {s:St} {a:Act} {w:World}
theorem Ziy {cs:List PV} (h:PV.idsL cs= []) {i:Nat} (hi:i<cs.length):(cs.getD i .any).ids= []:=by
 have hm:=Zg (d:=PV.any) hi;apply List.eq_nil_iff_forall_not_mem.2;intro r hr;have:=PV.mem_idsL.2 ⟨_,hm,hr⟩;rw[h]at this;cases this
theorem RepS.alone {q:Rows} {v:Value} {p:PV} (r:RepS S M q v p) (h:p.ids= []):Rep S v p:=by
 induction r with
 |clean r=>exact r
 |ptr id off=>simp[PV.ids]at h
 |osl id off len cap sz hc=>simp[PV.ids]at h
 |vsl id len sz v hv t=>simp[PV.ids]at h
 |vptr id n sz i off v hv hi t=>simp[PV.ids]at h
 |row id v es r _=>simp[PV.ids]at h
 |agg vs cs hl _ ih=>exact .agg vs cs hl (fun i hi=>ih i hi (Ziy h hi))
 |tup vs cs hl _ ih=>exact .tup vs cs hl (fun i hi=>ih i hi (Ziy h hi))
 |fn f vs cs hl _ ih=>exact .fn f vs cs hl (fun i hi=>ih i hi (Ziy h hi))
theorem Sim.freeze (hs:Sim B S M s a w) {id:Nat} {cs:List PV} (hid:s.m.h id=some cs) (hp:PV.idsL cs= []):
  ∃S',Sim B S' M (s.with (s.m.freeze id)) a w∧Ext B S S' w w:=by
 cases hz:s.m.z id with
 |true=>
  have e:s.m.freeze id=s.m:=by
   have:upd s.m.z id true=s.m.z:=by
    funext k;by_cases e:id=k
    ·subst e;simp[upd,hz]
    ·simp[upd,e]
   unfold Hp.freeze;rw[this]
  exact⟨S,by rw[e];exact hs,Ext.refl _ _ _⟩
 |false=>
  obtain⟨h1,h2,⟨vs,t,h3,h4,h5⟩,h6⟩:=hs.own hid hz;have hle:SLe S (ZkJ S (M.φ id) vs.length vs):= .cells rfl fun b o v hv=>by
   rw[ZbB];rw[if_neg]
   ·exact hv
   ·rintro ⟨rfl,_⟩;rw[h2 o]at hv;cases hv
  have rep:∀ {v p},RepS S M s.m.q v p→RepS (ZkJ S (M.φ id) vs.length vs) M s.m.q v p:=fun r=>r.heap hle (fun _ _=>rfl) (fun _ _=> .refl _ _ _)
  have e4:∀i,i≠id→(s.m.freeze id).z i=s.m.z i:=fun i h=>Zm _ _ (Ne.symm h)
  have n2:(s.m.freeze id).z id=true:=Zb _ _ _;have other:∀ {b o},b≠M.φ id→ZkJ S (M.φ id) vs.length vs b o=S b o:=fun {b o} h=>by
   rw[ZbB,if_neg (fun hh=>h hh.1)]
  refine⟨ZkJ S (M.φ id) vs.length vs,⟨hs.defers,hs.hn,hs.hB,hs.stable.move hle (fun b c hc=>(hs.stable.o b c hc).2.1) ⟨fun b o v hv=> ?_,hs.stable.s.m⟩ (fun _ _ _=>rfl) (fun _ _ _=>rfl),fun i=>rep (hs.fr i),hs.ids,fun i ds hd=> ?_,fun i r hr=> ?_,?_,hs.injq,?_,fun b c hc=> ?_,fun i es he=> ?_,⟨hs.pn.h,hs.pn.q⟩⟩,hle,?_,BelowF.refl _ _⟩
  ·rw[ZbB]at hv;split at hv
   ·rename_i hb;obtain⟨rfl,ho⟩:=hb;rw[Zbx h3,List.getElem?_eq_getElem ho,←hv,getD_lt ho]
   ·exact hs.stable b o v hv
  ·simp only[St.with]at hd ⊢
   by_cases e:i=id
   ·subst e;rw[n2];have:ds=cs:=by
     have hd':s.m.h i=some ds:=hd;rw[hid]at hd';exact(Option.some.inj hd').symm
    subst this;refine⟨fun j=>vs.getD j undef,fun j hj=>⟨?_,?_⟩⟩
    ·rw[ZbB,if_pos ⟨rfl,by omega⟩]
    ·exact((h5 j hj).alone (Ziy hp hj)).mono hle
   ·rw[e4 i e];have hb':=hs.blk i ds hd;cases hzi:s.m.z i with
    |false=>
     rw[hzi]at hb';obtain⟨g1,g2,⟨us,t',g3,g4,g5⟩,g6⟩:=hb';have hne:=hs.inj i id _ _ hd hid hzi hz e;exact⟨g1,fun o=>by rw[other hne];exact g2 o,⟨us,t',g3,g4,fun k hk=>rep (g5 k hk)⟩,g6⟩
    |true=>
     rw[hzi]at hb';obtain⟨vals,hv⟩:=hb';exact⟨vals,fun j hj=>⟨hle _ _ _ (hv j hj).1,(hv j hj).2.mono hle⟩⟩
  ·have hr':=hs.row i r hr;cases r with
   |live n sz et=>
    obtain⟨g1,g2⟩:=hr';refine⟨g1,fun c hk=> ?_⟩;obtain⟨k0,k0',k1,⟨us,k2,k3⟩,k4⟩:=g2 c hk;have hne:=hs.injx id i _ _ hid hz hr rfl (by omega);exact⟨k0,k0',k1,⟨us,k2,k3⟩,fun o ho=>by rw[other (Ne.symm hne)];exact k4 o ho⟩
   |vec n sz et=>
    obtain⟨g1,g2⟩:=hr';refine⟨g1,fun c hk=> ?_⟩;obtain⟨k0,k0',k1,⟨us,k2,k3⟩,k4⟩:=g2 c hk;have hne:=hs.injx id i _ _ hid hz hr rfl (by omega);exact⟨k0,k0',k1,⟨us,k2,k3⟩,fun o=>by rw[other (Ne.symm hne)];exact k4 o⟩
   |dead=>trivial
  ·intro i k b b' hbi hbk zi zk hik;simp only[St.with]at zi zk;have hi':i≠id:=fun e=>by subst e;rw[n2]at zi;cases zi
   have hk':k≠id:=fun e=>by subst e;rw[n2]at zk;cases zk
   rw[e4 i hi']at zi;rw[e4 k hk']at zk;exact hs.inj i k _ _ hbi hbk zi zk hik
  ·intro i k b r hbi zi hq ho hk;simp only[St.with]at zi;have hi':i≠id:=fun e=>by subst e;rw[n2]at zi;cases zi
   rw[e4 i hi']at zi;exact hs.injx i k _ _ hbi zi hq ho hk
  ·obtain⟨g1,g2,g3,g4⟩:=hs.rm b c hc;exact⟨g1,g2,g3,g4.move hle rfl (fun v p r _=>rep r) (fun _ h=>h)⟩
  ·exact(hs.vc i es he).move (fun _ _ _ h=>h) rfl rfl (fun _=>rfl) (fun v p r _=>rep r) (fun _ h=>h)
  ·intro b hb;exact⟨fun o=>other (fun e=>h1 (e▸hb)),rfl⟩
def frozenBy (m:Hp):List PV→Hp
 | []=>m
 | .ptr id _::cs=>frozenBy (m.freeze id) cs
 |_::cs=>frozenBy m cs
def Zd7 (m:Hp):List PV→Prop
 | []=>True
 | .ptr id _::cs=>(match m.h id with|some ds=>PV.idsL ds= []|none=>False)∧Zd7 m cs
 |c::cs=>c.ids= []∧Zd7 m cs
theorem ZgF {m:Hp} (d:Nat):∀ {cs:List PV},Zd7 m cs→Zd7 (m.freeze d) cs
 | [],_=>trivial
 |c::cs,h=>by
  cases c<;>exact⟨h.1,ZgF d h.2⟩
theorem Sim.frozenBy (hs:Sim B S M s a w):∀(cs:List PV),Zd7 s.m cs→ ∃S',Sim B S' M (s.with (frozenBy s.m cs)) a w∧Ext B S S' w w:=by
 intro cs
 induction cs generalizing s S with
 |nil=>intro _;exact⟨S,hs,Ext.refl _ _ _⟩
 |cons c cs ih=>
  intro hok;have skip:∀m',PL.frozenBy s.m (c::cs)=PL.frozenBy m' cs→(∃S1,Sim B S1 M (s.with m') a w∧Ext B S S1 w w)→Zd7 m' cs→ ∃S',Sim B S' M (s.with (PL.frozenBy s.m (c::cs))) a w∧Ext B S S' w w:=by
   intro m' e h1 h2;obtain⟨S1,hs1,he1⟩:=h1;obtain⟨S2,hs2,he2⟩:=ih hs1 h2;refine⟨S2,?_,he1.trans he2⟩;rw[e];exact hs2
  cases c with
  |ptr id off=>
   obtain⟨h1,h2⟩:=hok;cases hid:s.m.h id with
   |none=>rw[hid]at h1;exact h1.elim
   |some ds=>
    rw[hid]at h1;exact skip (s.m.freeze id) rfl (hs.freeze hid h1) (ZgF id h2)
  |_=>exact skip s.m rfl ⟨S,hs,Ext.refl _ _ _⟩ hok.2
theorem Zcn (m:Hp):∀cs,(frozenBy m cs).h=m.h
 | []=>rfl
 |c::cs=>by
  cases c<;>first|exact Zcn m cs|exact Zcn (m.freeze _) cs
theorem ZbW (m:Hp):∀cs,(frozenBy m cs).q=m.q
 | []=>rfl
 |c::cs=>by
  cases c<;>first|exact ZbW m cs|exact ZbW (m.freeze _) cs
mutual
def PV.give (m:Hp):PV→PV
 | .sl _ es=> .sl .no es
 | .ptr id off=>match m.z id,m.h id with
  |true,some cs=> .rptr (cs.drop off)
  |_,_=> .ptr id off
 | .agg cs=> .agg (PV.giveL m cs)
 | .tup cs=> .tup (PV.giveL m cs)
 | .fn f cs=> .fn f (PV.giveL m cs)
 |p=>p
def PV.giveL (m:Hp):List PV→List PV
 | []=> []
 |c::cs=>PV.give m c::PV.giveL m cs
end
mutual
def PV.givable (m:Hp):PV→Prop
 | .ptr id _=>m.z id=true∧m.h id≠none
 | .osl _ _ _ _=>False
 | .vsl _ _ _=>False
 | .vptr _ _ _ _ _=>False
 | .agg cs=>PV.givableL m cs
 | .tup cs=>PV.givableL m cs
 | .fn _ cs=>PV.givableL m cs
 |_=>True
def PV.givableL (m:Hp):List PV→Prop
 | []=>True
 |c::cs=>PV.givable m c∧PV.givableL m cs
end
theorem PV.giveL_length (m:Hp):∀(cs:List PV),(PV.giveL m cs).length=cs.length
 | []=>rfl
 |c::cs=>by simp[PV.giveL,PV.giveL_length m cs]
theorem PV.giveL_getD (m:Hp):∀(cs:List PV) (i:Nat),i<cs.length→(PV.giveL m cs).getD i .any=(cs.getD i .any).give m
 | [],i,h=>by simp at h
 |c::cs,0,_=>by simp[PV.giveL]
 |c::cs,i+1,h=>by simpa[PV.giveL]using PV.giveL_getD m cs i (by simpa using h)
theorem PV.givableL_getD {m:Hp}:∀ {cs:List PV} (h:PV.givableL m cs) (i:Nat),i<cs.length→(cs.getD i .any).givable m
 | [],_,i,h=>by simp at h
 |c::cs,hc,0,_=>by simpa using hc.1
 |c::cs,hc,i+1,h=>by simpa using PV.givableL_getD hc.2 i (by simpa using h)
theorem Rep.give (m:Hp) {v:Value} {p:PV} (r:Rep S v p):Rep S v (p.give m):=by
 induction r with
 |agg vs cs hl _ ih=>exact .agg vs _ (by rw[PV.giveL_length];exact hl) (fun i hi=>by rw[PV.giveL_length]at hi;rw[PV.giveL_getD m cs i hi];exact ih i hi)
 |tup vs cs hl _ ih=>exact .tup vs _ (by rw[PV.giveL_length];exact hl) (fun i hi=>by rw[PV.giveL_length]at hi;rw[PV.giveL_getD m cs i hi];exact ih i hi)
 |fn f vs cs hl _ ih=>exact .fn f vs _ (by rw[PV.giveL_length];exact hl) (fun i hi=>by rw[PV.giveL_length]at hi;rw[PV.giveL_getD m cs i hi];exact ih i hi)
 |any v=>exact .any v
 |int k n=>exact .int k n
 |bool b=>exact .bool b
 |str l=>exact .str l
 |flt k b=>exact .flt k b
 |cpx k a b=>exact .cpx k a b
 |sl0 a cap=>exact .sl0 a cap
 |slnil=>exact .sl0 none 0
 |sl b o cap sz es vals h1 h2 h3 h4 _=>exact .sl b o cap sz es vals h1 h2 h3 h4
 |rptr b o cs vals h1 h2 _=>exact .rptr b o cs vals h1 h2
 |nilp=>exact .nilp
 |nilfn=>exact .nilfn
 |nilmap=>exact .nilmap
 |mref b=>exact .mref b
 |iptr b=>exact .iptr b
 |rmap b es ks vs h1 h2 h3 h4 h5 h6 _ _=>exact .rmap b es ks vs h1 h2 h3 h4 h5 h6
theorem RepS.give (hs:Sim B S M s a w) {v:Value} {p:PV} (r:RepS S M s.m.q v p) (h:p.givable s.m):Rep S v (p.give s.m):=by
 induction r with
 |clean r=>exact r.give s.m
 |ptr id off=>
  obtain⟨h1,h2⟩:=h;cases hid:s.m.h id with
  |none=>exact absurd hid h2
  |some cs=>
   have hb:=hs.blk id cs hid;rw[h1]at hb;obtain⟨vals,hv⟩:=hb;simp only[PV.give,h1,hid];refine .rptr (M.φ id) off _ (fun j=>vals (off+j)) (fun j hj=> ?_) (fun j hj=> ?_)
   ·simp only[List.length_drop]at hj;exact(hv (off+j) (by omega)).1
   ·simp only[List.length_drop]at hj;rw[ZbE];exact(hv (off+j) (by omega)).2
 |osl id off len cap sz hc=>exact h.elim
 |vsl id len sz v hv t=>exact h.elim
 |vptr id n sz i off v hv hi t=>exact h.elim
 |row id v es r _=>exact r
 |agg vs cs hl _ ih=>exact .agg vs _ (by rw[PV.giveL_length];exact hl) (fun i hi=>by rw[PV.giveL_length]at hi;rw[PV.giveL_getD s.m cs i hi];exact ih i hi (PV.givableL_getD h i hi))
 |tup vs cs hl _ ih=>exact .tup vs _ (by rw[PV.giveL_length];exact hl) (fun i hi=>by rw[PV.giveL_length]at hi;rw[PV.giveL_getD s.m cs i hi];exact ih i hi (PV.givableL_getD h i hi))
 |fn f vs cs hl _ ih=>exact .fn f vs _ (by rw[PV.giveL_length];exact hl) (fun i hi=>by rw[PV.giveL_length]at hi;rw[PV.giveL_getD s.m cs i hi];exact ih i hi (PV.givableL_getD h i hi))
theorem Zkk (hs:Sim B S M s a w) {d:Nat} {t:TypeId} {l c:Value} {pl pc:PV} (hl:RepS S M s.m.q l pl) (hc:RepS S M s.m.q c pc)
  (hok:(aMakeFull P d t pl pc s.m).ok):Snd P B S s a w (Instr.makeSlice t l c) (aMakeFull P d t pl pc s.m):=by
 revert hok
 unfold aMakeFull;split
 ·rename_i ei kl n kc m hx;split
  ·rename_i z hz
   rintro ⟨g1,rfl,g2,g3,g4,g5⟩
   obtain⟨ti,zv,h1,h2,h3,h4,h5,h6,h7,h8⟩:=ZaF hx;rw[hl.int_inv,hc.int_inv];have hrun:=run_make (P:=P) w t ei.e ti zv h1 h2 h3 kl kc n n g2 (Int.le_refl _) (by rw[h6];exact g3) (by omega);unfold aMakeFull.tz at hz;rw[h2]at hz;simp only[h3]at hz;split at hz
   ·rename_i hk;cases hz;have hlen:(madeCells zv.cells (n.toNat*ti.size)).toList.length=n.toNat*ei.size:=by rw[Array.length_toList,size_madeCells,h5]
    have hsim:=hs.newRow (d:=d) (n:=n.toNat) (sz:=ei.size) (c:=n.toNat) (e:=ei.e) (w':=w.alloc (.cells (madeCells zv.cells (n.toNat*ti.size)) ei.e)) (.inl g1) (Nat.le_refl _) (by simp only[maxLen];omega) hlen (fun k hk=>Z3 w _ hk) (Zae w _);generalize hvs:(madeCells zv.cells (n.toNat*ti.size)).toList=vs at hsim hlen;generalize hS':ZkJ S w.heap.size (n.toNat*ei.size) vs=S' at hsim;have hSle:SLe S S':=by
     rw[←hS'];refine .cells rfl fun b o v hv=> ?_
     rw[ZbB,if_neg]
     ·exact hv
     ·rintro ⟨rfl,_⟩;rw[hs.S_lt (Nat.le_refl _)]at hv;cases hv
    obtain⟨zs,e1,e2,e3⟩:=(RepS.clean (S:=S') (M:=M) (q:=s.m.q) (ZcH S' zv)).cells_inv hk;have hzl:zv.cells.size=ei.size:=h4;have hget:∀i j,i<n.toNat→j<ei.size→vs.getD (i*ei.size+j) undef=zv.cells.toList.getD j undef:=fun i j hi hj=>by
     have hlt:i*ei.size+j<n.toNat*ei.size:=by
      have:(i+1)*ei.size≤n.toNat*ei.size:=Nat.mul_le_mul_right _ hi;rw[Nat.add_mul]at this;omega
     rw[←hvs,getD_lt (by rw[Array.length_toList,size_madeCells,h5];exact hlt),getD_lt (by rw[Array.length_toList,hzl];exact hj)];simp only[madeCells,Array.getElem_toList,Array.getElem_map,Array.getElem_range,hzl];rw[Nat.add_comm,Nat.add_mul_mod_self_right,Nat.mod_eq_of_lt hj,getElem!_pos]
    refine⟨_,_,S',_,hrun,hsim,?_,?_,hSle,fun b hb=>⟨fun o=> ?_,by rw[←hS'];rfl⟩,(hs.ext_alloc _).2.2⟩
    ·refine .row d _ _ ?_ fun n' sz' e' hq=> ?_
     ·have hr:=Rep.sl (S:=S') w.heap.size 0 n.toNat ei.size (List.replicate n.toNat (ZbI zv)) (fun i j=>vs.getD (i*ei.size+j) undef) (fun i hi=>by
       rw[List.length_replicate]at hi;rw[getD_lt (by rw[List.length_replicate];exact hi),List.getElem_replicate];exact g5) (by rw[List.length_replicate];exact Nat.le_refl _) (fun i j hi hj=>by
       rw[List.length_replicate]at hi;have hlt:i*ei.size+j<n.toNat*ei.size:=by
        have:(i+1)*ei.size≤n.toNat*ei.size:=Nat.mul_le_mul_right _ hi;rw[Nat.add_mul]at this;omega
       rw[←hS',ZbB,if_pos ⟨rfl,by omega⟩];simp) (fun i j hi hj=>by
       rw[List.length_replicate]at hi;rw[show(List.replicate n.toNat (ZbI zv)).getD i .any=ZbI zv by rw[getD_lt (by rw[List.length_replicate];exact hi),List.getElem_replicate]];rw[hget i j hi hj,show zv.cells.toList=zs by rw[e1]];have hj':j<(ZbI zv).cells.length:=by rw[g5];exact hj
       refine(e3 j hj').alone (List.eq_nil_iff_forall_not_mem.2 fun r hr=> ?_);have:=Zav (Zg (d:=PV.any) hj') hr;rw[Zdn]at this;cases this)
      rw[List.length_replicate]at hr;exact hr
     ·simp only[Hp.setq,Zb]at hq;cases hq;refine⟨by rw[List.length_replicate];exact Nat.le_refl _,fun _=>⟨fun h0=>by simp[Zb]at h0,fun c hc=> ?_⟩⟩;simp only[Zb,Nat.add_right_cancel_iff]at hc ⊢;rw[←hc]
    ·intro i hi;simp only[PV.ids,List.mem_singleton]at hi;subst hi;simp[ZS,Hp.setq,Zb]
    ·rw[←hS',ZbB,if_neg]
     rintro ⟨rfl,_⟩
     have:=hs.hB _ hb;omega
   ·cases hz
  ·exact fun hok=>hok.elim
 ·exact fun hok=>hok.elim
end
open Go.RowKit
section
variable {P:Program} {B:Frm} {S:Stable} {M:Maps} {s:St} {a:Act} {w:World}
theorem Sim.pokeVec (hs:Sim B S M s a w) {id c n sz:Nat} {e:TypeId} (hq:s.m.q id=some (.vec n sz e)) (hv:s.m.v id=none) (hκ:M.κ id=c+1) {vs':List Value} (hl:vs'.length=c*sz):
  Sim B S M s a (w.setRow (M.ψ id) ⟨vs'⟩)∧Ext B S S w (w.setRow (M.ψ id) ⟨vs'⟩)∧(w.setRow (M.ψ id) ⟨vs'⟩).heap[M.ψ id]? = some (.cells ⟨vs'⟩ e (0,0)):=by
 obtain⟨r3,r4⟩:=hs.row id _ hq;obtain⟨k1,k2,k3,⟨vs,k5,k6⟩,k4⟩:=r4 c hκ;have hnew:=ZfZ (c':=⟨vs'⟩) k5;have hold:∀k,k≠M.ψ id→(w.setRow (M.ψ id) ⟨vs'⟩).heap[k]? = w.heap[k]? :=fun k hk=>Zc9 hk
 have hsz:=Zdu w (M.ψ id) ⟨vs'⟩;refine⟨⟨hs.defers,hs.hn,by rw[hsz];exact hs.hB,hs.stable.setRow k5 k4,hs.fr,hs.ids,fun i b hb=> ?_,fun i r hri=> ?_,hs.inj,hs.injq,hs.injx,fun b d hd=> ?_,fun i es1 he=> ?_,hs.pn⟩,⟨SLe.refl _,fun _ _=>⟨fun _=>rfl,rfl⟩,ZdB k3⟩,hnew⟩
 ·have hb':=hs.blk i b hb;cases hz:s.m.z i with
  |true=>rw[hz]at hb';exact hb'
  |false=>
   rw[hz]at hb';obtain⟨g1,g2,⟨us,t',g3,g4,g5⟩,g6⟩:=hb';exact⟨g1,g2,⟨us,t',by rw[hold _ (hs.injx i id _ _ hb hz hq rfl (by omega))];exact g3,g4,g5⟩,g6⟩
 ·have hr':=hs.row i r hri;cases r with
  |live n sz1 e1=>
   obtain⟨g1,g2⟩:=hr';refine⟨g1,fun c' hc'=> ?_⟩;obtain⟨p1,p2,p3,⟨us,p4,p5⟩,p6⟩:=g2 c' hc';have hne:M.ψ i≠M.ψ id:=hs.injq i id _ _ hri hq rfl rfl (by omega) (by omega) (fun e=>by subst e;rw[hq]at hri;cases hri);exact⟨p1,p2,p3,⟨us,by rw[hold _ hne];exact p4,p5⟩,p6⟩
  |vec n sz1 e1=>
   obtain⟨g1,g2⟩:=hr';refine⟨g1,fun c' hc'=> ?_⟩;obtain⟨p1,p2,p3,⟨us,p4,p5⟩,p6⟩:=g2 c' hc'
   by_cases ei:i=id
   ·subst ei;rw[hq]at hri;cases hri;have:c'=c:=by omega
    subst this;exact⟨p1,p2,p3,⟨vs',hnew,hl⟩,p6⟩
   ·exact⟨p1,p2,p3,⟨us,by rw[hold _ (hs.injq i id _ _ hri hq rfl rfl (by omega) (by omega) ei)];exact p4,p5⟩,p6⟩
  |dead=>trivial
 ·obtain⟨g1,g2,g3,g4⟩:=hs.rm b d hd;refine⟨g1,g2,g3,g4.move (SLe.refl _) (hold b fun ee=> ?_) (fun v p r _=>r) (fun _ h=>h)⟩;obtain⟨⟨es,k1,_⟩,_⟩:=g4;subst ee;rw[k5]at k1;cases k1
 ·have ei:i≠id:=fun e=>by subst e;rw[hv]at he;cases he
  obtain⟨sz1,e1,q1⟩:=hs.vec_q he;exact(hs.vc i es1 he).move (fun _ _ _ h=>h) rfl rfl (fun hk=>hold _ (hs.injq i id _ _ q1 hq rfl rfl hk (by omega) ei)) (fun v p r _=>r) (fun _ h=>h)
theorem Sim.relen (hs:Sim B S M s a w) {id n n' sz:Nat} {e:TypeId} (hq:s.m.q id=some (.vec n sz e)) (hv:s.m.v id=none) (h1:n≤n') (h2:∀c,M.κ id=c+1→n'≤c) (h3:M.κ id=0→n'=0):
  Sim B S M (s.with (s.m.setq id (.vec n' sz e))) a w:=by
 obtain⟨r3,r4⟩:=hs.row id _ hq;have h:=hs.layRow (d:=id) (ψ:=M.ψ id) (κ:=M.κ id) (r:= .vec n' sz e) (.inr ?_) ?_ hv (fun i r' hi hq' oi ki _ k0=>hs.injq i id _ _ hq' hq oi rfl ki k0 hi) (fun i cs hi zi _ k0=>hs.injx i id cs _ hi zi hq rfl k0)
 ·rwa[ZbO,ZbO]at h
 ·rw[hq];refine⟨(by intro _ _ _ h;cases h),fun n1 sz1 e1 h=> ?_⟩;cases h
  by_cases hn:n=n'
  ·subst hn;exact .inl ⟨e,rfl,by simp[Zb],by simp[Zb]⟩
  ·exact .inr ⟨n,sz,e,rfl,by omega⟩
 ·rw[ZbO,ZbO];refine⟨h3,fun c hc=> ?_⟩;obtain⟨g1,g2⟩:=r4 c hc;exact⟨h2 c hc,g2⟩
theorem Sim.newVec (hs:Sim B S M s a w) {d:Nat} {n sz c:Nat} {e:TypeId} {vs:List Value} {es:List PV} {w':World}
  (hd:s.m.q d=none∨ ∃n0 sz0 e0,s.m.q d=some (.vec n0 sz0 e0)∧n0<n) (hes:es.length=n) (hn:n≤c) (hc:c≤maxLen) (hl:vs.length=c*sz)
  (hw:∀k,k<w.heap.size→w'.heap[k]? = w.heap[k]?) (hnew:w'.heap[w.heap.size]? = some (.cells ⟨vs⟩ e (0,0)))
  (h1:∀p∈es,p.cells.length=sz∧p.cells.all PV.atom=true) (hi:∀p∈es,∀i∈p.ids,ZS s.m i∧i≠ .r d)
  (hr:∀i j,i<es.length→j<sz→RepS S M s.m.q (vs.getD (i*sz+j) undef) ((es.getD i .any).cells.getD j .any)):
  Sim B S { M with ψ:=upd M.ψ d w.heap.size,κ:=upd M.κ d (c+1) } (s.with { s.m.setq d (.vec n sz e)with v:=upd s.m.v d (some es) }) a w':=by
 subst hes;have hlt:w.heap.size<w'.heap.size:=(Array.getElem?_eq_some_iff.1 hnew).1;have g:=hs.grow (S':=S) (w':=w') (SLe.refl S) (fun _ _=>⟨fun _=>rfl,rfl⟩) (hs.stable.s.old hw) hw (by omega);have g1:=g.forget d;have q1:(s.with { s.m with v:=upd s.m.v d none }).m.q d=none∨RowLe M { M with ψ:=upd M.ψ d w.heap.size,κ:=upd M.κ d (c+1) } d (s.m.q d) (some (.vec es.length sz e)):=
  hd.imp (fun h=>h) fun⟨n0,sz0,e0,h1,h2⟩=>⟨(by intro _ _ _ h;cases h),(by intro n' sz' e' h;cases h;exact .inr ⟨n0,sz0,e0,h1,h2⟩)⟩
 have g2:=g1.layRow (ψ:=w.heap.size) (κ:=c+1) (r:= .vec es.length sz e) q1 ⟨fun h0=>by simp[Zb]at h0,fun c' hc'=>by
   simp only[Zb,Nat.add_right_cancel_iff]at hc';subst hc';exact⟨hn,hc,by simp only[Zb];exact hs.new_ok,⟨vs,by simp only[Zb];exact hnew,hl⟩,fun o=>by simp only[Zb];exact hs.S_lt (Nat.le_refl _)⟩⟩ (Zb _ _ _)
  (fun i r' _ hi oi ki _ _=>by have:=hs.row_lt hi oi ki;omega) (fun i cs hi zi _ _=>by have:=hs.blk_lt hi zi;omega)
 have g3:=g2.layVec (d:=d) (es:=es) ⟨sz,e,Zb _ _ _,h1,fun p hp i hi'=>ZbF i (by have:=(hi p hp i hi').1;cases i<;>exact this),fun c' hc' us t f hus i j hi' hj=>by
   simp only[Zb]at hus;rw[hnew]at hus;cases hus;refine(hr i j hi' hj).heap (SLe.refl _) (fun _ _=>rfl) fun k hk=> ?_
   have hkd:d≠k:=fun e=>by
    subst e;have hlen:=(h1 _ (Zg (d:= .any) hi')).1;exact(hi (es.getD i .any) (Zg hi') (.r d) (Zav (Zg (by omega)) hk)).2 rfl
   show RowLe M _ k (s.m.q k) (upd s.m.q d _ k);rw[Zm _ _ hkd];exact .same (Zm _ _ hkd) (Zm _ _ hkd)⟩
 have e:(upd (upd s.m.v d none) d (some es))=upd s.m.v d (some es):=Zj2 _ _ _ _;simp only[St.with,Hp.setq,e]at g3 ⊢;exact g3
theorem Sim.publish (hs:Sim B S M s a w) {id sz:Nat} {e:TypeId} {es:List PV} (hv:s.m.v id=some es) (hq:s.m.q id=some (.vec es.length sz e)) (hc:∀p∈es,p.ids= []):
  ∃S',Sim B S' M (s.with ({ s.m with v:=upd s.m.v id none }.setq id .dead)) a w∧Ext B S S' w w∧ ∀v,RepS S M s.m.q v (.vsl id es.length sz)→Rep S' v (.sl .no es):=by
 obtain⟨sz',e',q1,r1,r2,r4⟩:=hs.vc id es hv;rw[hq]at q1;cases q1;obtain⟨o1,o2⟩:=hs.row id _ hq;have hd:=hs.deadRow id;cases hκ:M.κ id with
 |zero=>
  have h0:=o1 hκ;refine⟨S,hd,Ext.refl _ _ _,fun v hr=> ?_⟩;obtain⟨_,t⟩:=hr.vsl_inv;obtain⟨_,t2⟩:=t _ _ _ hq;rw[(t2 rfl).2.1 hκ,List.eq_nil_of_length_eq_zero h0];exact .sl0 none 0
 |succ c=>
  obtain⟨k1,k2,k3,⟨vs,k5,k6⟩,k4⟩:=o2 c hκ;have k7:=r4 c hκ vs e (0,0) k5;have hkl:es.length*sz≤vs.length:=by rw[k6];exact Nat.mul_le_mul_right _ k1
  have hle:SLe S (ZkJ S (M.ψ id) (es.length*sz) vs):= .cells rfl fun b o v hv=>by
   rw[ZbB,if_neg]
   ·exact hv
   ·rintro ⟨rfl,_⟩;rw[k4 o]at hv;cases hv
  have other:∀ {b o},b≠M.ψ id→ZkJ S (M.ψ id) (es.length*sz) vs b o=S b o:=fun {b o} h=>by rw[ZbB,if_neg (fun hh=>h hh.1)]
  have rep:∀ {q:Rows} {v p},RepS S M q v p→RepS (ZkJ S (M.ψ id) (es.length*sz) vs) M q v p:=fun r=>r.heap hle (fun _ _=>rfl) (fun _ _=> .refl _ _ _)
  have hst:StabS (ZkJ S (M.ψ id) (es.length*sz) vs) w:=⟨fun b o v hv=>by
   rw[ZbB]at hv;split at hv
   ·rename_i hb;obtain⟨rfl,ho⟩:=hb;rw[Zbx k5,List.getElem?_eq_getElem (by omega),←hv,getD_lt (by omega)]
   ·exact hs.stable b o v hv,hs.stable.s.m⟩
  have hnq:∀ {i r},(s.with ({ s.m with v:=upd s.m.v id none }.setq id .dead)).m.q i=some r→r.own=true→i≠id∧s.m.q i=some r:=fun {i r} hi ho=>by
   by_cases ei:id=i
   ·subst ei;simp only[St.with,Hp.setq,Zb,Option.some.injEq]at hi;subst hi;cases ho
   ·simp only[St.with,Hp.setq,Zm _ _ ei]at hi;exact⟨Ne.symm ei,hi⟩
  refine⟨ZkJ S (M.ψ id) (es.length*sz) vs,⟨hd.defers,hd.hn,hd.hB,hd.stable.move hle (fun b c hc=>(hd.stable.o b c hc).2.1) hst (fun _ _ _=>rfl) (fun _ _ _=>rfl),fun i=>rep (hd.fr i),hd.ids,fun i ds hi=> ?_,fun i r hr=> ?_,hd.inj,hd.injq,hd.injx,fun b c hc=> ?_,fun i es1 he=> ?_,hd.pn⟩,⟨hle,fun b hb=>⟨fun o=>other (fun e=>k3 (e▸hb)),rfl⟩,BelowF.refl _ _⟩,fun v hr=> ?_⟩
  ·have hb:=hd.blk i ds hi;cases hz:(s.with ({ s.m with v:=upd s.m.v id none }.setq id .dead)).m.z i with
   |false=>
    rw[hz]at hb;obtain⟨g1,g2,⟨us,t',g3,g4,g5⟩,g6⟩:=hb;exact⟨g1,fun o=>by rw[other (hs.injx i id _ _ hi hz hq rfl (by omega))];exact g2 o,⟨us,t',g3,g4,fun j hj=>rep (g5 j hj)⟩,g6⟩
   |true=>
    rw[hz]at hb;obtain⟨vals,hv⟩:=hb;exact⟨vals,fun j hj=>⟨hle _ _ _ (hv j hj).1,(hv j hj).2.mono hle⟩⟩
  ·have hr':=hd.row i r hr;cases r with
   |live n1 sz1 e1=>
    obtain⟨ei,hqi⟩:=hnq hr rfl;obtain⟨g1,g2⟩:=hr';refine⟨g1,fun c' hc'=> ?_⟩;obtain⟨p1,p2,p3,p4,p6⟩:=g2 c' hc';exact⟨p1,p2,p3,p4,fun o ho=>by rw[other (hs.injq i id _ _ hqi hq rfl rfl (by omega) (by omega) ei)];exact p6 o ho⟩
   |vec n1 sz1 e1=>
    obtain⟨ei,hqi⟩:=hnq hr rfl;obtain⟨g1,g2⟩:=hr';refine⟨g1,fun c' hc'=> ?_⟩;obtain⟨p1,p2,p3,p4,p6⟩:=g2 c' hc';exact⟨p1,p2,p3,p4,fun o=>by rw[other (hs.injq i id _ _ hqi hq rfl rfl (by omega) (by omega) ei)];exact p6 o⟩
   |dead=>trivial
  ·obtain⟨g1,g2,g3,g4⟩:=hd.rm b c hc;exact⟨g1,g2,g3,g4.move hle rfl (fun v p r _=>rep r) (fun _ h=>h)⟩
  ·exact(hd.vc i es1 he).move (fun _ _ _ h=>h) rfl rfl (fun _=>rfl) (fun v p r _=>rep r) (fun _ h=>h)
  ·obtain⟨_,t⟩:=hr.vsl_inv;obtain⟨_,t2⟩:=t _ _ _ hq;rw[(t2 rfl).2.2 c hκ];refine .sl (M.ψ id) 0 c sz es (fun i j=>vs.getD (i*sz+j) undef) (fun i hi=>(r1 _ (Zg (d:= .any) hi)).1) k1 (fun i j hi hj=> ?_) (fun i j hi hj=> ?_)
   ·have hb:i*sz+j<es.length*sz:=by
     calc i*sz+j<i*sz+sz:=by omega
      _=(i+1)*sz:=by rw[Nat.add_mul,Nat.one_mul]
      _≤es.length*sz:=Nat.mul_le_mul_right _ hi
    rw[Nat.zero_add,ZbB,if_pos ⟨rfl,hb⟩]
   ·refine((k7 i j hi hj).alone ?_).mono hle;have hx:=r1 _ (Zg (d:= .any) hi);have hid:=hc _ (Zg (d:= .any) hi);cases hids:((es.getD i .any).cells.getD j .any).ids with
    |nil=>rfl
    |cons r rs=>
     have:=Zav (p:=es.getD i .any) (Zg (d:= .any) (by omega:j<(es.getD i .any).cells.length)) (k:=r) (by rw[hids];simp);rw[hid]at this;cases this
theorem Znm {q:Rows} {es ys:List PV} {sz:Nat} {c1 c2:List Value} (hl:c1.length=es.length*sz) (h1:∀i j,i<es.length→j<sz→RepS S M q (c1.getD (i*sz+j) undef) ((es.getD i .any).cells.getD j .any))
  (h2:∀i j,i<ys.length→j<sz→RepS S M q (c2.getD (i*sz+j) undef) ((ys.getD i .any).cells.getD j .any)) (i j:Nat) (hi:i<(es++ys).length) (hj:j<sz):
  RepS S M q ((c1++c2).getD (i*sz+j) undef) (((es++ys).getD i .any).cells.getD j .any):=by
 by_cases h:i<es.length
 ·have:i*sz+j<c1.length:=by
   rw[hl]
   calc i*sz+j<i*sz+sz:=by omega
    _=(i+1)*sz:=by rw[Nat.add_mul,Nat.one_mul]
    _≤es.length*sz:=Nat.mul_le_mul_right _ h
  rw[Zi this,Zi h];exact h1 i j h hj
 ·have hge:es.length*sz≤i*sz:=Nat.mul_le_mul_right _ (by omega);rw[Zk (by omega),Zk (by omega),hl];have e:i*sz+j-es.length*sz=(i-es.length)*sz+j:=by rw[Nat.sub_mul];omega
  rw[e];exact h2 _ _ (by simp only[List.length_append]at hi;omega) hj
theorem ZsS (hs:Sim B S M s a w) {d:Nat} {t tx ty:TypeId} {x:EInfo} (hx:Zcg P t=some x) {es ys:List PV} {news:List Value} {u y:Value}
  (hu:RepS S M s.m.q u (.vsl d es.length x.size)) (hv:s.m.v d=some es) (hq:s.m.q d=some (.vec es.length x.size x.e))
  (hsrc:Src P x.size tx y ys.length news w) (hrn':∀i j,i<ys.length→j<x.size→RepS S M s.m.q (news.getD (i*x.size+j) undef) ((ys.getD i .any).cells.getD j .any))
  (hz:∀p∈ys,p.cells.length=x.size∧p.cells.all PV.atom=true∧ ∀i∈p.ids,ZS s.m i∧i≠ .r d) (hself:∀p∈es,∀i∈p.ids,i≠ .r d) (hroom:ZrF (es.length+ys.length) x.bytes):
  ∃v w' S' M',(Builtin.append_ #[t,tx] ty #[u,y]).run P w= .ok v w'∧Sim B S' M' (s.with { s.m.setq d (.vec (es++ys).length x.size x.e)with v:=upd s.m.v d (some (es++ys)) }) a w'∧
   RepS S' M' (upd s.m.q d (some (.vec (es++ys).length x.size x.e))) v (.vsl d (es++ys).length x.size)∧Ext B S S' w w':=by
 obtain⟨i,z,h1,h2,h3,h4,h5,h6,h7,h8⟩:=ZaF hx;obtain⟨sz',e',q1,r1,r2,r4⟩:=hs.vc d es hv;rw[hq]at q1;cases q1;obtain⟨o1,o2⟩:=hs.row d _ hq;obtain⟨_,t1⟩:=hu.vsl_inv;obtain⟨_,t2⟩:=t1 _ _ _ hq;obtain⟨_,u0,u1⟩:=t2 rfl;have good:∀p∈es++ys,p.cells.length=x.size∧p.cells.all PV.atom=true:=fun p hp=>by
  rcases List.mem_append.1 hp with hp|hp
  ·exact r1 p hp
  ·exact⟨(hz p hp).1,(hz p hp).2.1⟩
 have gids:∀p∈es++ys,∀i∈p.ids,ZS s.m i∧i≠ .r d:=fun p hp i hi=>by
  rcases List.mem_append.1 hp with hp|hp
  ·exact⟨r2 p hp i hi,hself p hp i hi⟩
  ·exact(hz p hp).2.2 i hi
 -- a new block
 have grow:∀ {base:Option Addr} {sCap:Nat} {olds:List Value},u= .slice base es.length sCap→(Builtin.firstCells x.size es.length (.slice base es.length sCap)).run P w.drew= .ok olds.toArray w.drew→olds.length=es.length*x.size→
   (∀i j,i<es.length→j<x.size→RepS S M s.m.q (olds.getD (i*x.size+j) undef) ((es.getD i .any).cells.getD j .any))→sCap<es.length+ys.length→es.length≤sCap→
   ∃v w' S' M',(Builtin.append_ #[t,tx] ty #[u,y]).run P w= .ok v w'∧Sim B S' M' (s.with { s.m.setq d (.vec (es++ys).length x.size x.e)with v:=upd s.m.v d (some (es++ys)) }) a w'∧
   RepS S' M' (upd s.m.q d (some (.vec (es++ys).length x.size x.e))) v (.vsl d (es++ys).length x.size)∧Ext B S S' w w':=by
  intro base sCap olds hu' hold ho hro hg hlt;subst hu';obtain⟨g1,g2⟩:=hroom;have h63:((es.length+ys.length:Nat):Int)≤9223372036854775807:=by simp only[maxLen]at g2;omega
  have hrun:=run_append_grow_src (P:=P) w t tx ty x.e i z h1 h2 h3 base es.length sCap olds (by rw[h5];exact hold) y ys.length news (by rw[h5];exact hsrc) hg h63
   (by rw[h6];exact growslice_fits hg g1)
  have hge:=grownCap_ge w (es.length+ys.length) sCap x.e;have hcm:=grownCap_le_maxLen w (es.length+ys.length) sCap x.e g2;generalize hcap:grownCap w (es.length+ys.length) sCap x.e=cap at *;have hlen:(olds++news).length=(es.length+ys.length)*x.size:=by rw[List.length_append,ho,hsrc.newsLen,Nat.add_mul]
  let vs:List Value:=olds++news++(Builtin.zeroCells z.cells (cap-(es.length+ys.length))).toList
  have hvl:vs.length=cap*x.size:=by
   show(olds++news++_).length=_;have hzl:(Builtin.zeroCells z.cells (cap-(es.length+ys.length))).toList.length=(cap-(es.length+ys.length))*x.size:=by
    rw[Array.length_toList,size_zeroCells,h4]
   rw[List.length_append,hlen,hzl,←Nat.add_mul];congr 1;omega
  have harr:(olds++news).toArray++Builtin.zeroCells z.cells (cap-(es.length+ys.length))=⟨vs⟩:=by
   apply Array.ext';simp[vs]
  rw[harr]at hrun;have hsim:=hs.newVec (d:=d) (n:=(es++ys).length) (sz:=x.size) (c:=cap) (e:=x.e) (vs:=vs) (es:=es++ys) (w':=w.drew.alloc (.cells ⟨vs⟩ x.e)) (.inr ⟨_,_,_,hq,by simp only[List.length_append];omega⟩) rfl (by simpa using hge) hcm hvl
   (fun k hk=>Z3 w.drew _ hk) (Zae w.drew _) good gids (fun i j hi hj=>by
    have hb:i*x.size+j<(olds++news).length:=by
     rw[hlen];simp only[List.length_append]at hi
     calc i*x.size+j<i*x.size+x.size:=by omega
      _=(i+1)*x.size:=by rw[Nat.add_mul,Nat.one_mul]
      _≤(es.length+ys.length)*x.size:=Nat.mul_le_mul_right _ hi
    show RepS S M s.m.q ((olds++news++_).getD _ undef) _;rw[Zi hb];exact Znm ho hro hrn' i j hi hj)
  refine⟨_,_,_,_,hrun,hsim,?_,?_⟩
  ·have hc1:es.length+ys.length≤cap:=hge;refine .vsl d _ _ _ ⟨some ⟨w.heap.size,0,none⟩,cap,by rw[List.length_append],by simp only[List.length_append];exact hc1,fun _=>⟨_,_,rfl⟩⟩ fun n1 sz1 e1 hq1=> ?_
   rw[Zb]at hq1;cases hq1;refine⟨Nat.le_refl _,fun _=>⟨rfl,fun h0=>by simp[Zb]at h0,fun c hc=> ?_⟩⟩;simp only[Zb,Nat.add_right_cancel_iff]at hc ⊢;rw[hc,List.length_append]
  ·exact⟨SLe.refl _,fun _ _=>⟨fun _=>rfl,rfl⟩,((BelowF.refl B w).drew).alloc hs.hB _⟩
 cases hκ:M.κ d with
 |zero=>
  have hu0:=u0 hκ;have he0:es= []:=List.eq_nil_of_length_eq_zero (o1 hκ);subst he0
  by_cases hm:ys.length=0
  ·have e0:ys= []:=List.eq_nil_of_length_eq_zero hm;subst e0;subst hu0;have hrun:=ZbS (ty:=ty) hx (base:=none) (Nat.le_refl 0) hsrc;have hself':({ s.m.setq d (.vec ([]++([]:List PV)).length x.size x.e)with v:=upd s.m.v d (some ([]++ [])) }:Hp)=s.m:=by
    have e1:upd s.m.q d (some (.vec ([]:List PV).length x.size x.e))=s.m.q:=by rw[←hq,ZbO]
    have e2:upd s.m.v d (some [])=s.m.v:=by rw[←hv,ZbO]
    simp only[List.append_nil,Hp.setq,e1,e2];try rfl
   refine⟨_,w,S,M,hrun,?_,?_,Ext.refl _ _ _⟩
   ·rw[hself'];exact hs
   ·simp only[List.append_nil];rw[←hq,ZbO];exact hu
  ·exact grow (olds:= []) hu0 (by simp[Builtin.firstCells]) (by simp) (fun i j hi=>by simp at hi) (by simp;omega) (by simp)
 |succ c=>
  have hu1:=u1 c hκ;obtain⟨k1,k2,k3,⟨vs,k5,k6⟩,k4⟩:=o2 c hκ;have k7:=r4 c hκ vs x.e (0,0) k5;have hkl:es.length*x.size≤vs.length:=by rw[k6];exact Nat.mul_le_mul_right _ k1
  by_cases hg:es.length+ys.length≤c
  · -- in place
   subst hu1;have hmul:(es.length+ys.length)*x.size≤c*x.size:=Nat.mul_le_mul_right _ hg;have hsum:(es.length+ys.length)*x.size=es.length*x.size+news.length:=by rw[Nat.add_mul,hsrc.newsLen]
   have hst:=run_storeCells_at (P:=P) (M.ψ d) (es.length*x.size) x.e news 0 ⟨vs⟩ w k5 (by simp;omega) hsrc.one;simp only[Nat.add_zero]at hst;have hrun:(Builtin.append_ #[t,tx] ty #[.slice (some ⟨M.ψ d,0,none⟩) es.length c,y]).run P w= .ok (.slice (some ⟨M.ψ d,0,none⟩) (es.length+ys.length) c) (w.setRow (M.ψ d) ⟨vs.take (es.length*x.size)++news++vs.drop (es.length*x.size+news.length)⟩):=by
    have e5:(sizeOf x.e).run P w= .ok x.size w:=by rw[Zau h2,h8]
    rcases hsrc.kind with ⟨e',hk'⟩|hk'<;>simp[Builtin.append_,run_underlying h1,run_underlying hk',e5,hsrc.len,hg,hsrc.cells,Addr.add_lit,hst]
   have hf:=hs.forget d;have hlen':(vs.take (es.length*x.size)++news++vs.drop (es.length*x.size+news.length)).length=c*x.size:=by
    simp only[List.length_append,List.length_take,List.length_drop];omega
   have hr1:=hf.relen (id:=d) (n':=(es++ys).length) hq (Zb _ _ _) (by simp) (fun c' hc'=>by simp;omega) (fun h0=>by omega);obtain⟨hp1,hp2,hp3⟩:=hr1.pokeVec (id:=d) (n:=(es++ys).length) (sz:=x.size) (e:=x.e) (Zb _ _ _) (Zb _ _ _) hκ hlen';have hl:=hp1.layVec (d:=d) (es:=es++ys) ⟨x.size,x.e,Zb _ _ _,good,fun p hp i hi=>ZbF i (by have:=(gids p hp i hi).1;cases i<;>exact this),fun c' hc' us t' f hus i j hi hj=>by
    rw[hp3]at hus;cases hus;have hb:i*x.size+j<(vs.take (es.length*x.size)++news).length:=by
     simp only[List.length_append,List.length_take];simp only[List.length_append]at hi;rw[Nat.min_eq_left hkl,←hsum]
     calc i*x.size+j<i*x.size+x.size:=by omega
      _=(i+1)*x.size:=by rw[Nat.add_mul,Nat.one_mul]
      _≤(es.length+ys.length)*x.size:=Nat.mul_le_mul_right _ hi
    rw[Zi hb];have:=Znm (c1:=vs.take (es.length*x.size)) (by rw[List.length_take];omega) (fun i j hi hj=>by
     have hb2:i*x.size+j<es.length*x.size:=by
      calc i*x.size+j<i*x.size+x.size:=by omega
       _=(i+1)*x.size:=by rw[Nat.add_mul,Nat.one_mul]
       _≤es.length*x.size:=Nat.mul_le_mul_right _ hi
     rw[Zbp hb2];exact k7 i j hi hj) hrn' i j hi hj
    refine this.heap (SLe.refl _) (fun _ _=>rfl) fun k hk=> ?_
    have hkd:d≠k:=fun e=>by
     subst e;have hlen:=(good _ (Zg (d:= .any) hi)).1;exact(gids ((es++ys).getD i .any) (Zg hi) (.r d) (Zav (Zg (by omega)) hk)).2 rfl
    show RowLe M M k (s.m.q k) (upd s.m.q d _ k);rw[Zm _ _ hkd];exact .refl _ _ _⟩
   have e2:(upd (upd s.m.v d none) d (some (es++ys)))=upd s.m.v d (some (es++ys)):=Zj2 _ _ _ _;simp only[St.with,Hp.setq,e2]at hl ⊢;refine⟨_,_,S,M,hrun,hl,?_,hp2⟩;refine .vsl d _ _ _ ⟨some ⟨M.ψ d,0,none⟩,c,by rw[List.length_append],by simp only[List.length_append];exact hg,fun _=>⟨_,_,rfl⟩⟩ fun n1 sz1 e1 hq1=> ?_
   rw[Zb]at hq1;cases hq1;refine⟨Nat.le_refl _,fun _=>⟨rfl,fun h0=>by omega,fun c' hc'=> ?_⟩⟩;have:c'=c:=by omega
   subst this;rw[List.length_append]
  ·refine grow (olds:=vs.take (es.length*x.size)) hu1 ?_ (by rw[List.length_take];omega) (fun i j hi hj=> ?_) (by omega) k1
   ·refine run_firstCells_some w.drew x.size es.length ⟨M.ψ d,0,none⟩ es.length c _ (by rw[List.length_take];omega) (fun j u hj=> ?_);obtain⟨hj1,hj2⟩:=List.getElem?_eq_some_iff.1 hj;rw[Addr.add_lit];have hj3:j<es.length*x.size:=by rw[List.length_take]at hj1;omega
    have hc0:=Zbx (o:=0+j) k5;have:w.drew.cell? ⟨M.ψ d,0+j,none⟩=w.cell? ⟨M.ψ d,0+j,none⟩:=rfl;rw[this,hc0,Nat.zero_add,List.getElem?_eq_getElem (by omega),←hj2];simp
   ·have hb2:i*x.size+j<es.length*x.size:=by
     calc i*x.size+j<i*x.size+x.size:=by omega
      _=(i+1)*x.size:=by rw[Nat.add_mul,Nat.one_mul]
      _≤es.length*x.size:=Nat.mul_le_mul_right _ hi
    rw[Zbp hb2];exact k7 i j hi hj
theorem ZrL (hs:Sim B S M s a w) {tx:TypeId} {v:Value} {y:PV} (hv:RepS S M s.m.q v y) {ei:EInfo} {ys:List PV} (hy:Zcu P tx y=some ys) (hz:Sized ei.size ys) (hat:Zcy ys) (hpos:0<ei.size):
  ∃news:List Value,Src P ei.size tx v ys.length news w∧ ∀i j,i<ys.length→j<ei.size→Rep S (news.getD (i*ei.size+j) undef) ((ys.getD i .any).cells.getD j .any):=by
 unfold Zcu at hy;split at hy
 ·rename_i es2 ea tk ys' heq;cases hy;obtain⟨e,d',ti,h1,_⟩:=ZfD heq;exact hv.sl_inv.src hs.stable hz hat h1
 ·rename_i l heq;cases hy;have h1:=ZmM heq;rw[hv.str_inv]
  by_cases h0:l= []
  ·subst h0;refine⟨[],?_,fun i j hi=>by simp[ZaY]at hi⟩;refine⟨.inr h1,fun _=>rfl,?_,?_,by simp[ZaY],fun _ h=>by cases h⟩
   ·simp[Builtin.firstCells,ZaY]
   ·simp[Builtin.firstCells,ZaY]
  ·have e1:ei.size=1:=by
    obtain⟨c,l',rfl⟩:=List.exists_cons_of_ne_nil h0;exact(hz (.int .u8 c.toNat) (by simp[ZaY])).symm
   rw[e1];exact ZlB h1 l
 ·cases hy
theorem ZyZ (hs:Sim B S M s a w) {tx e':TypeId} (hk:P.underlying tx=some (.slice e')) {id sz:Nat} {e:TypeId} {ys:List PV} {v:Value} (hv:s.m.v id=some ys) (hq:s.m.q id=some (.vec ys.length sz e)) (hr:RepS S M s.m.q v (.vsl id ys.length sz)):
  ∃news:List Value,Src P sz tx v ys.length news w∧ ∀i j,i<ys.length→j<sz→RepS S M s.m.q (news.getD (i*sz+j) undef) ((ys.getD i .any).cells.getD j .any):=by
 obtain⟨sz',e1,q1,r1,r2,r4⟩:=hs.vc id ys hv;rw[hq]at q1;cases q1;obtain⟨o1,o2⟩:=hs.row id _ hq;obtain⟨_,t⟩:=hr.vsl_inv;obtain⟨_,t2⟩:=t _ _ _ hq;obtain⟨_,u0,u1⟩:=t2 rfl;cases hκ:M.κ id with
 |zero=>
  have h0:=o1 hκ;have hy:ys= []:=List.eq_nil_of_length_eq_zero h0;subst hy;rw[u0 hκ];refine⟨[],⟨.inl ⟨e',hk⟩,fun _=>rfl,?_,?_,by simp,fun _ h=>by cases h⟩,fun i j hi=>by simp at hi⟩
  ·simp[Builtin.firstCells]
  ·simp[Builtin.firstCells]
 |succ c=>
  obtain⟨k1,k2,k3,⟨vs,k5,k6⟩,k4⟩:=o2 c hκ;have k7:=r4 c hκ vs e (0,0) k5;have hkl:ys.length*sz≤vs.length:=by rw[k6];exact Nat.mul_le_mul_right _ k1
  have hb:∀ {i j},i<ys.length→j<sz→i*sz+j<ys.length*sz:=fun {i j} hi hj=>by
   calc i*sz+j<i*sz+sz:=by omega
    _=(i+1)*sz:=by rw[Nat.add_mul,Nat.one_mul]
    _≤ys.length*sz:=Nat.mul_le_mul_right _ hi
  rw[u1 c hκ];refine⟨vs.take (ys.length*sz),Src.ofSlice w hk ⟨M.ψ id,0,none⟩ ys.length c _ (by rw[List.length_take];omega) (fun j u hj=> ?_) (fun u hu=> ?_),fun i j hi hj=> ?_⟩
  ·obtain⟨hj1,hj2⟩:=List.getElem?_eq_some_iff.1 hj;have hj3:j<ys.length*sz:=by rw[List.length_take]at hj1;omega
   rw[Addr.add_lit,Zbx k5,Nat.zero_add,List.getElem?_eq_getElem (by omega),←hj2];simp
  ·obtain⟨j,hj,rfl⟩:=List.getElem_of_mem hu;have hj3:j<ys.length*sz:=by rw[List.length_take]at hj;omega
   have hpos:0<sz:=by rcases Nat.eq_zero_or_pos sz with h|h;rw[h]at hj3;simp at hj3;exact h
   have hi:j / sz<ys.length:=Nat.div_lt_of_lt_mul (by rwa[Nat.mul_comm]);have hm:j % sz<sz:=Nat.mod_lt _ hpos;have he:j / sz*sz+j % sz=j:=by rw[Nat.mul_comm];exact Nat.div_add_mod j sz
   have hg:=k7 (j / sz) (j % sz) hi hm;rw[he,getD_lt (by omega)]at hg;simp only[List.getElem_take];refine hg.atom_inv ?_;have hx:=r1 _ (Zg (d:= .any) hi);exact List.all_eq_true.1 hx.2 _ (Zg (by omega))
  ·rw[Zbp (hb hi hj)];exact k7 i j hi hj
def Zdg (P:Program) (tx:TypeId) (y:PV) (m:Hp):Option (List PV):=
 match y with
 | .vsl id _ _=>match tix P tx with
  | .slc _ _=>m.v id
  |_=>none
 |y=>Zcu P tx y
def ZlL (y:PV) (m:Hp) (ys:List PV) (size:Nat) (ids:List Nat):Prop:=
 match y with
 | .vsl id n sz=>ys.length=n∧sz=size∧(∃e,m.q id=some (.vec n sz e))∧id∉ids
 |_=>∀p∈ys,p.ids= []
theorem Zo3 (hs:Sim B S M s a w) {tx:TypeId} {v:Value} {y:PV} (hv:RepS S M s.m.q v y) {ei:EInfo} {ys:List PV} (hy:Zdg P tx y s.m=some ys) (hz:∀p∈ys,p.cells.length=ei.size∧p.cells.all PV.atom=true) (hpos:0<ei.size) {ids:List Nat} (hsrc:ZlL y s.m ys ei.size ids):
  ∃news:List Value,Src P ei.size tx v ys.length news w∧(∀i j,i<ys.length→j<ei.size→RepS S M s.m.q (news.getD (i*ei.size+j) undef) ((ys.getD i .any).cells.getD j .any))∧ ∀p∈ys,∀i∈p.ids,ZS s.m i:=by
 by_cases hvs:∃id n sz,y= .vsl id n sz
 ·obtain⟨id,n,sz,rfl⟩:=hvs;simp only[Zdg]at hy;split at hy
  ·rename_i esz ea ht;obtain⟨rfl,rfl,⟨e,hq⟩,_⟩:=hsrc;obtain⟨e',d,ti,h1,_⟩:=ZfD ht;obtain⟨news,g1,g2⟩:=ZyZ hs h1 hy hq hv;obtain⟨_,_,_,_,r2,_⟩:=hs.vc id ys hy;exact⟨news,g1,g2,r2⟩
  ·cases hy
 ·have hy':Zcu P tx y=some ys:=by
   cases y<;>first|exact hy|exact absurd ⟨_,_,_,rfl⟩ hvs
  have hc:∀p∈ys,p.ids= []:=by
   cases y<;>first|exact hsrc|exact absurd ⟨_,_,_,rfl⟩ hvs
  obtain⟨news,g1,g2⟩:=ZrL hs hv hy' (fun p hp=>(hz p hp).1) (fun p hp=>(hz p hp).2) hpos;exact⟨news,g1,fun i j hi hj=> .clean (g2 i j hi hj),fun p hp i hi=>by rw[hc p hp]at hi;cases hi⟩
def ZvH (m:Hp) (id d n sz:Nat) (e:TypeId) (es:List PV):Hp:=
 if d=id then { m.setq d (.vec n sz e)with v:=upd m.v d (some es) } else { (m.setq id .dead).setq d (.vec n sz e)with v:=upd (upd m.v id none) d (some es) }
theorem Zij (hs:Sim B S M s a w) {id d:Nat} {t tx ty:TypeId} {x:EInfo} (hx:Zcg P t=some x) {es ys:List PV} {u v:Value} {y:PV} (hu:RepS S M s.m.q u (.vsl id es.length x.size)) (hv:s.m.v id=some es) (hq:s.m.q id=some (.vec es.length x.size x.e))
  (hw:RepS S M s.m.q v y) (hy:Zdg P tx y s.m=some ys) (hso:ZlL y s.m ys x.size [id,d]) (hd:d=id∨s.m.q d=none) (hz:∀p∈ys,p.cells.length=x.size∧p.cells.all PV.atom=true) (hself:∀p∈es++ys,.r id∉p.ids) (hroom:ZrF (es.length+ys.length) x.bytes):
  ∃r w' S' M',(Builtin.append_ #[t,tx] ty #[u,v]).run P w= .ok r w'∧Sim B S' M' (s.with (ZvH s.m id d (es.length+ys.length) x.size x.e (es++ys))) a w'∧
   RepS S' M' (ZvH s.m id d (es.length+ys.length) x.size x.e (es++ys)).q r (.vsl d (es.length+ys.length) x.size)∧Ext B S S' w w':=by
 obtain⟨i,z,h1,h2,h3,h4,h5,h6,h7,h8⟩:=ZaF hx;obtain⟨news,hsrc,hrn,hlv⟩:=Zo3 hs hw hy hz h7 hso;obtain⟨r,w',S',M',g1,g2,g3,g4⟩:=ZsS hs (ty:=ty) hx hu hv hq hsrc hrn (fun p hp=>⟨(hz p hp).1,(hz p hp).2,fun i hi=>⟨hlv p hp i hi,fun e=>hself p (by simp[hp]) (e▸hi)⟩⟩) (fun p hp i hi e=>hself p (by simp[hp]) (e▸hi)) hroom;rw[List.length_append]at g2 g3;unfold ZvH
 by_cases e:d=id
 ·subst e;simp only[if_true];exact⟨r,w',S',M',g1,g2,g3,g4⟩
 ·simp only[if_neg e];have hdn:=hd.resolve_left e;have hq1:(s.with { s.m.setq id (.vec (es.length+ys.length) x.size x.e)with v:=upd s.m.v id (some (es++ys)) }).m.q id=some (.vec (es++ys).length x.size x.e):=by rw[List.length_append];exact Zb _ _ _
  have hv1:(s.with { s.m.setq id (.vec (es.length+ys.length) x.size x.e)with v:=upd s.m.v id (some (es++ys)) }).m.v id=some (es++ys):=Zb _ _ _;have hd1:(s.with { s.m.setq id (.vec (es.length+ys.length) x.size x.e)with v:=upd s.m.v id (some (es++ys)) }).m.q d=none:=by
   show upd s.m.q id _ d=none;rw[Zm _ _ (Ne.symm e)];exact hdn
  have hm:=g2.moveVec hq1 hv1 hd1;rw[List.length_append]at hm;simp only[St.with,Hp.setq,Zj2]at hm;refine⟨r,w',S',_,g1,hm,?_,g4⟩;obtain⟨hv0,t⟩:=g3.vsl_inv;refine .vsl d _ _ r hv0 fun n sz' e' hq'=> ?_
  simp only[Hp.setq,Zb]at hq';cases hq';obtain⟨_,t2⟩:=t _ _ _ (Zb _ _ _);refine⟨Nat.le_refl _,fun _=> ?_⟩;have t3:=t2 rfl;simp only[Zb];exact⟨trivial,t3.2⟩
def Zn3 (size d:Nat):Nat→List (Nat×PV)→Prop
 |_,[]=>True
 |k,(i,p)::rest=>i=k∧p.known=true∧p.cells.length=size∧p.cells.all PV.atom=true∧ .r d∉p.ids∧Zn3 size d (k+1) rest
theorem Zlp {size d:Nat}:∀ {parts:List (Nat×PV)} {k:Nat},Zn3 size d k parts→(∀x∈parts,x.2.known=true∧x.2.cells.length=size∧x.2.cells.all PV.atom=true∧ .r d∉x.2.ids)∧parts.map (·.1)=(List.range' k parts.length)
 | [],k,_=>by simp
 |(i,p)::rest,k,h=>by
  obtain⟨rfl,h1,h2,h3,h5,h4⟩:=h;obtain⟨g1,g2⟩:=Zlp h4;refine⟨fun x hx=> ?_,?_⟩
  ·rcases List.mem_cons.1 hx with rfl|hx
   ·exact⟨h1,h2,h3,h5⟩
   ·exact g1 x hx
  ·simp[g2,List.range'_succ]
theorem Zki {t:TypeId} {ei:EInfo} (hx:Zcg P t=some ei) {vparts:List (Nat×Value)} (hpairs:vparts=((vparts.map (·.2)).zipIdx 0).map fun x=>(x.2,x.1)) (hsz:∀u∈vparts.map (·.2),u.cells.size=ei.size) (hlim:vparts.length*ei.size≤16777216) (w:World):
  (Instr.buildSlice t vparts.length ⟨vparts⟩).run P w= .ok (.slice (some ⟨w.heap.size,0,none⟩) vparts.length vparts.length) (w.alloc (.cells ⟨(vparts.map (·.2)).flatMap fun u=>u.cells.toList⟩ ei.e)):=by
 obtain⟨ti,z,h1,h2,h3,h4,h5,h6,h7,h8⟩:=ZaF hx;have nolim:¬vparts.length*ei.size>2 ^ 24:=by omega
 have hfill:∀zs:List Value,zs.length=vparts.length*ei.size→Instr.fill (fun i=>some (i*ei.size,ei.size)) ⟨zs⟩ vparts=some ⟨zs.take (0*ei.size)++(vparts.map (·.2)).flatMap fun u=>u.cells.toList⟩:=fun zs hzs=>by
  have:=ZhD (size:=ei.size) (vparts.map (·.2)) 0 zs (by simp[hzs]) hsz;rw[←hpairs]at this;exact this
 have e5:(sizeOf ei.e).run P w= .ok ei.size w:=by rw[Zau h2,h8]
 by_cases h0:vparts.length*ei.size=0
 ·have hv0:vparts= []:=by
   rcases Nat.mul_eq_zero.1 h0 with h|h
   ·exact List.eq_nil_of_length_eq_zero h
   ·omega
  subst hv0;simp[Instr.buildSlice,ZJ h1,e5,Instr.fill,newRow,newObj,Sem.run,World.alloc_eq];have er:Array.map (fun _:Nat=>(default:Value)) (Array.range 0)=⟨[]⟩:=by
   apply Array.ext';simp
  rw[er]
 ·have hf:=hfill ((List.range (vparts.length*ei.size)).map fun x=>z.cells[x % z.cells.size]!) (by simp);have hzr:(zeroValue ei.e).run P w= .ok z w:=by simp[zeroValue,Zgq h2,h3]
  simp only[Instr.buildSlice,Sem.run_bind,ZJ h1,Result.andThen_ok,e5,nolim,if_false,Sem.run_pure,h0,hzr];have:(Array.range (vparts.length*ei.size)).map (fun x=>z.cells[x % z.cells.size]!)=⟨(List.range (vparts.length*ei.size)).map fun x=>z.cells[x % z.cells.size]!⟩:=by
   apply Array.ext';simp
  simp only[this,hf];simp[newRow,newObj,Sem.run,World.alloc_eq]
theorem Zvb (hs:Sim B S M s a w) {d:Nat} {t:TypeId} {ei:EInfo} (hx:Zcg P t=some ei) {parts:List (Nat×PV)} {vparts:List (Nat×Value)} (hl:vparts.length=parts.length)
  (hp:∀i,i<parts.length→(vparts.getD i (0,undef)).1=(parts.getD i (0,.any)).1∧RepS S M s.m.q (vparts.getD i (0,undef)).2 (parts.getD i (0,.any)).2) (hids:∀x∈parts,∀i∈x.2.ids,ZS s.m i)
  (g1:s.m.q d=none) (g3:parts.length*ei.size≤16777216) (g4:Zn3 ei.size d 0 parts):
  ∃v w' M',(Instr.buildSlice t parts.length ⟨vparts⟩).run P w= .ok v w'∧Sim B S M' (s.with { s.m.setq d (.vec parts.length ei.size ei.e)with v:=upd s.m.v d (some (parts.map (·.2))) }) a w'∧
   RepS S M' (upd s.m.q d (some (.vec parts.length ei.size ei.e))) v (.vsl d parts.length ei.size)∧Ext B S S w w':=by
 obtain⟨ti,z,h1,h2,h3,h4,h5,h6,h7,h8⟩:=ZaF hx;obtain⟨p1,p2⟩:=Zlp g4;have hus:∀i,i<parts.length→RepS S M s.m.q ((vparts.map (·.2)).getD i undef) (parts.getD i (0,.any)).2:=fun i hi=>by
  have:=(hp i hi).2;rw[getD_lt (by simp;omega)];rw[getD_lt (by omega)]at this;simpa using this
 have hcell:∀i,i<parts.length→ ∃ys:List Value,((vparts.map (·.2)).getD i undef).cells=⟨ys⟩∧ys.length=ei.size∧ ∀j,j<ei.size→RepS S M s.m.q (ys.getD j undef) ((parts.getD i (0,.any)).2.cells.getD j .any):=fun i hi=>by
  obtain⟨q1,q2,q3⟩:=p1 _ (Zg (d:=(0,PV.any)) hi);obtain⟨ys,e1,e2,e3⟩:=(hus i hi).cells_inv q1;exact⟨ys,e1,by omega,fun j hj=>e3 j (by omega)⟩
 have hsz:∀u∈vparts.map (·.2),u.cells.size=ei.size:=fun u hu=>by
  obtain⟨i,hi,rfl⟩:=List.getElem_of_mem hu;simp only[List.length_map]at hi;obtain⟨ys,e1,e2,_⟩:=hcell i (by omega);rw[getD_lt (by simpa using hi)]at e1;rw[e1];simp[e2]
 have hpairs:vparts=((vparts.map (·.2)).zipIdx 0).map fun x=>(x.2,x.1):=by
  apply List.ext_getElem
  ·simp
  ·intro i hi1 hi2;simp only[List.getElem_map,List.getElem_zipIdx,Nat.zero_add];have:=(hp i (by omega)).1;rw[getD_lt hi1,getD_lt (by omega)]at this;have hidx:(parts[i]'(by omega)).1=i:=by
    have e:=congrArg (fun l=>l[i]?) p2;simp only[List.getElem?_map]at e;rw[List.getElem?_eq_getElem (by omega),List.getElem?_eq_getElem (by simp;omega)]at e;simpa using e
   rw[hidx]at this;exact Prod.ext this rfl
 have hrun:=Zki hx hpairs hsz (by rw[hl];exact g3) w;rw[hl]at hrun;generalize hvs:(vparts.map (·.2)).flatMap (fun u=>u.cells.toList)=vs at hrun;have hvl:vs.length=parts.length*ei.size:=by
  rw[←hvs,List.length_flatMap];have:(List.map (fun u:Value=>u.cells.toList.length) (vparts.map (·.2)))=List.replicate parts.length ei.size:=by
   apply List.eq_replicate_iff.2;refine⟨by simp[hl],fun x hx=> ?_⟩;obtain⟨u,hu,rfl⟩:=List.mem_map.1 hx;simpa using hsz u hu
  rw[this];simp
 have hmax:parts.length≤maxLen:=by
  have:=Nat.le_mul_of_pos_right parts.length h7;simp only[maxLen];omega
 have hsim:=hs.newVec (d:=d) (n:=parts.length) (sz:=ei.size) (c:=parts.length) (e:=ei.e) (vs:=vs) (es:=parts.map (·.2)) (w':=w.alloc (.cells ⟨vs⟩ ei.e)) (.inl g1) (by simp) (Nat.le_refl _) hmax hvl (fun k hk=>Z3 w _ hk) (Zae w _)
  (fun p hp=>by
   obtain⟨x,hx',rfl⟩:=List.mem_map.1 hp;exact⟨(p1 x hx').2.1,(p1 x hx').2.2.1⟩)
  (fun p hp i hi=>by
   obtain⟨x,hx',rfl⟩:=List.mem_map.1 hp;exact⟨hids x hx' i hi,fun e=>(p1 x hx').2.2.2 (e▸hi)⟩)
  (fun i j hi hj=>by
   simp only[List.length_map]at hi;obtain⟨ys,e1,e2,e3⟩:=hcell i hi;have hcells:vs.getD (i*ei.size+j) undef=ys.getD j undef:=by
    rw[←hvs,Zji hsz (by simpa[hl]using hi) hj,e1]
   rw[hcells];rw[getD_lt (l:=List.map _ parts) (by simpa using hi)];simp only[List.getElem_map];have:=e3 j hj;rw[getD_lt hi]at this;exact this)
 refine⟨_,_,_,hrun,hsim,?_,hs.ext_alloc _⟩;refine .vsl d _ _ _ ⟨some ⟨w.heap.size,0,none⟩,_,rfl,Nat.le_refl _,fun _=>⟨_,_,rfl⟩⟩ fun n' sz' e' hq=> ?_
 rw[Zb]at hq;cases hq;refine⟨Nat.le_refl _,fun _=>⟨rfl,fun h0=>by simp[Zb]at h0,fun c hc=> ?_⟩⟩;simp only[Zb,Nat.add_right_cancel_iff]at hc ⊢;rw[←hc]
end
end Go.PL
