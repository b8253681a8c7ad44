import Derived.Test.YthpmdmkmfoaamaaGreatDoorG2
set_option linter.unusedVariables false
open Go.IntKind (i64 u64 u32)
namespace Go.bK
variable {P:Program} {T:cO} {n:Nat} {V0:View} {bu:Cr} {β0:Nat->Nat} {st:St} {β:Nat->Nat} {a:Act} {w:World} {V:View}
theorem ch {x:Nat}{l:List Nat}:ea x l=true↔x∈l:=by
 induction l with
 | nil=>simp [ea]
 | cons y r ih=>
  simp only [ea,List.mem_cons]
  cases h:Nat.beq x y with
  | true=>simp [beq_eq.1 h]
  | false=>
   have:x≠y:=fun e=>by rw [e,Nat.beq_refl] at h;cases h
   simp [ih,this]
theorem eJ {x:Nat}{l:List Nat}:ea x l=false↔x∉l:=by
 rw [←ch];cases ea x l<;>simp
theorem A4 {l m:List Nat}:uv l m=true↔∀x∈l,x∉m:=by
 unfold uv
 rw [List.all_eq_true]
 constructor
 ·intro h x hx hm
  have:=h x hx
  rw [Bool.not_eq_true',eJ] at this
  exact this hm
 ·intro h x hx
  rw [Bool.not_eq_true',eJ]
  exact h x hx
theorem C.gi {L:List Nat}{β':Nat->Nat}(hβ:∀s∈L,β' s=β s)(c:C):(c.rel L β' (C.den β)).den β=c.den β/\∀s∈(c.rel L β' (C.den β)).ids,s∈c.ids/\s∉L:=by
 cases c with
 | v x=>exact ⟨rfl,fun s hs=>by cases hs⟩
 | w x=>exact ⟨rfl,fun s hs=>by cases hs⟩
 | tt=>exact ⟨rfl,fun s hs=>by cases hs⟩
 | ff=>exact ⟨rfl,fun s hs=>by cases hs⟩
 | ptr s o=>
  simp only [C.rel]
  cases h:ea s L with
  | true=>exact ⟨by simp [C.den,hβ s (ch.1 h)],fun s hs=>by cases hs⟩
  | false=>exact ⟨rfl,fun t ht=>⟨ht,by simp [C.ids] at ht;subst ht;exact eJ.1 h⟩⟩
 | gZ s o n c=>
  simp only [C.rel]
  cases h:ea s L with
  | true=>exact ⟨by simp [C.den,hβ s (ch.1 h)],fun s hs=>by cases hs⟩
  | false=>exact ⟨rfl,fun t ht=>⟨ht,by simp [C.ids] at ht;subst ht;exact eJ.1 h⟩⟩
 | kv s n c=>
  simp only [C.rel]
  cases h:ea s L with
  | true=>exact ⟨by simp [C.den,hβ s (ch.1 h)],fun s hs=>by cases hs⟩
  | false=>exact ⟨rfl,fun t ht=>⟨ht,by simp [C.ids] at ht;subst ht;exact eJ.1 h⟩⟩
 | nd f ss=>
  simp only [C.rel]
  cases h:uv ss L with
  | true=>exact ⟨rfl,fun t ht=>⟨ht,A4.1 h t ht⟩⟩
  | false=>exact ⟨rfl,fun s hs=>by cases hs⟩
theorem qf {L:List Nat}{β':Nat->Nat}(hβ:∀s∈L,β' s=β s)(cs:List C) :
  (cs.map (C.rel L β' (C.den β))).map (C.den β)=cs.map (C.den β)/\∀s∈(cs.map (C.rel L β' (C.den β))).flatMap C.ids,s∈cs.flatMap C.ids/\s∉L:=by
 refine ⟨?_,fun s hs=>?_⟩
 ·rw [List.map_map];exact List.map_congr_left fun c _=>(C.gi hβ c).1
 ·obtain ⟨c',hc',hs⟩:=List.mem_flatMap.1 hs
  obtain ⟨c,hc,rfl⟩:=List.mem_map.1 hc'
  obtain ⟨h1,h2⟩:=(C.gi hβ c).2 s hs
  exact ⟨gE hc h1,h2⟩
theorem SV.gi {L:List Nat}{β':Nat->Nat}(hβ:∀s∈L,β' s=β s)(x:SV):(x.rel L β' (C.den β)).den β=x.den β/\∀s∈(x.rel L β' (C.den β)).ids,s∈x.ids/\s∉L:=by
 cases x with
 | c c=>exact C.gi hβ c
 | agg cs=>
  obtain ⟨h1,h2⟩:=qf hβ cs
  exact ⟨by simp only [SV.rel,SV.den,h1],h2⟩
 | ph xs=>
  refine ⟨?_,fun s hs=>?_⟩
  ·simp only [SV.rel,SV.den,List.map_map]
   congr 2
   apply List.map_congr_left
   rintro ⟨b,cs⟩ -
   have h1:=(qf hβ cs).1
   cases b with
   | true=>simp only [Function.comp,hZ,h1]
   | false=>
    match cs with
    | []=>rfl
    | [x]=>simp only [Function.comp,List.map_cons,List.map_nil,hZ];exact (C.gi hβ x).1
    | _::_::_=>rfl
  ·obtain ⟨y',hy',hs⟩:=List.mem_flatMap.1 hs
   obtain ⟨y,hy,rfl⟩:=List.mem_map.1 hy'
   obtain ⟨h1,h2⟩:=(qf hβ y.2).2 s hs
   exact ⟨List.mem_flatMap.2 ⟨y,hy,h1⟩,h2⟩
theorem aQ.gi {L:List Nat}{β':Nat->Nat}(hβ:∀s∈L,β' s=β s)(b:aQ):(b.rel L β' (C.den β)).obj β=b.obj β/\∀s∈(b.rel L β' (C.den β)).cs.ids,s∈b.cs.ids/\s∉L:=by
 obtain ⟨cs,ty⟩:=b
 cases cs with
 | lit cs=>
  obtain ⟨h1,h2⟩:=qf hβ cs
  exact ⟨by simp only [aQ.rel,aQ.obj,Cells.den,h1],h2⟩
 | row vs=>exact ⟨rfl,fun s hs=>by cases hs⟩
 | bf vs=>exact ⟨rfl,fun s hs=>by cases hs⟩
theorem aQ.eC {L:List Nat}{β':Nat->Nat}{J:C->Value}{b:aQ}(h:(b.rel L β' J).live):b.live:=by
 obtain ⟨cs,ty⟩:=b
 cases cs with
 | lit cs=>exact cG
 | row vs=>exact cg
 | bf vs=>exact h
theorem yw {L:List Nat}{β':Nat->Nat}{J:C->Value}{t:Nat}{x:SV}(h:(st.rel L β' J).az t=some x):∃y,st.az t=some y/\x=y.rel L β' J:=by
 simp only [St.rel] at h
 cases hs:st.az t with
 | none=>rw [hs] at h;cases h
 | some y=>rw [hs] at h;simp only [Option.some.injEq] at h;exact ⟨y,rfl,h.symm⟩
theorem eU {L:List Nat}{β':Nat->Nat}{J:C->Value}{t:Nat}{x:aQ}(h:(st.rel L β' J).boxes t=some x):t∉L/\∃y,st.boxes t=some y/\x=y.rel L β' J:=by
 simp only [St.rel] at h
 cases hm:ea t L with
 | true=>rw [hm] at h;cases h
 | false=>
  rw [hm] at h
  refine ⟨eJ.1 hm,?_⟩
  cases hs:st.boxes t with
  | none=>rw [hs] at h;cases h
  | some y=>rw [hs] at h;simp only [cond_false,Option.some.injEq] at h;exact ⟨y,rfl,h.symm⟩
theorem eC {L:List Nat}{β':Nat->Nat}{J:C->Value}{t:Nat}(h:∃b,st.boxes t=some b)(hn:t∉L):∃b,(st.rel L β' J).boxes t=some b:=by
 obtain ⟨b,hb⟩:=h
 refine ⟨b.rel L β' J,?_⟩
 simp only [St.rel,eJ.2 hn,hb,cond_false]
theorem Mod.rel (h:Mod n V0 bu β0 st β a w V){L:List Nat}{β':Nat->Nat}(hβ:∀s∈L,β' s=β s):Mod n V0 bu β0 (st.rel L β' (C.den β)) β a w V where
 defers:=h.defers
 size:=h.size
 az:=by
  intro t x hx
  obtain ⟨y,hy,rfl⟩:=yw hx
  rw [h.az t y hy,(SV.gi hβ y).1]
 xu:=by
  intro t x hx s hs
  obtain ⟨y,hy,rfl⟩:=yw hx
  obtain ⟨h1,h2⟩:=(SV.gi hβ y).2 s hs
  exact eC (h.xu t y hy s h1) h2
 xr:=by
  intro t b hb s hs
  obtain ⟨-,y,hy,rfl⟩:=eU hb
  obtain ⟨h1,h2⟩:=(aQ.gi hβ y).2 s hs
  exact eC (h.xr t y hy s h1) h2
 boxes:=by
  intro t b hb l
  obtain ⟨-,y,hy,rfl⟩:=eU hb
  rw [h.boxes t y hy (aQ.eC l),(aQ.gi hβ y).1]
 inj:=by
  intro t t' b b' hb l hb' l' he
  obtain ⟨-,y,hy,rfl⟩:=eU hb
  obtain ⟨-,y',hy',rfl⟩:=eU hb'
  exact h.inj t t' y y' hy (aQ.eC l) hy' (aQ.eC l') he
 pj:=h.pj
 tA:=by
  intro t b hb l
  obtain ⟨-,y,hy,rfl⟩:=eU hb
  exact h.tA t y hy (aQ.eC l)
 ext:=h.ext
 own:=by
  intro t b hb l
  obtain ⟨-,y,hy,rfl⟩:=eU hb
  exact h.own t y hy (aQ.eC l)
 lW:=h.lW
 ke:=h.ke
 small:=h.small
theorem Mod.gX (h:Mod n V0 bu β0 st β a w V){d g:Nat}{b:aQ}(hd:d<n\/200000<=d)(hn:st.boxes d=none)(eW:b.cs.ids=[])
  (hg:∀s b',st.boxes s=some b'->b'.live->β s≠g)(hV:∀o,¬V.bE g o)(hown:V0.w.heap.size<=g\/(100000<=d/\bu.B g)){w':World}
  (hw:w'.heap[g]?=some (b.obj β))(hk:∀i,i<w.heap.size->i≠g->w'.heap[i]?=w.heap[i]?)(hsz:w.heap.size<=w'.heap.size)(hos:w'.os=w.os)(ht:w'.tape=w.tape)(hout:w'.output=w.output) :
  Mod n V0 bu β0 (st.box d b) (bN β d g) a w' V:=by
 have hne:∀s b',st.boxes s=some b'->s≠d:=fun s b' hs e=>by rw [e,hn] at hs;cases hs
 have hβ:∀s b',st.boxes s=some b'->bN β d g s=β s:=fun s b' hs=>fr _ _ (hne s b' hs)
 have hlt:∀s b',st.boxes s=some b'->b'.live->β s<w.heap.size:=fun s b' hs l=>aC (h.boxes s b' hs l)
 have WJ:∀b' o,V.bE b' o->b'<w.heap.size:=fun b' o hb=>aC (h.pj b' o hb).1
 refine ⟨h.defers,h.size,?_,?_,?_,?_,?_,?_,?_,?_,?_,?_,h.ke,h.small⟩
 ·intro t x hx
  rw [h.az t x hx]
  exact SV.bM fun s hs=>by obtain ⟨b',hb'⟩:=h.xu t x hx s hs;exact (hβ s b' hb').symm
 ·intro t x hx s hs
  obtain ⟨b',hb'⟩:=h.xu t x hx s hs
  exact ⟨b',by rw [aj,if_neg (hne s b' hb')];exact hb'⟩
 ·intro s b' hs s' hs'
  rw [aj] at hs
  split at hs
  ·simp only [Option.some.injEq] at hs;rw [←hs,eW] at hs';cases hs'
  ·obtain ⟨b'',kn⟩:=h.xr s b' hs s' hs'
   exact ⟨b'',by rw [aj,if_neg (hne s' b'' kn)];exact kn⟩
 ·intro s b' hs l
  rw [aj] at hs
  split at hs
  ·rename_i e
   simp only [Option.some.injEq] at hs
   rw [e,aP,hw,←hs]
   congr 1
   exact aQ.cQ fun s' hs'=>by rw [eW] at hs';cases hs'
  ·rw [hβ s b' hs,hk _ (hlt s b' hs l) (hg s b' hs l),h.boxes s b' hs l]
   congr 1
   exact aQ.cQ fun s' hs'=>by obtain ⟨b'',kn⟩:=h.xr s b' hs s' hs';exact (hβ s' b'' kn).symm
 ·intro s s' b1 b2 h1 l1 h2 l2 he
  rw [aj] at h1 h2
  split at h1<;>split at h2
  ·rename_i e1 e2;rw [e1,e2]
  ·rename_i e1 e2;rw [e1,aP,hβ s' b2 h2] at he;exact absurd he.symm (hg s' b2 h2 l2)
  ·rename_i e1 e2;rw [e2,aP,hβ s b1 h1] at he;exact absurd he (hg s b1 h1 l1)
  ·rw [hβ s b1 h1,hβ s' b2 h2] at he;exact h.inj s s' b1 b2 h1 l1 h2 l2 he
 ·intro b' o hb
  obtain ⟨h1,h2⟩:=h.pj b' o hb
  refine ⟨?_,h2⟩
  rw [hk _ (WJ b' o hb) (fun e=>hV o (e▸hb))]
  exact h1
 ·intro s b' hs l o ho'
  rw [aj] at hs
  split at hs
  ·rename_i e;rw [e,aP] at ho';exact hV o ho'
  ·rw [hβ s b' hs] at ho';exact h.tA s b' hs l o ho'
 ·refine ⟨Nat.le_trans h.ext.size hsz,fun i hi hX=>?_,hos.trans h.ext.os,ht.trans h.ext.tape,hout.trans h.ext.out⟩
  rw [hk i (Nat.lt_of_lt_of_le hi h.ext.size) (fun e=>by
   rcases hown with h1|h1
   ·omega
   ·exact hX (e▸h.ke _ h1.2))]
  exact h.ext.bE i hi hX
 ·intro s b' hs l
  rw [aj] at hs
  split at hs
  ·rename_i e;rw [e,aP];exact hown
  ·rw [hβ s b' hs];exact h.own s b' hs l
 ·intro s hs
  obtain ⟨h1,h2⟩:=h.lW s hs
  exact ⟨h1,by rw [fr _ _ (by have:=h.small;omega)];exact h2⟩
theorem xH {t t' e e':TypeId}{ty:TypeId}(ht:P.underlying t=some (.slice e))(Bc:P.underlying t'=some (.slice e'))(b xa:OA)(m c k xc:Nat) :
  (Builtin.append_ #[t,t'] ty #[.slice b m c,.slice xa k xc]).run P w=(Builtin.append_ #[t,t] ty #[.slice b m c,.slice xa k xc]).run P w:=by
 simp [Builtin.append_,ao ht,ao Bc]
theorem tT {t e:TypeId}{ty:TypeId}{info:TypeInfo}(ht:P.underlying t=some (.slice e))(hi:P.info? e=some info)(base:OA)(m c c':Nat)(hc:m<=c) :
  (Builtin.append_ #[t,t] ty #[.slice base m c,.slice none 0 c']).run P w=.ok (.slice base m c) w:=by
 cases base<;>simp [Builtin.append_,ao ht,aN hi,Builtin.lenOf,Builtin.firstCells,storeCells,hc]
theorem me (hM:Mod n V0 bu β0 st β a w V){s:Nat}{vs:List Value}{ty:TypeId}(h:dO st.boxes s=some vs)(ht:kf st.boxes s=some ty):w.heap[β s]?=some (.cells vs.toArray ty (0,0))/\∃b,st.boxes s=some b/\b.live:=by
 unfold dO at h
 unfold kf at ht
 split at h
 ·rename_i cs ty' hb
  rw [hb] at ht
  simp only [Option.some.injEq] at ht;subst ht
  have:=hM.row hb cG
  simp only [Cells.den,(eV (β:=β) h).1] at this
  exact ⟨this,_,hb,cG⟩
 ·rename_i ws ty' hb
  rw [hb] at ht
  simp only [Option.some.injEq,Option.some.injEq] at ht h;subst ht;subst h
  exact ⟨hM.row hb cg,_,hb,cg⟩
 ·cases h
theorem Cy {bx:Nat->Option aQ}{s:Nat}{vs:List Value}(h:dO bx s=some vs):∃ty,kf bx s=some ty:=by
 unfold dO at h
 unfold kf
 split at h
 ·rename_i hb;rw [hb];exact ⟨_,rfl⟩
 ·rename_i hb;rw [hb];exact ⟨_,rfl⟩
 ·cases h
theorem vr (hM:Mod n V0 bu β0 st β a w V){ad:Addr}{xs:List Value}(h:V.sl (some ad) xs):∀j v,xs[j]?=some v->w.cell? (ad.add j)=some v:=by
 intro j v hj
 obtain ⟨T3,e,hat⟩:=h j v hj
 simp only [Option.some.injEq] at e
 subst e
 exact hM.Qg hat
def Src (w:World)(xa:OA)(k size:Nat)(xs:List Value):Prop:=
 xs.length=k*size/\(∀v∈xs,v.oneCell'=true)/\((∃ad,xa=some ad/\∀j v,xs[j]?=some v->w.cell? (ad.add j)=some v)\/xa=none/\k=0)
theorem FC {t e ty:TypeId}{info:TypeInfo}(ht:P.underlying t=some (.slice e))(hi:P.info? e=some info){g m c k xc:Nat}{vs xs:List Value}{xa:OA}
  (hg:w.heap[g]?=some (.cells vs.toArray e (0,0)))(hx:Src w xa k info.size xs)(hc:m+k<=c)(hv:c*info.size<=vs.length) :
  ∃w',(Builtin.append_ #[t,t] ty #[.slice (some ⟨g,0,none⟩) m c,.slice xa k xc]).run P w=.ok (.slice (some ⟨g,0,none⟩) (m+k) c) w' /\
   w'.heap=w.heap.setIfInBounds g (.cells (vs.take (m*info.size)++xs++vs.drop (m*info.size+xs.length)).toArray e (0,0))/\w'.os=w.os/\w'.tape=w.tape/\w'.output=w.output:=by
 obtain ⟨hl,h1,hx⟩:=hx
 rcases hx with ⟨ad,rfl,hcells⟩|⟨rfl,rfl⟩
 ·have hfit:m*info.size+xs.length<=vs.length:=by
   rw [hl,←Nat.add_mul]
   exact Nat.le_trans (Nat.mul_le_mul_right _ hc) hv
  have hr:=run_append_room (P:=P) w t ty e info ht hi g m c vs.toArray hg ad k xc xs hl hcells h1 hc (by simpa using hfit)
  exact ⟨_,hr,by rw [iY hg],rfl,rfl,rfl⟩
 ·have hx0:xs=[]:=List.length_eq_zero_iff.1 (by simpa using hl)
  subst hx0
  refine ⟨w,?_,?_,rfl,rfl,rfl⟩
  ·simpa using tT (P:=P) (w:=w) (ty:=ty) ht hi (some ⟨g,0,none⟩) m c xc (by omega)
  ·simp only [List.append_nil,List.length_nil,Nat.add_zero,List.take_append_drop]
   apply Array.ext_getElem?
   intro i
   rw [Array.getElem?_setIfInBounds]
   split
   ·rename_i e;rw [←e,if_pos (aC hg)];exact hg
   ·rfl
theorem xG {t e ty:TypeId}{info:TypeInfo}{z:Value}(ht:P.underlying t=some (.slice e))(hi:P.info? e=some info)(hz:info.zero=some z)(hzs:z.cells.size=info.size)
  {m c k xc:Nat}{olds xs:List Value}{base xa:OA}
  (hbase:(∃b,base=some b/\olds.length=m*info.size/\∀j v,olds[j]?=some v->w.cell? (b.add j)=some v)\/base=none/\m=0/\c=0/\olds=[])
  (hx:Src w xa k info.size xs)(hc:c<m+k)(hb:(m+k)*info.bytes<=140737488355328)(hb0:info.bytes≠0)(hmc:m<=c) :
  ∃(c':Nat)(rest:List Value)(w':World),m+k<=c'/\(m+k)*info.size+rest.length=c'*info.size/\w'.heap=w.heap/\w'.os=w.os/\w'.tape=w.tape/\w'.output=w.output /\
   (Builtin.append_ #[t,t] ty #[.slice base m c,.slice xa k xc]).run P w=.ok (.slice (some ⟨w.heap.size,0,none⟩) (m+k) c') (w'.alloc (.cells (olds++xs++rest).toArray e)):=by
 obtain ⟨hl,h1,hx⟩:=hx
 have h63:(m+k:Nat)<=140737488355328:=by
  have:(m+k)*1<=(m+k)*info.bytes:=Nat.mul_le_mul_left _ (by omega)
  omega
 have hrest:∀N,(m+k)<=N->(m+k)*info.size+(Builtin.zeroCells z.cells (N-(m+k))).toList.length=N*info.size:=by
  intro N hN
  rw [Array.length_toList,size_zeroCells,hzs,←Nat.add_mul]
  congr 1;omega
 rcases hx with ⟨ad,rfl,hcells⟩|⟨rfl,rfl⟩
 ·rcases hbase with ⟨b,rfl,ho,hold⟩|⟨rfl,rfl,rfl,rfl⟩
  ·have hr:=run_append_grow (P:=P) w t ty e info z ht hi hz b m c olds ho hold ad k xc xs hl hcells hc (by omega) (growslice_fits hc hb)
   refine ⟨_,(Builtin.zeroCells z.cells (grownCap w (m+k) c e-(m+k))).toList,w.drew,grownCap_ge w (m+k) c e,hrest _ (grownCap_ge w (m+k) c e),rfl,rfl,rfl,rfl,?_⟩
   rw [hr]
   congr 3
   apply Array.ext'
   simp
  ·simp only [Nat.zero_add] at hc hb h63 hrest ⊢
   have hr:=run_append_nil (P:=P) w t ty e info z ht hi hz ad k xc xs hl hcells (by omega) (by omega) (by omega)
   refine ⟨_,(Builtin.zeroCells z.cells (grownCap w k 0 e-k)).toList,w.drew,grownCap_ge w k 0 e,hrest _ (grownCap_ge w k 0 e),rfl,rfl,rfl,rfl,?_⟩
   rw [hr]
   congr 3
   apply Array.ext'
   simp
 ·omega
theorem zn {s d n:Nat}(hd:d<n):nH s d<n\/200000<=nH s d:=by
 unfold nH
 cases Nat.blt s 100000 with
 | true=>exact .inl hd
 | false=>exact .inr (by rw [cond_false];exact Nat.le_add_left _ _)
theorem D8 {s d:Nat}(hs:100000<=s):100000<=nH s d:=by
 unfold nH
 have:Nat.blt s 100000=false:=by
  cases h:Nat.blt s 100000 with
  | false=>rfl
  | true=>have:=Nat.le_of_ble_eq_true h;omega
 rw [this,cond_false]
 omega
theorem Ay (hM:Mod n V0 bu β0 st β a w V){d:Nat}(hd:d<n){t e ty:TypeId}{info:TypeInfo}{z:Value}
  (ht:P.underlying t=some (.slice e))(hi:P.info? e=some info)(hz:info.zero=some z)(hzs:z.cells.size=info.size)(hb0:info.bytes≠0)
  {s:Nat}{vs xs:List Value}{m c k xc:Nat}{base xa:OA}
  (hbase:(base=some ⟨β s,0,none⟩/\w.heap[β s]?=some (.cells vs.toArray e (0,0))/\∃b,st.boxes s=some b/\b.live)\/(base=none/\m=0/\c=0/\k≠0))
  (hx:Src w xa k info.size xs)(hb:(m+k)*info.bytes<=140737488355328)(hmc:m<=c)(hcv:c*info.size<=vs.length)(hxl:xs.length=k*info.size)(hnb:st.boxes (nH s d)=none) :
  ∃(spare:List Value)(c' g:Nat)(w':World),m+k<=c'/\c'*info.size<=(m+k)*info.size+spare.length/\((c≠0\/k≠0)->c'≠0) /\
   (Builtin.append_ #[t,t] ty #[.slice base m c,.slice xa k xc]).run P w=.ok (.slice (some ⟨g,0,none⟩) (m+k) c') w' /\
   ∀bx:aQ,(bx=⟨.row (vs.take (m*info.size)++xs++spare),e⟩\/bx=⟨.bf (vs.take (m*info.size)++xs++spare),e⟩) ->
    Mod n V0 bu β0 ((st.box s ⟨.bf [],e⟩).box (nH s d) bx) (bN β (nH s d) g) a w' V:=by
 have hM1:Mod n V0 bu β0 (st.box s ⟨.bf [],e⟩) β a w V:=hM.void
 have hbx:∀bx:aQ,∀l:List Value,(bx=⟨.row l,e⟩\/bx=⟨.bf l,e⟩)->bx.cs.ids=[]/\bx.obj β=.cells l.toArray e (0,0):=by
  rintro bx l (rfl|rfl)<;>exact ⟨rfl,rfl⟩
 have NX:∀t b,(st.box s ⟨.bf [],e⟩).boxes t=some b->b.live->st.boxes t=some b/\t≠s:=by
  intro t b hb l
  rw [aj] at hb
  split at hb
  ·cases hb;exact absurd l fo
  ·rename_i h;exact ⟨hb,h⟩
 have hnone:(∃b,st.boxes s=some b/\b.live)\/True->(s≠nH s d\/st.boxes s=none)->(st.box s ⟨.bf [],e⟩).boxes (nH s d)=none\/s=nH s d:=by
  intro _ _
  by_cases h:s=nH s d
  ·exact .inr h
  ·left;rw [aj,if_neg (Ne.symm h)];exact hnb
 have grows:c<m+k->((∃b,base=some b/\(vs.take (m*info.size)).length=m*info.size/\∀j v,(vs.take (m*info.size))[j]?=some v->w.cell? (b.add j)=some v)\/base=none/\m=0/\c=0/\vs.take (m*info.size)=[]) ->
   (s=nH s d->st.boxes s=none) ->
   ∃(spare:List Value)(c' g:Nat)(w':World),m+k<=c'/\c'*info.size<=(m+k)*info.size+spare.length/\((c≠0\/k≠0)->c'≠0) /\
   (Builtin.append_ #[t,t] ty #[.slice base m c,.slice xa k xc]).run P w=.ok (.slice (some ⟨g,0,none⟩) (m+k) c') w' /\
   ∀bx:aQ,(bx=⟨.row (vs.take (m*info.size)++xs++spare),e⟩\/bx=⟨.bf (vs.take (m*info.size)++xs++spare),e⟩) ->
    Mod n V0 bu β0 ((st.box s ⟨.bf [],e⟩).box (nH s d) bx) (bN β (nH s d) g) a w' V:=by
  intro hc hold hsame
  obtain ⟨c',rest,w',h1,h2,hh,ho,htp,hou,hr⟩:=xG (ty:=ty) (xc:=xc) ht hi hz hzs hold hx hc hb hb0 hmc
  refine ⟨rest,c',w.heap.size,_,h1,by rw [←h2];exact Nat.le_refl _,by omega,hr,?_⟩
  intro bx hb'
  obtain ⟨k1,k2⟩:=hbx bx _ hb'
  have hsz:w'.heap.size=w.heap.size:=by rw [hh]
  by_cases hs:s=nH s d
  ·
   have e1:(st.box s ⟨.bf [],e⟩).box (nH s d) bx=st.box (nH s d) bx:=by
    rw [←hs]
    simp only [St.box]
    congr 1
    funext t
    cases Nat.beq t s<;>rfl
   rw [e1]
   refine hM.gX (zn hd) hnb k1 ?_ ?_ (.inl hM.ext.size) ?_ ?_ ?_ ho htp hou
   ·intro t' b' hb' l he
    have:=aC (hM.boxes t' b' hb' l)
    omega
   ·intro o hb';have:=aC (hM.pj _ o hb').1;omega
   ·rw [k2,←hsz];exact heap_alloc_new _ _
   ·intro i hi' _;rw [dj _ _ (by omega),hh]
   ·simp [hsz]
  ·refine hM1.gX (zn hd) (by rw [aj,if_neg (Ne.symm hs)];exact hnb) k1 ?_ ?_ (.inl hM.ext.size) ?_ ?_ ?_ ho htp hou
   ·intro t' b' hb' l he
    have:=aC (hM1.boxes t' b' hb' l)
    omega
   ·intro o hb';have:=aC (hM.pj _ o hb').1;omega
   ·rw [k2,←hsz];exact heap_alloc_new _ _
   ·intro i hi' _;rw [dj _ _ (by omega),hh]
   ·simp [hsz]
 rcases hbase with ⟨rfl,hg,bs,hbs,Sd⟩|⟨rfl,rfl,rfl,hk0⟩
 ·have Ni:s≠nH s d:=fun e=>by rw [←e,hbs] at hnb;cases hnb
  by_cases hc:m+k<=c
  ·obtain ⟨w',hr,hh,ho,htp,hou⟩:=FC (ty:=ty) (xc:=xc) ht hi hg hx hc hcv
   have hfit:m*info.size+xs.length<=vs.length:=by
    rw [hxl,←Nat.add_mul]
    exact Nat.le_trans (Nat.mul_le_mul_right _ hc) hcv
   have hlt:=aC hg
   refine ⟨vs.drop (m*info.size+xs.length),c,β s,w',hc,by rw [List.length_drop,hxl,Nat.add_mul];omega,by omega,hr,?_⟩
   intro bx hb'
   obtain ⟨k1,k2⟩:=hbx bx _ hb'
   refine hM1.gX (zn hd) (by rw [aj,if_neg (Ne.symm Ni)];exact hnb) k1 ?_ (hM.tA s bs hbs Sd) ?_ ?_ ?_ (by rw [hh];simp) ho htp hou
   ·intro t' b' hb' l he
    obtain ⟨h1,h2⟩:=NX t' b' hb' l
    exact h2 (hM.inj t' s b' bs h1 l hbs Sd he)
   ·rcases hM.own s bs hbs Sd with h1|h1
    ·exact .inl h1
    ·exact .inr ⟨D8 h1.1,h1.2⟩
   ·rw [hh,Array.getElem?_setIfInBounds,if_pos rfl,if_pos hlt,k2]
   ·intro i _ hne;rw [hh,Array.getElem?_setIfInBounds,if_neg (Ne.symm hne)]
  ·refine grows (by omega) (.inl ⟨⟨β s,0,none⟩,rfl,?_,?_⟩) (fun e=>absurd e Ni)
   ·rw [List.length_take,Nat.min_eq_left]
    exact Nat.le_trans (Nat.mul_le_mul_right _ hmc) hcv
   ·intro j v hj
    rw [eY,cell_of_row hg]
    rw [List.getElem?_take] at hj
    split at hj
    ·simpa using hj
    ·cases hj
 ·refine grows (by omega) (.inr ⟨rfl,rfl,rfl,by simp⟩) (fun e=>by rw [e];exact hnb)
theorem tU (hM:Mod n V0 bu β0 st β a w V){K:St->View->Prop}{d:Nat}(hd:d<n){t e ty:TypeId}{info:TypeInfo}{z:Value}
  (ht:P.underlying t=some (.slice e))(hi:P.info? e=some info)(hz:info.zero=some z)(hzs:z.cells.size=info.size)(hb0:info.bytes≠0)
  {s:Nat}{vs xs:List Value}{m c k xc:Nat}{xa:OA}(hg:w.heap[β s]?=some (.cells vs.toArray e (0,0)))(hbb:∃b,st.boxes s=some b/\b.live)
  (hx:Src w xa k info.size xs)(h:Aw s vs m c info.size info.bytes e d st V K k xs) :
  ∃v w' st' β',(Builtin.append_ #[t,t] ty #[.slice (some ⟨β s,0,none⟩) m c,.slice xa k xc]).run P w=.ok v w'/\Mod n V0 bu β0 st' β' (a.put (some d) v) w' V/\K st' V:=by
 obtain ⟨hb,hmc,hcv,hxl,hx1,h⟩:=h
 split at h
 ·exact h.elim
 ·rename_i hnb
  obtain ⟨spare,c',g,w',h1,h2,-,hr,MX⟩:=Ay (ty:=ty) (xc:=xc) hM hd ht hi hz hzs hb0 (.inl ⟨rfl,hg,hbb⟩) hx hb hmc hcv hxl hnb
  refine ⟨_,w',_,_,hr,(MX _ (.inl rfl)).put (x:=.c (.gZ (nH s d) 0 (m+k) c')) hd ?_ ?_,h 0 (fun _=>.bool true) spare c' h1 h2⟩
  ·simp [SV.den,C.den,aP]
  ·intro s' hs'
   simp [SV.ids,C.ids] at hs'
   subst hs'
   exact ⟨_,by rw [aj,if_pos rfl]⟩
theorem uS (hM:Mod n V0 bu β0 st β a w V){K:St->View->Prop}{d:Nat}(hd:d<n){t e ty:TypeId}{info:TypeInfo}{z:Value}
  (ht:P.underlying t=some (.slice e))(hi:P.info? e=some info)(hz:info.zero=some z)(hzs:z.cells.size=info.size)(hb0:info.bytes≠0)(hs0:info.size≠0)
  {s:Nat}{vs xs:List Value}{m c k xc:Nat}{xa:OA}(hbb:st.boxes s=some ⟨.bf vs,e⟩)
  (hx:Src w xa k info.size xs)(h:rX s vs m c info.size info.bytes e d st V K k xs) :
  ∃v w' st' β',(Builtin.append_ #[t,t] ty #[.slice (mA (β s) c) m c,.slice xa k xc]).run P w=.ok v w'/\Mod n V0 bu β0 st' β' (a.put (some d) v) w' V/\K st' V:=by
 obtain ⟨hb,hmc,hcv,hxl,hx1,h⟩:=h
 split at h
 ·exact h.elim
 ·rename_i hnb
  have fin:((mA (β s) c=some ⟨β s,0,none⟩/\w.heap[β s]?=some (.cells vs.toArray e (0,0))/\∃b,st.boxes s=some b/\b.live)\/(mA (β s) c=none/\m=0/\c=0/\k≠0))->(c≠0\/k≠0) ->
    ∃v w' st' β',(Builtin.append_ #[t,t] ty #[.slice (mA (β s) c) m c,.slice xa k xc]).run P w=.ok v w'/\Mod n V0 bu β0 st' β' (a.put (some d) v) w' V/\K st' V:=by
   intro hbase hne
   obtain ⟨spare,c',g,w',h1,h2,h3,hr,MX⟩:=Ay (ty:=ty) (xc:=xc) hM hd ht hi hz hzs hb0 hbase hx hb hmc hcv hxl hnb
   refine ⟨_,w',_,_,hr,(MX _ (.inr rfl)).put (x:=.c (.kv (nH s d) (m+k) c')) hd ?_ ?_,h spare c' h1 h2⟩
   ·simp [SV.den,C.den,aP,mA,h3 hne]
   ·intro s' hs'
    simp [SV.ids,C.ids] at hs'
    subst hs'
    exact ⟨_,by rw [aj,if_pos rfl]⟩
  by_cases hc:c=0
  ·have hm:m=0:=by omega
   by_cases hk:k=0
   ·
    subst hc hm hk
    have hK:=h [] 0 (by omega) (by simp)
    have hx0:xs=[]:=List.length_eq_zero_iff.1 (by simpa using hxl)
    subst hx0
    have e1:vs.take (0*info.size)++[]++[]=([]:List Value):=by simp
    rw [e1] at hK
    have hM2:Mod n V0 bu β0 ((st.box s ⟨.bf [],e⟩).box (nH s d) ⟨.bf [],e⟩) β a w V:=hM.void.void
    refine ⟨.slice none 0 0,w,_,_,?_,hM2.put (x:=.c (.kv (nH s d) 0 0)) hd ?_ ?_,hK⟩
    ·have e2:mA (β s) 0=none:=rfl
     rw [e2]
     cases xa with
     | none=>exact tT ht hi none 0 0 xc (by omega)
     | some ad=>simp [Builtin.append_,ao ht,aN hi,Builtin.lenOf,Builtin.firstCells,loadCells,loadCellsFrom]
    ·simp [SV.den,C.den,mA]
    ·intro s' hs'
     simp [SV.ids,C.ids] at hs'
     subst hs'
     exact ⟨_,by rw [aj,if_pos rfl]⟩
   ·exact fin (.inr ⟨by rw [hc];rfl,hm,hc,hk⟩) (.inr hk)
  ·have hlv:aQ.live ⟨.bf vs,e⟩:=eR fun e'=>by
    subst e'
    have h0:c*info.size=0:=by simpa using hcv
    rcases Nat.mul_eq_zero.1 h0 with h0|h0
    ·exact hc h0
    ·exact hs0 h0
   exact fin (.inl ⟨by simp [mA,hc],hM.row hbb hlv,_,hbb,hlv⟩) (.inl hc)
theorem tV (hM:Mod n V0 bu β0 st β a w V){K:St->View->Prop}{d:Nat}(hd:d<n){t e ty:TypeId}{info:TypeInfo}{z:Value}
  (ht:P.underlying t=some (.slice e))(hi:P.info? e=some info)(hz:info.zero=some z)(hzs:z.cells.size=info.size)(hb0:info.bytes≠0)
  {vs xs:List Value}{m c k xc:Nat}{xa ba:OA}(hsl:V.sl ba vs)(hvl:vs.length=m*info.size)(hmc:m<=c)(hn0:ba.isNone=true->c=0)(hs0:info.size≠0)
  (hx:Src w xa k info.size xs)(h:Ax vs m c info.size info.bytes e d st V K k xs) :
  ∃v w' st' β',(Builtin.append_ #[t,t] ty #[.slice ba m c,.slice xa k xc]).run P w=.ok v w'/\Mod n V0 bu β0 st' β' (a.put (some d) v) w' V/\K st' V:=by
 obtain ⟨hb,hlt,hxl,hx1,h⟩:=h
 have hbase:(∃b,ba=some b/\vs.length=m*info.size/\∀j v,vs[j]?=some v->w.cell? (b.add j)=some v)\/ba=none/\m=0/\c=0/\vs=[]:=by
  cases ba with
  | some b=>exact .inl ⟨b,rfl,hvl,vr hM hsl⟩
  | none=>
   have hc:=hn0 rfl
   have hm:m=0:=by omega
   subst hm
   exact .inr ⟨rfl,rfl,hc,List.length_eq_zero_iff.1 (by simpa using hvl)⟩
 obtain ⟨c',rest,w',h1,h2,hh,ho,htp,hou,hr⟩:=xG (ty:=ty) (xc:=xc) (base:=ba) (olds:=vs) ht hi hz hzs hbase hx hlt hb hb0 hmc
 split at h
 ·exact h.elim
 ·rename_i hn
  have hK:=h rest c' h1 (by rw [←h2];exact Nat.le_refl _)
  have hsz:w'.heap.size=w.heap.size:=by rw [hh]
  have WE:=Mod.gX hM (d:=d) (g:=w.heap.size) (b:=⟨.row (vs++xs++rest),e⟩) (w':=w'.alloc (.cells (vs++xs++rest).toArray e)) (.inl hd) hn rfl
   (by
    intro t' b' hb' l he
    have:=aC (hM.boxes t' b' hb' l)
    omega)
   (by intro o hb';have:=aC (hM.pj _ o hb').1;omega) (.inl hM.ext.size)
   (by rw [←hsz];exact heap_alloc_new _ _)
   (by intro i hi' _;rw [dj _ _ (by omega),hh])
   (by simp [hsz]) ho htp hou
  refine ⟨_,_,_,_,hr,WE.put (x:=.c (.gZ d 0 (m+k) c')) hd ?_ ?_,hK⟩
  ·simp [SV.den,C.den,aP]
  ·intro s' hs'
   simp [SV.ids,C.ids] at hs'
   subst hs'
   exact ⟨_,by rw [aj,if_pos rfl]⟩
end Go.bK
namespace Go.bK
variable {P:Program} {T:cO} {n:Nat} {V0:View} {bu:Cr} {β0:Nat->Nat} {st:St} {β:Nat->Nat} {a:Act} {w:World} {V:View}
theorem BL (ws:List Value)(o n:Nat):(ck ws o n).length=n:=by
 unfold ck
 cases h:Nat.ble (o+n) ws.length with
 | true=>
  have:=Nat.le_of_ble_eq_true h
  simp only [cond_true]
  rw [List.length_take,List.length_drop];omega
 | false=>simp
theorem BK {ws:List Value}{o n:Nat}(h1:∀v∈ck ws o n,v.oneCell'=true){j:Nat}{v:Value}(hj:(ck ws o n)[j]?=some v):ws[o+j]?=some v:=by
 unfold ck at h1 hj
 cases h:Nat.ble (o+n) ws.length with
 | true=>
  rw [h] at hj
  simp only [cond_true] at hj
  rw [List.getElem?_take] at hj
  split at hj
  ·simpa using hj
  ·cases hj
 | false=>
  rw [h] at hj h1
  simp only [cond_false] at hj h1
  have hm:=List.mem_of_getElem? hj
  have:=h1 v hm
  rw [List.eq_of_mem_replicate hm] at this
  cases this
theorem Ej (hM:Mod n V0 bu β0 st β a w V){ei:TI}{info:TypeInfo}(e5:ei.size=info.size){s o k xc:Nat}{src:OA×Nat ⊕ List Value}
  (hsrc:(match st.boxes s with
    | some ⟨.row ws,_⟩=>some (.inr (ck ws o (k*ei.size)))
    | _=>match dO st.boxes s with
     | some ws=>if Nat.ble (o+k*ei.size) ws.length then some (.inr ((ws.drop o).take (k*ei.size))) else none
     | none=>none)=some src) :
  ∃xa k' O8,(SV.c (.gZ s o k xc)).den β=.slice xa k' O8/\((src=.inl (xa,k'))\/∃xs,src=.inr xs/\xs.length=k'*info.size/\∃ad,xa=some ad/\((∀v∈xs,v.oneCell'=true)->∀j v,xs[j]?=some v->w.cell? (ad.add j)=some v)):=by
 split at hsrc
 ·rename_i ws ty hbx
  simp only [Option.some.injEq] at hsrc
  subst hsrc
  have hws:dO st.boxes s=some ws:=by unfold dO;rw [hbx]
  have htx:kf st.boxes s=some ty:=by unfold kf;rw [hbx]
  obtain ⟨k1,-⟩:=me hM hws htx
  refine ⟨_,k,xc,rfl,.inr ⟨_,rfl,?_,⟨β s,o,none⟩,rfl,?_⟩⟩
  ·rw [BL,←e5]
  ·intro h1 j v hj
   rw [eY,cell_of_row k1]
   exact BK h1 hj
 ·split at hsrc
  ·rename_i ws hws
   split at hsrc
   ·rename_i hle
    have hle:=Nat.le_of_ble_eq_true hle
    simp only [Option.some.injEq] at hsrc
    subst hsrc
    obtain ⟨tx,htx⟩:=Cy hws
    obtain ⟨k1,-⟩:=me hM hws htx
    refine ⟨_,k,xc,rfl,.inr ⟨_,rfl,?_,⟨β s,o,none⟩,rfl,?_⟩⟩
    ·rw [List.length_take,List.length_drop,←e5];omega
    ·intro _ j v hj
     rw [eY,cell_of_row k1]
     rw [List.getElem?_take] at hj
     split at hj
     ·simpa using hj
     ·cases hj
   ·cases hsrc
  ·cases hsrc
theorem zD (hM:Mod n V0 bu β0 st β a w V){e:TypeId}{ei:TI}{info:TypeInfo}{z:Value}(e5:ei.size=info.size)(e6:ei.bytes=info.bytes)(e7:ei.zero=z.cells.toList.map C.ofConst)
  {b x:SV}{old:Option Nat}{ba:OA}{vs:List Value}{m c:Nat}{src:OA×Nat ⊕ List Value}{size bytes:Nat}{ty:TypeId}
  (h:bZ st.boxes e ei b x=.app old ba vs m c src size bytes ty) :
  size=info.size/\bytes=info.bytes/\ty=e/\info.bytes≠0/\info.size≠0/\z.cells.size=info.size /\
  (∃base,b.den β=.slice base m c/\((∃s,old=some s/\base=some ⟨β s,0,none⟩/\w.heap[β s]?=some (.cells vs.toArray e (0,0))/\∃b,st.boxes s=some b/\b.live)\/old=none/\base=ba)) /\
  ∃xa k xc,x.den β=.slice xa k xc/\((src=.inl (xa,k))\/∃xs,src=.inr xs/\xs.length=k*info.size/\∃ad,xa=some ad/\((∀v∈xs,v.oneCell'=true)->∀j v,xs[j]?=some v->w.cell? (ad.add j)=some v)):=by
 unfold bZ at h
 split at h
 ·cases h
 ·rename_i zs hzs
  split at h
  ·cases h
  ·rename_i hcond
   simp only [Bool.or_eq_true,beq_eq,Bool.not_eq_eq_eq_not,not_or] at hcond
   obtain ⟨⟨g1,g2⟩,g3⟩:=hcond
   have g3:ei.size=zs.length:=by
    rcases hb:Nat.beq ei.size zs.length with _|_
    ·rw [hb] at g3;exact absurd rfl g3
    ·exact beq_eq.1 hb
   obtain ⟨z1,-⟩:=dL (β:=β) e7
   obtain ⟨d1,-⟩:=eV (β:=β) hzs
   have hzs':z.cells.size=info.size:=by rw [←z1,d1];simp [←g3,e5]
   dsimp only at h
   split at h
   ·cases h
   ·rename_i src' hsrc
    have hb:(src'=src/\ei.size=size/\ei.bytes=bytes/\e=ty)/\∃base,b.den β=.slice base m c/\((∃s,old=some s/\base=some ⟨β s,0,none⟩/\w.heap[β s]?=some (.cells vs.toArray e (0,0))/\∃b,st.boxes s=some b/\b.live)\/old=none/\base=ba):=by
     split at h
     ·simp only [Q.app.injEq] at h
      obtain ⟨rfl,rfl,rfl,rfl,rfl,rfl,rfl,rfl,rfl⟩:=h
      exact ⟨⟨rfl,rfl,rfl,rfl⟩,_,rfl,.inr ⟨rfl,rfl⟩⟩
     ·rename_i s n' c'
      split at h
      ·rename_i vs' ty' hv ht
       split at h
       ·rename_i he
        obtain rfl:=beq_eq.1 he
        simp only [Q.app.injEq] at h
        obtain ⟨rfl,rfl,rfl,rfl,rfl,rfl,rfl,rfl,rfl⟩:=h
        obtain ⟨k1,k2⟩:=me hM hv ht
        exact ⟨⟨rfl,rfl,rfl,rfl⟩,_,rfl,.inl ⟨s,rfl,rfl,k1,k2⟩⟩
       ·cases h
      ·cases h
     ·split at h
      ·split at h<;>cases h
      ·cases h
     ·cases h
    obtain ⟨⟨rfl,rfl,rfl,rfl⟩,hb⟩:=hb
    refine ⟨e5,e6,rfl,by rw [←e6];exact g1,by rw [←e5];exact g2,hzs',hb,?_⟩
    split at hsrc
    ·rename_i xa k xc
     simp only [Option.some.injEq] at hsrc
     subst hsrc
     exact ⟨xa,k,xc,rfl,.inl rfl⟩
    ·rename_i s o k xc
     exact Ej hM e5 hsrc
    ·cases hsrc
theorem wP (hM:Mod n V0 bu β0 st β a w V){e:TypeId}{ei:TI}{info:TypeInfo}{z:Value}(e5:ei.size=info.size)(e6:ei.bytes=info.bytes)(e7:ei.zero=z.cells.toList.map C.ofConst)
  {b x:SV}{s:Nat}{vs:List Value}{m c:Nat}{src:OA×Nat ⊕ List Value}{size bytes:Nat}{ty:TypeId}
  (h:bZ st.boxes e ei b x=.rm s vs m c src size bytes ty) :
  size=info.size/\bytes=info.bytes/\ty=e/\info.bytes≠0/\info.size≠0/\z.cells.size=info.size /\
  (b.den β=.slice (mA (β s) c) m c/\st.boxes s=some ⟨.bf vs,e⟩) /\
  ∃xa k xc,x.den β=.slice xa k xc/\((src=.inl (xa,k))\/∃xs,src=.inr xs/\xs.length=k*info.size/\∃ad,xa=some ad/\((∀v∈xs,v.oneCell'=true)->∀j v,xs[j]?=some v->w.cell? (ad.add j)=some v)):=by
 unfold bZ at h
 split at h
 ·cases h
 ·rename_i zs hzs
  split at h
  ·cases h
  ·rename_i hcond
   simp only [Bool.or_eq_true,beq_eq,Bool.not_eq_eq_eq_not,not_or] at hcond
   obtain ⟨⟨g1,g2⟩,g3⟩:=hcond
   have g3:ei.size=zs.length:=by
    rcases hb:Nat.beq ei.size zs.length with _|_
    ·rw [hb] at g3;exact absurd rfl g3
    ·exact beq_eq.1 hb
   obtain ⟨z1,-⟩:=dL (β:=β) e7
   obtain ⟨d1,-⟩:=eV (β:=β) hzs
   have hzs':z.cells.size=info.size:=by rw [←z1,d1];simp [←g3,e5]
   dsimp only at h
   split at h
   ·cases h
   ·rename_i src' hsrc
    have hb:(src'=src/\ei.size=size/\ei.bytes=bytes/\e=ty)/\b.den β=.slice (mA (β s) c) m c/\st.boxes s=some ⟨.bf vs,e⟩:=by
     split at h
     ·cases h
     ·split at h
      ·split at h<;>cases h
      ·cases h
     ·rename_i s' n' c'
      split at h
      ·rename_i vs' ty' hv
       split at h
       ·rename_i he
        obtain rfl:=beq_eq.1 he
        simp only [Q.rm.injEq] at h
        obtain ⟨rfl,rfl,rfl,rfl,rfl,rfl,rfl,rfl⟩:=h
        exact ⟨⟨rfl,rfl,rfl,rfl⟩,rfl,hv⟩
       ·cases h
      ·cases h
     ·cases h
    obtain ⟨⟨rfl,rfl,rfl,rfl⟩,hb⟩:=hb
    refine ⟨e5,e6,rfl,by rw [←e6];exact g1,by rw [←e5];exact g2,hzs',hb,?_⟩
    split at hsrc
    ·rename_i xa k xc
     simp only [Option.some.injEq] at hsrc
     subst hsrc
     exact ⟨xa,k,xc,rfl,.inl rfl⟩
    ·rename_i s o k xc
     exact Ej hM e5 hsrc
    ·cases hsrc
theorem E0 (hT:cO.ok P T)(hM:Mod n V0 bu β0 st β a w V){o:Oper}{K:St->View->Prop}{d:Nat}(hd:d<n){old:Option Nat}{ba:OA}{vs:List Value}{m c:Nat}{src:OA×Nat ⊕ List Value}{size bytes:Nat}{ty:TypeId}
  (h:aJ T st.aZ st.boxes o.op=.app old ba vs m c src size bytes ty)(hv:sM (.app old ba vs m c src size bytes ty) (some d) st V K) :
  ∃v w' st' β',(execOp a.eval o).run P w=.ok (.value v) w'/\Mod n V0 bu β0 st' β' (a.put (some d) v) w' V/\K st' V:=by
 obtain ⟨cl,hop,pN⟩:=(eT (T:=T) (ρ:=st.aZ) (bx:=st.boxes) (op:=o.op)).2.2 (by rw [h];rfl)
 rw [hop] at h
 simp only [aJ,pN] at h
 split at h
 ·rename_i b x t t' hargs hts
  split at h
  ·rename_i i i' hi hi'
   split at h
   ·rename_i e e' hk hk'
    split at h
    ·rename_i ei A_
     obtain ⟨JM,d0,z0,h1,h2,h3,h4,-⟩:=aD (hT _ _ hi)
     obtain ⟨KU,d0',Yw,h1',h2',h3',h4',-⟩:=aD (hT _ _ hi')
     obtain ⟨info,de,z,e1,e2,e3,e4,e5,e6,e7⟩:=aD (hT _ _ A_)
     rw [h4] at hk
     rw [h4'] at hk'
     obtain rfl:=aT hk
     obtain rfl:=aT hk'
     obtain ⟨rfl,rfl,rfl,hb0,hs0,hzs,⟨base,hbd,hold⟩,xa,k,xc,hxd,hsrc⟩:=zD hM e5 e6 e7 h
     obtain ⟨q1,q2⟩:=eS hM _ _ hargs
     have f1:cl.argTypes=#[t,t']:=by apply Array.ext';exact hts
     have f2:cl.args.map a.eval=#[.slice base m c,.slice xa k xc]:=by
      apply Array.ext';rw [Array.toList_map,q1];simp [hbd,hxd]
     have hrun:∀{v w'},(Builtin.append_ #[t,t] o.type #[.slice base m c,.slice xa k xc]).run P w=.ok v w'->(execOp a.eval o).run P w=.ok (.value v) w':=by
      intro v w' hr
      simp only [execOp,hop,resolve,pN,pure_bind,invoke,f1,f2,builtin]
      refine dw ?_
      rw [xH h2 h2']
      exact hr
     have fin:∀{v w' st' β'},(Builtin.append_ #[t,t] o.type #[.slice base m c,.slice xa k xc]).run P w=.ok v w'->Mod n V0 bu β0 st' β' (a.put (some d) v) w' V->K st' V ->
       ∃v w' st' β',(execOp a.eval o).run P w=.ok (.value v) w'/\Mod n V0 bu β0 st' β' (a.put (some d) v) w' V/\K st' V:=fun r1 r2 r3=>⟨_,_,_,_,hrun r1,r2,r3⟩
     have Jb:∀xs,V.sl xa xs->xs.length=k*info.size->(∀v∈xs,v.oneCell'=true)->Src w xa k info.size xs:=by
      intro xs hsl hxl h1
      refine ⟨hxl,h1,?_⟩
      cases xa with
      | some ad=>exact .inl ⟨ad,rfl,vr hM hsl⟩
      | none=>
       refine .inr ⟨rfl,?_⟩
       have:xs=[]:=by
        cases xs with
        | nil=>rfl
        | cons y r=>obtain ⟨ad,e,-⟩:=hsl 0 y (by simp);cases e
       rw [this] at hxl
       rcases Nat.mul_eq_zero.1 hxl.symm with h|h
       ·exact h
       ·exact absurd h hs0
     rcases hold with ⟨s,rfl,rfl,hg,hbb⟩|⟨rfl,rfl⟩
     ·rcases hsrc with rfl|⟨xs,rfl,hxl,ad,rfl,hcells⟩
      ·obtain ⟨xs,hsl,hxl,hv⟩:=hv
       obtain ⟨v,w',st',β',r1,r2,r3⟩:=tU (ty:=o.type) (xc:=xc) hM hd h2 e1 e3 hzs hb0 hg hbb (Jb xs hsl hxl hv.2.2.2.2.1) hv
       exact fin r1 r2 r3
      ·have hkk:xs.length / info.size=k:=by rw [hxl];exact Nat.mul_div_cancel _ (by omega)
       simp only [sM,hkk] at hv
       obtain ⟨v,w',st',β',r1,r2,r3⟩:=tU (ty:=o.type) (xc:=xc) hM hd h2 e1 e3 hzs hb0 hg hbb ⟨hxl,hv.2.2.2.2.1,.inl ⟨ad,rfl,hcells hv.2.2.2.2.1⟩⟩ hv
       exact fin r1 r2 r3
     ·obtain ⟨vs,Nn,hvl,hmc,hn0,hv⟩:=hv
      rcases hsrc with rfl|⟨xs,rfl,hxl,ad,rfl,hcells⟩
      ·obtain ⟨xs,hsl,hxl,hv1,hv2⟩:=hv
       by_cases hk0:k=0
       ·have hK:=hv1 hk0
        subst hk0
        refine fin (v:=.slice base m c) (w':=w) ?_ (hM.put (x:=.c (.v (.slice base m c))) hd rfl (fun s hs=>by cases hs)) hK
        cases xa with
        | none=>exact tT h2 e1 base m c xc hmc
        | some ad=>cases base<;>simp [Builtin.append_,ao h2,aN e1,Builtin.lenOf,Builtin.firstCells,loadCells,loadCellsFrom,storeCells,hmc]
       ·have hK:=hv2 hk0
        obtain ⟨v,w',st',β',r1,r2,r3⟩:=tV (ty:=o.type) (xc:=xc) hM hd h2 e1 e3 hzs hb0 Nn hvl hmc hn0 hs0 (Jb xs hsl hxl hK.2.2.2.1) hK
        exact fin r1 r2 r3
      ·have hkk:xs.length / info.size=k:=by rw [hxl];exact Nat.mul_div_cancel _ (by omega)
       dsimp only at hv
       rw [hkk] at hv
       obtain ⟨v,w',st',β',r1,r2,r3⟩:=tV (ty:=o.type) (xc:=xc) hM hd h2 e1 e3 hzs hb0 Nn hvl hmc hn0 hs0 ⟨hxl,hv.2.2.2.1,.inl ⟨ad,rfl,hcells hv.2.2.2.1⟩⟩ hv
       exact fin r1 r2 r3
    ·cases h
   ·cases h
  ·cases h
 ·cases h
theorem Dg (hT:cO.ok P T)(hM:Mod n V0 bu β0 st β a w V){o:Oper}{K:St->View->Prop}{d:Nat}(hd:d<n){s:Nat}{vs:List Value}{m c:Nat}{src:OA×Nat ⊕ List Value}{size bytes:Nat}{ty:TypeId}
  (h:aJ T st.aZ st.boxes o.op=.rm s vs m c src size bytes ty)(hv:sM (.rm s vs m c src size bytes ty) (some d) st V K) :
  ∃v w' st' β',(execOp a.eval o).run P w=.ok (.value v) w'/\Mod n V0 bu β0 st' β' (a.put (some d) v) w' V/\K st' V:=by
 obtain ⟨cl,hop,pN⟩:=(eT (T:=T) (ρ:=st.aZ) (bx:=st.boxes) (op:=o.op)).2.2 (by rw [h];rfl)
 rw [hop] at h
 simp only [aJ,pN] at h
 split at h
 ·rename_i b x t t' hargs hts
  split at h
  ·rename_i i i' hi hi'
   split at h
   ·rename_i e e' hk hk'
    split at h
    ·rename_i ei A_
     obtain ⟨JM,d0,z0,h1,h2,h3,h4,-⟩:=aD (hT _ _ hi)
     obtain ⟨KU,d0',Yw,h1',h2',h3',h4',-⟩:=aD (hT _ _ hi')
     obtain ⟨info,de,z,e1,e2,e3,e4,e5,e6,e7⟩:=aD (hT _ _ A_)
     rw [h4] at hk
     rw [h4'] at hk'
     obtain rfl:=aT hk
     obtain rfl:=aT hk'
     obtain ⟨rfl,rfl,rfl,hb0,hs0,hzs,⟨hbd,hbb⟩,xa,k,xc,hxd,hsrc⟩:=wP hM e5 e6 e7 h
     obtain ⟨q1,q2⟩:=eS hM _ _ hargs
     have f1:cl.argTypes=#[t,t']:=by apply Array.ext';exact hts
     have f2:cl.args.map a.eval=#[.slice (mA (β s) c) m c,.slice xa k xc]:=by
      apply Array.ext';rw [Array.toList_map,q1];simp [hbd,hxd]
     have hrun:∀{v w'},(Builtin.append_ #[t,t] o.type #[.slice (mA (β s) c) m c,.slice xa k xc]).run P w=.ok v w'->(execOp a.eval o).run P w=.ok (.value v) w':=by
      intro v w' hr
      simp only [execOp,hop,resolve,pN,pure_bind,invoke,f1,f2,builtin]
      refine dw ?_
      rw [xH h2 h2']
      exact hr
     have fin:∀{v w' st' β'},(Builtin.append_ #[t,t] o.type #[.slice (mA (β s) c) m c,.slice xa k xc]).run P w=.ok v w'->Mod n V0 bu β0 st' β' (a.put (some d) v) w' V->K st' V ->
       ∃v w' st' β',(execOp a.eval o).run P w=.ok (.value v) w'/\Mod n V0 bu β0 st' β' (a.put (some d) v) w' V/\K st' V:=fun r1 r2 r3=>⟨_,_,_,_,hrun r1,r2,r3⟩
     have Jb:∀xs,V.sl xa xs->xs.length=k*info.size->(∀v∈xs,v.oneCell'=true)->Src w xa k info.size xs:=by
      intro xs hsl hxl h1
      refine ⟨hxl,h1,?_⟩
      cases xa with
      | some ad=>exact .inl ⟨ad,rfl,vr hM hsl⟩
      | none=>
       refine .inr ⟨rfl,?_⟩
       have:xs=[]:=by
        cases xs with
        | nil=>rfl
        | cons y r=>obtain ⟨ad,e,-⟩:=hsl 0 y (by simp);cases e
       rw [this] at hxl
       rcases Nat.mul_eq_zero.1 hxl.symm with h|h
       ·exact h
       ·exact absurd h hs0
     rcases hsrc with rfl|⟨xs,rfl,hxl,ad,rfl,hcells⟩
     ·obtain ⟨xs,hsl,hxl,hv⟩:=hv
      obtain ⟨v,w',st',β',r1,r2,r3⟩:=uS (ty:=o.type) (xc:=xc) hM hd h2 e1 e3 hzs hb0 hs0 hbb (Jb xs hsl hxl hv.2.2.2.2.1) hv
      exact fin r1 r2 r3
     ·have hkk:xs.length / info.size=k:=by rw [hxl];exact Nat.mul_div_cancel _ (by omega)
      simp only [sM,hkk] at hv
      obtain ⟨v,w',st',β',r1,r2,r3⟩:=uS (ty:=o.type) (xc:=xc) hM hd h2 e1 e3 hzs hb0 hs0 hbb ⟨hxl,hv.2.2.2.2.1,.inl ⟨ad,rfl,hcells hv.2.2.2.2.1⟩⟩ hv
      exact fin r1 r2 r3
    ·cases h
   ·cases h
  ·cases h
 ·cases h
theorem BC (hT:cO.ok P T)(hM:Mod n V0 bu β0 st β a w V){o:Oper}{K:St->View->Prop}{next:Act->World->Prop}{Q:Exit->Act->World->Prop}
  (hd:∀d,o.dst=some d->d<n)(hv:sM (aJ T st.aZ st.boxes o.op) o.dst st V K)
  (hK:∀st' β' a' w' V',Mod n V0 bu β0 st' β' a' w' V'->K st' V'->next a' w'):o.wp P a w next Q:=by
 unfold Oper.wp
 generalize hq:aJ T st.aZ st.boxes o.op=q at hv
 cases q with
 | fail=>exact hv.elim
 | ret sc x=>
  obtain ⟨h1,h2⟩:=(df sc _).1 hv
  obtain ⟨r1,r2⟩:=E2 hT hM hq h1
  rw [r1]
  exact hK _ _ _ _ _ (hM.Da hd rfl r2) h2
 | new sc b x=>
  simp only [sM] at hv
  cases hdst:o.dst with
  | none=>rw [hdst] at hv;exact hv.elim
  | some d=>
   rw [hdst] at hv
   dsimp only at hv
   split at hv
   ·rename_i hn
    obtain ⟨h1,h2⟩:=(df sc _).1 hv
    obtain ⟨v,r1,r2,r3⟩:=E1 hT hM hq h1
    rw [r1]
    have hM':=hM.new (hd d hdst) hn r3
    have:=hM'.put (x:=x d) (v:=v) (hd d hdst) (r2 d).1 (by
     intro s hs
     rw [(r2 d).2] at hs
     simp at hs
     subst hs
     exact ⟨b,by rw [aj,if_pos rfl]⟩)
    simp only [Oper.upon_value,hdst]
    exact hK _ _ _ _ _ this h2
   ·exact hv.elim
 | sL sc s b=>
  simp only [sM] at hv
  cases hdst:o.dst with
  | some d=>rw [hdst] at hv;exact hv.elim
  | none=>
   rw [hdst] at hv
   dsimp only at hv
   obtain ⟨h1,h2⟩:=(df sc _).1 hv
   obtain ⟨nx,w',r1,rx,r2⟩:=E3 hT hM hq h1
   rw [r1]
   rcases rx with rfl|⟨v,rfl⟩
   ·simp only [Oper.upon_skip,hdst]
    exact hK _ _ _ _ _ r2 h2
   ·simp only [Oper.upon_value,hdst]
    exact hK _ _ _ _ _ r2 h2
 | rd p sh=>
  obtain ⟨x,h1,h2,h3⟩:=tK.dP sh hv
  have h2':(∃c,x=.c c/\∃s',sh=.one s')\/∃cs l,x=.agg cs/\sh=.agg l/\cs.length=l.length:=h2
  obtain ⟨r1,r2⟩:=G8 hT hM hq h1 h2' h3
  rw [r1]
  exact hK _ _ _ _ _ (hM.Da hd rfl (bP h1)) r2
 | nW vs of size sh=>
  obtain ⟨x,h1,h2,h3,h4⟩:=tK.dP sh hv
  have r1:=BB hT hM hq h1 h2 h3
  rw [r1]
  exact hK _ _ _ _ _ (hM.Da hd rfl (bP h1)) h4
 | rm s vs m c src size bytes ty=>
  cases hdst:o.dst with
  | none=>rw [hdst] at hv;exact hv.elim
  | some d=>
   rw [hdst] at hv
   obtain ⟨v,w',st',β',r1,r2,r3⟩:=Dg hT hM (hd d hdst) hq hv
   rw [r1]
   simp only [Oper.upon_value,hdst]
   exact hK _ _ _ _ _ r2 r3
 | app old ba vs m c src size bytes ty=>
  cases hdst:o.dst with
  | none=>rw [hdst] at hv;exact hv.elim
  | some d=>
   rw [hdst] at hv
   obtain ⟨v,w',st',β',r1,r2,r3⟩:=E0 hT hM (hd d hdst) hq hv
   rw [r1]
   simp only [Oper.upon_value,hdst]
   exact hK _ _ _ _ _ r2 r3
end Go.bK
namespace Go.bK
variable {P:Program} {T:cO} {n:Nat} {V0:View} {bu:Cr} {β0:Nat->Nat} {st:St} {β:Nat->Nat} {a:Act} {w:World} {V:View}
def cE (V:View)(w:World):View:=⟨w,fun b=>b<w.heap.size/\∀o,¬V.bE b o,fun _=>False,fun _ h=>h.1,fun _ h=>h.elim⟩
theorem Fj (hM:Mod n V0 bu β0 st β a w V):V.Le (cE V w):=fun b o hb=>⟨fun h=>h.2 o hb,(hM.pj b o hb).1⟩
theorem j_.run {f:FuncId}(h:j_ P f)(xs:Array Value):(callFunc f xs).run P w=.ok (.enter f xs) w:=by
 obtain ⟨fn,h1,h2,h3⟩:=h
 simp only [callFunc,Sem.run_bind,run_program,Result.andThen_ok,h1,h3,h2,Bool.false_eq_true,if_false,Sem.run_pure]
theorem bL {x:Nat}:∀{l:List Nat},x∈dedup l↔x∈l
 | []=>by simp [dedup]
 | y::r=>by
  simp only [dedup]
  cases h:ea y (dedup r) with
  | true=>
   simp only [cond_true,List.mem_cons]
   rw [bL]
   constructor
   ·exact .inr
   ·rintro (rfl|h')
    ·exact bL.1 (ch.1 h)
    ·exact h'
  | false=>simp only [cond_false,List.mem_cons];rw [bL]
theorem dS {bx:Nat->Option aQ}:∀(k:Nat)(l:List Nat),∀x∈l,x∈reach bx k l
 | 0,_,x,hx=>hx
 | k+1,l,x,hx=>by simp only [reach];exact dS k _ x (bL.2 (List.mem_append_left _ hx))
theorem gz {bx:Nat->Option aQ}{l:List Nat}(h:fZ bx l=true){s:Nat}(hs:s∈l){b:aQ}(hb:bx s=some b):∀t∈b.cs.ids,t∈l:=by
 unfold fZ at h
 rw [List.all_eq_true] at h
 have:=h s hs
 unfold Hr kL at this
 rw [hb,List.all_eq_true] at this
 exact fun t ht=>ch.1 (this t ht)
theorem kb {L:List Nat}:∀{γ:Nat->Nat} {k:(Nat->Nat)->Prop},lV L γ k->∀β:Nat->Nat,k (fun t=>if t∈L then β t else γ t):=by
 induction L with
 | nil=>
  intro γ k h β
  have e:(fun t=>if t∈([]:List Nat) then β t else γ t)=γ:=by funext t;simp
  rw [e];exact h
 | cons s r ih=>
  intro γ k h β
  have:=ih (h (β s)) β
  have e:(fun t=>if t∈r then β t else bN γ s (β s) t)=fun t=>if t∈s::r then β t else γ t:=by
   funext t
   by_cases h1:t∈r
   ·simp [h1]
   ·by_cases h2:t=s
    ·subst h2;simp [h1,aP]
    ·simp [h1,h2,fr]
  rw [e] at this
  exact this
theorem uZ {bx:Nat->Option aQ}{b:aQ}{γ:Nat->Nat}{s:Nat}:∀{r:List Nat} {k:Prop},JT bx b γ s r k->(∀t∈r,∀b',bx t=some b'->b.live->b'.live->γ s=γ t->s=t)->(∀t∈r,∃b',bx t=some b')->k
 | [],_,h,_,_=>h
 | t::r,k,h,hi,hl=>by
  simp only [JT] at h
  cases hb:Nat.beq s t with
  | true=>rw [hb] at h;exact uZ h (fun t ht=>hi t (List.mem_cons_of_mem _ ht)) (fun t ht=>hl t (List.mem_cons_of_mem _ ht))
  | false=>
   rw [hb] at h
   obtain ⟨b',hb'⟩:=hl t (by simp)
   simp only [hb',cond_false] at h
   refine uZ (h ?_) (fun t ht=>hi t (List.mem_cons_of_mem _ ht)) (fun t ht=>hl t (List.mem_cons_of_mem _ ht))
   rw [rU,eF]
   intro l
   rw [eF]
   intro l' e
   have:=hi t (by simp) b' hb' l l' e
   rw [this,Nat.beq_refl] at hb;cases hb
theorem uQ {bx:Nat->Option aQ}{γ:Nat->Nat}{V':View}:∀{L:List Nat} {k:Prop},gY bx γ V' L k->(∀s∈L,∀b,bx s=some b->b.live->V'.w.heap[γ s]?=some (b.obj γ)/\V'.H (γ s)) ->
  (∀s∈L,∀t∈L,∀b b',bx s=some b->b.live->bx t=some b'->b'.live->γ s=γ t->s=t)->(∀s∈L,∃b,bx s=some b)/\k
 | [],k,h,_,_=>⟨fun s hs=>(nomatch hs),h⟩
 | s::r,k,h,hf,hi=>by
  simp only [gY] at h
  split at h
  ·rename_i b hb
   obtain ⟨h3,h5⟩:=uQ (h (eF.2 fun l=>(hf s (by simp) b hb l).1) (eF.2 fun l=>(hf s (by simp) b hb l).2)) (fun s' hs'=>hf s' (List.mem_cons_of_mem _ hs'))
    (fun s' hs' t ht=>hi s' (List.mem_cons_of_mem _ hs') t (List.mem_cons_of_mem _ ht))
   have h4:=uZ h5 (fun t ht b' hb' l l'=>hi s (by simp) t (List.mem_cons_of_mem _ ht) b b' hb l hb' l') h3
   exact ⟨fun s' hs'=>by rcases List.mem_cons.1 hs' with rfl|hs';exact ⟨b,hb⟩;exact h3 s' hs',h4⟩
  ·exact h.elim
theorem kz {bx:Nat->Option aQ}{γ:Nat->Nat}{V':View}:∀{L:List Nat} {k:Prop},wQ bx γ V' L k->(∀s∈L,∀b,bx s=some b->b.live->V'.bE (γ s) (b.obj γ))->(∀s∈L,∃b,bx s=some b)/\k
 | [],k,h,_=>⟨fun s hs=>(nomatch hs),h⟩
 | s::r,k,h,hf=>by
  simp only [wQ] at h
  split at h
  ·rename_i b hb
   obtain ⟨h3,h4⟩:=kz (h (eF.2 (hf s (by simp) b hb))) (fun s' hs'=>hf s' (List.mem_cons_of_mem _ hs'))
   exact ⟨fun s' hs'=>by rcases List.mem_cons.1 hs' with rfl|hs';exact ⟨b,hb⟩;exact h3 s' hs',h4⟩
  ·exact h.elim
theorem gD {mv:Option (Nat×Nat)}:∀(cs zs:List C) {K:List C->Prop},k_ mv cs zs K->∃cs',K cs'/\∀s∈cs'.flatMap C.ids,s∈cs.flatMap C.ids\/∃m,mv=some (m,s)
 | [],_,_,h=>⟨[],h,fun s hs=>(nomatch hs)⟩
 | c::r,[],_,h=>h.elim
 | c::r,z::zr,K,h=>by
  simp only [k_] at h
  split at h
  ·split at h
   ·rename_i m nb
    split at h
    ·obtain ⟨n,c,h⟩:=h
     obtain ⟨cs',h1,h2⟩:=gD r zr h
     refine ⟨_,h1,fun s hs=>?_⟩
     simp only [List.flatMap_cons,List.mem_append] at hs ⊢
     rcases hs with hs|hs
     ·simp only [C.ids,List.mem_singleton] at hs
      subst hs
      exact .inr ⟨m,rfl⟩
     ·exact (h2 s hs).imp .inr id
    ·exact h.elim
   ·exact h.elim
  ·split at h
   ·obtain ⟨v,hv,h'⟩:=we.dP _ h
    obtain ⟨cs',h1,h2⟩:=gD r zr h'
    exact ⟨v::cs',h1,fun s hs=>by
     simp only [List.flatMap_cons,hv,List.nil_append,List.mem_append] at hs ⊢
     exact (h2 s hs).imp .inr id⟩
   ·obtain ⟨cs',h1,h2⟩:=gD r zr h
    exact ⟨c::cs',h1,fun s hs=>by
     simp only [List.flatMap_cons,List.mem_append] at hs ⊢
     rcases hs with hs|hs
     ·exact .inl (.inl hs)
     ·exact (h2 s hs).imp .inr id⟩
theorem Mod.fill (h:Mod n V0 bu β0 st β a w V){s:Nat}{b0 b:aQ}(hs:st.boxes s=some b0)(eW:∀t∈b.cs.ids,∃b',st.boxes t=some b')
  (hg:∀t b',st.boxes t=some b'->b'.live->t≠s->β t≠β s)(hV:∀o,¬V.bE (β s) o)(hown:V0.w.heap.size<=β s\/(100000<=s/\bu.B (β s)))(hw:w.heap[β s]?=some (b.obj β)) :
  Mod n V0 bu β0 (st.box s b) β a w V:=by
 have hl:∀t,(∃b',st.boxes t=some b')->∃b',(st.box s b).boxes t=some b':=by
  rintro t ⟨b',ht⟩
  rw [aj]
  split
  ·exact ⟨_,rfl⟩
  ·exact ⟨b',ht⟩
 refine ⟨h.defers,h.size,h.az,fun t x hx u hu=>hl u (h.xu t x hx u hu),?_,?_,?_,h.pj,?_,h.ext,?_,h.lW,h.ke,h.small⟩
 ·intro t b' ht u hu
  rw [aj] at ht
  split at ht
  ·simp only [Option.some.injEq] at ht;exact hl u (eW u (ht▸hu))
  ·exact hl u (h.xr t b' ht u hu)
 ·intro t b' ht l
  rw [aj] at ht
  split at ht
  ·rename_i e;simp only [Option.some.injEq] at ht;rw [e,←ht];exact hw
  ·exact h.boxes t b' ht l
 ·intro t t' b1 b2 h1 l1 h2 l2 he
  rw [aj] at h1 h2
  split at h1<;>split at h2
  ·rename_i e1 e2;rw [e1,e2]
  ·rename_i e1 e2;rw [e1] at he;exact absurd he.symm (hg t' b2 h2 l2 e2)
  ·rename_i e1 e2;rw [e2] at he;exact absurd he (hg t b1 h1 l1 e1)
  ·exact h.inj t t' b1 b2 h1 l1 h2 l2 he
 ·intro t b' ht l
  rw [aj] at ht
  split at ht
  ·rename_i e;rw [e];exact hV
  ·exact h.tA t b' ht l
 ·intro t b' ht l
  rw [aj] at ht
  split at ht
  ·rename_i e;rw [e];exact hown
  ·exact h.own t b' ht l
theorem Mod.later (hM:Mod n V0 bu β0 st β a w V){X:Nat->Prop}{w':World}(hx:iC X w w')(hX:∀t b,st.boxes t=some b->b.live->¬X (β t))(hX0:∀i,i<V0.w.heap.size->X i->V0.X i){V1:View}
  (KQ:∀b o,V1.bE b o->w'.heap[b]?=some o/\¬V0.H b)(rf:∀t b,st.boxes t=some b->b.live->∀o,¬V1.bE (β t) o):Mod n V0 bu β0 st β a w' V1:=by
 refine ⟨hM.defers,hM.size,hM.az,hM.xu,hM.xr,?_,hM.inj,KQ,rf,?_,hM.own,hM.lW,hM.ke,hM.small⟩
 ·intro t b hb l
  have:=hM.boxes t b hb l
  rw [hx.bE _ (aC this) (hX t b hb l)]
  exact this
 ·refine ⟨Nat.le_trans hM.ext.size hx.size,fun i hi UH=>?_,hx.os.trans hM.ext.os,hx.tape.trans hM.ext.tape,hx.out.trans hM.ext.out⟩
  rw [hx.bE i (Nat.lt_of_lt_of_le hi hM.ext.size) (fun h=>UH (hX0 i hi h))]
  exact hM.ext.bE i hi UH
theorem Mod.beta (hM:Mod n V0 bu β0 st β a w V){d g:Nat}(hd:d<n\/200000<=d)(hn:st.boxes d=none):Mod n V0 bu β0 st (bN β d g) a w V:=by
 have hne:∀s b',st.boxes s=some b'->s≠d:=fun s b' hs e=>by rw [e,hn] at hs;cases hs
 have hβ:∀s b',st.boxes s=some b'->bN β d g s=β s:=fun s b' hs=>fr _ _ (hne s b' hs)
 refine ⟨hM.defers,hM.size,?_,hM.xu,hM.xr,?_,?_,hM.pj,?_,hM.ext,?_,?_,hM.ke,hM.small⟩
 ·intro t x hx
  rw [hM.az t x hx]
  exact SV.bM fun s hs=>by obtain ⟨b',hb'⟩:=hM.xu t x hx s hs;exact (hβ s b' hb').symm
 ·intro s b hb l
  rw [hβ s b hb,hM.boxes s b hb l]
  congr 1
  exact aQ.cQ fun s' hs'=>by obtain ⟨b'',kn⟩:=hM.xr s b hb s' hs';exact (hβ s' b'' kn).symm
 ·intro s s' b b' hb l hb' l' he
  rw [hβ s b hb,hβ s' b' hb'] at he
  exact hM.inj s s' b b' hb l hb' l' he
 ·intro s b hb l
  rw [hβ s b hb]
  exact hM.tA s b hb l
 ·intro s b hb l
  rw [hβ s b hb]
  exact hM.own s b hb l
 ·intro s hs
  obtain ⟨h1,h2⟩:=hM.lW s hs
  exact ⟨h1,by rw [fr _ _ (by have:=hM.small;omega)];exact h2⟩
def jI (st:St)(L:List Nat)(ty:TypeId):St:=L.foldl (fun st s=>st.box s ⟨.bf [],ty⟩) st
theorem mS {ty:TypeId}:∀{L:List Nat} {st:St},(jI st L ty).az=st.az
 | [],_=>rfl
 | s::r,st=>by unfold jI;rw [List.foldl_cons];exact mS (L:=r)
theorem br {ty:TypeId}:∀{L:List Nat} {st:St} (t:Nat),(jI st L ty).boxes t=if t∈L then some ⟨.bf [],ty⟩ else st.boxes t
 | [],st,t=>by simp [jI]
 | s::r,st,t=>by
  have:=br (ty:=ty) (L:=r) (st:=st.box s ⟨.bf [],ty⟩) t
  unfold jI at this ⊢
  rw [List.foldl_cons,this,aj]
  by_cases h1:t∈r
  ·simp [h1]
  ·by_cases h2:t=s
   ·simp [h2]
   ·simp [h1,h2]
theorem Mod.HB {ty:TypeId}:∀{L:List Nat} {st:St},Mod n V0 bu β0 st β a w V->Mod n V0 bu β0 (jI st L ty) β a w V
 | [],_,h=>h
 | s::r,st,h=>by unfold jI;rw [List.foldl_cons];exact Mod.HB (L:=r) h.void
theorem ld {mv:Option (Nat×Nat)}{γ:Nat->Nat}{V2:View}{A:List Nat}(hV2:V2.w=w)(RZ:∀s∈A,γ s=β s)(hinj:∀s∈A,∀s'∈A,β s=β s'->s=s')(rf:∀s∈A,∀o,¬V.bE (β s) o)
  (hown:∀s∈A,V0.w.heap.size<=β s\/(100000<=s/\bu.B (β s))) :
  ∀(L:List Nat) (Ho wU:St) {k:St->Prop},(∀s∈L,s∈A)->Mod n V0 bu β0 wU β a w V->Ho.az=wU.az->(∀t,t∉L->Ho.boxes t=wU.boxes t)->(∀s∈L,∃b,wU.boxes s=some b) ->
   (∀t b,wU.boxes t=some b->b.live->t∉A->∀s∈A,β t≠β s)->(∀s∈L,∀b,Ho.boxes s=some b->∀t∈b.cs.ids,(∃b',wU.boxes t=some b')/\γ t=β t)->(∀m nb,mv=some (m,nb)->(∃b',wU.boxes nb=some b')/\γ nb=β nb) ->
   dH T mv γ V2 L Ho k->∃st',Mod n V0 bu β0 st' β a w V/\st'.az=wU.az/\(∀t,(∃b,wU.boxes t=some b)->∃b,st'.boxes t=some b)/\k st'
 | [],Ho,wU,k,_,hM,hsl,hag,_,_,_,_,h=>by
  have:Ho=wU:=by
   obtain ⟨s1,b1⟩:=Ho
   obtain ⟨s2,b2⟩:=wU
   dsimp only at hsl hag
   subst hsl
   congr 1
   funext t
   exact hag t (by simp)
  exact ⟨wU,hM,rfl,fun _ h=>h,this▸h⟩
 | s::r,Ho,wU,k,hA,hM,hsl,hag,hb,hd,hw,hmv,h=>by
  have hsA:=hA s (by simp)
  obtain ⟨b0,hb0⟩:=hb s (by simp)
  have step:∀b1:aQ,(∀t∈b1.cs.ids,(∃b',wU.boxes t=some b')/\γ t=β t)->w.heap[γ s]?=some (b1.obj γ)->dH T mv γ V2 r (Ho.box s b1) k ->
    ∃st',Mod n V0 bu β0 st' β a w V/\st'.az=wU.az/\(∀t,(∃b,wU.boxes t=some b)->∃b,st'.boxes t=some b)/\k st':=by
   intro b1 eW uG h
   rw [RZ s hsA,aQ.cQ fun t ht=>(eW t ht).2] at uG
   by_cases hsr:s∈r
   ·
    refine ld hV2 RZ hinj rf hown r (Ho.box s b1) wU (fun s' hs'=>hA s' (List.mem_cons_of_mem _ hs')) hM hsl ?_ (fun s' hs'=>hb s' (List.mem_cons_of_mem _ hs')) hd ?_ hmv h
    ·intro t ht
     have:t≠s:=fun e=>ht (e▸hsr)
     rw [aj,if_neg this]
     exact hag t (by simp [this,ht])
    ·intro s' hs' b' hb' t ht
     rw [aj] at hb'
     split at hb'
     ·cases hb';exact eW t ht
     ·exact hw s' (List.mem_cons_of_mem _ hs') b' hb' t ht
   ·have hM':=hM.fill (b:=b1) hb0 (fun t ht=>(eW t ht).1) (by
     intro t b' ht l hts he
     by_cases Iw:t∈A
     ·exact hts (hinj t Iw s hsA he)
     ·exact hd t b' ht l Iw s hsA he) (rf s hsA) (hown s hsA) uG
    have hl:∀t,(∃b,wU.boxes t=some b)->∃b,(wU.box s b1).boxes t=some b:=by
     rintro t ⟨b,ht⟩
     rw [aj]
     split
     ·exact ⟨_,rfl⟩
     ·exact ⟨b,ht⟩
    obtain ⟨st',g1,g2,g3,g4⟩:=ld hV2 RZ hinj rf hown r (Ho.box s b1) (wU.box s b1) (fun s' hs'=>hA s' (List.mem_cons_of_mem _ hs')) hM' hsl
     (by
      intro t ht
      rw [aj,aj]
      split
      ·rfl
      ·rename_i e;exact hag t (by simp [e,ht]))
     (fun s' hs'=>hl s' (hb s' (List.mem_cons_of_mem _ hs')))
     (by
      intro t b' ht l Iw
      rw [aj] at ht
      split at ht
      ·rename_i e;exact absurd (e▸hsA) Iw
      ·exact hd t b' ht l Iw)
     (by
      intro s' hs' b' hb' t ht
      rw [aj] at hb'
      split at hb'
      ·cases hb';exact ⟨hl t (eW t ht).1,(eW t ht).2⟩
      ·have:=hw s' (List.mem_cons_of_mem _ hs') b' hb' t ht;exact ⟨hl t this.1,this.2⟩)
     (fun m nb e=>⟨hl nb (hmv m nb e).1,(hmv m nb e).2⟩) h
    exact ⟨st',g1,g2,fun t ht=>g3 t (hl t ht),g4⟩
  simp only [dH] at h
  split at h
  ·rename_i cs ty hcs
   split at h
   ·rename_i i hi
    obtain ⟨cs',⟨h1,h2⟩,h3⟩:=gD _ _ h
    rw [hV2] at h1
    refine step ⟨.lit cs',ty⟩ (fun t ht=>?_) h1 h2
    rcases h3 t ht with h4|⟨m,h4⟩
    ·exact hw s (by simp) _ hcs t h4
    ·exact hmv m t h4
   ·exact h.elim
  ·rename_i vs ty hcs
   obtain ⟨vs',h1,h2⟩:=h
   rw [hV2] at h1
   exact step ⟨.row vs',ty⟩ (fun t ht=>(nomatch ht)) h1 h2
  ·rename_i vs ty hcs
   obtain ⟨-,vs',-,h1,h2⟩:=h
   rw [hV2] at h1
   exact step ⟨.bf vs',ty⟩ (fun t ht=>(nomatch ht)) h1 h2
  ·exact h.elim
theorem uP {mv:Option (Nat×Nat)}{V2:View}:∀{L:List Nat} {st:St} {k:St->Prop},dH T mv β V2 L st k->∀s∈L,∃b,st.boxes s=some b/\b.live
 | [],_,_,_,s,hs=>nomatch hs
 | s::r,st,k,h,t,ht=>by
  have core:∀b1:aQ,(∃b,st.boxes s=some b/\b.live)->dH T mv β V2 r (st.box s b1) k->∃b,st.boxes t=some b/\b.live:=by
   intro b1 hs h
   by_cases e:t=s
   ·rw [e];exact hs
   ·have:=uP h t (by simpa [e] using ht)
    rw [aj,if_neg e] at this
    exact this
  simp only [dH] at h
  split at h
  ·rename_i cs ty hcs
   split at h
   ·obtain ⟨cs',⟨h1,h2⟩,h3⟩:=gD _ _ h
    exact core _ ⟨_,hcs,cG⟩ h2
   ·exact h.elim
  ·rename_i vs ty hcs
   obtain ⟨vs',h1,h2⟩:=h
   exact core _ ⟨_,hcs,cg⟩ h2
  ·rename_i vs ty hcs
   obtain ⟨hne,vs',-,h1,h2⟩:=h
   exact core _ ⟨_,hcs,fun _ e=>by cases e;exact hne⟩ h2
  ·exact h.elim
theorem uO {bx:Nat->Option aQ}{γ:Nat->Nat}{N b:Nat}{L:List Nat}(hl:∀s∈L,∃b,bx s=some b)(hb:b∈L.map (dh bx γ N))(hlt:b<N):∃s∈L,∃b0,bx s=some b0/\b0.live/\γ s=b:=by
 obtain ⟨s,hs,he⟩:=List.mem_map.1 hb
 obtain ⟨b0,hb0⟩:=hl s hs
 unfold dh at he
 rw [hb0] at he
 obtain ⟨cs,ty⟩:=b0
 cases cs with
 | lit cs=>exact ⟨s,hs,_,hb0,cG,he⟩
 | row cs=>exact ⟨s,hs,_,hb0,cg,he⟩
 | bf vs=>
  cases vs with
  | nil=>simp only [vb] at he;omega
  | cons v r=>exact ⟨s,hs,_,hb0,eR (by simp),he⟩
theorem rT {nb:Nat}:∀{xs:List (Bool×List C)},(xs.flatMap fun x=>x.2.flatMap C.ids)=[]->∀s∈((tz nb xs).flatMap fun x=>x.2.flatMap C.ids),s=nb
 | [],_,s,hs=>nomatch hs
 | x::r,h,s,hs=>by
  simp only [List.flatMap_cons,List.append_eq_nil_iff] at h
  unfold tz at hs
  split at hs
  ·rename_i heq;cases heq
  ·rename_i heq
   cases heq
   simp only [List.flatMap_cons,h.2,List.flatMap_nil,List.append_nil] at hs
   simpa [C.ids] using hs
  ·rename_i heq
   cases heq
   simp only [List.flatMap_cons,List.mem_append,h.1,List.not_mem_nil,false_or] at hs
   exact rT h.2 s hs
theorem CS {nb:Nat}{x:SV}(h:x.ids=[]):∀s∈(re nb x).ids,s=nb:=by
 intro s hs
 unfold re at hs
 split at hs
 ·simpa [SV.ids,C.ids] using hs
 ·exact rT h s hs
 ·rw [h] at hs;cases hs
theorem AY {xs:List SV}(h:∀x∈xs,x.ids=[])(γ δ:Nat->Nat):aU γ xs=aU δ xs:=by
 unfold aU
 rw [List.map_congr_left fun x hx=>ju (h x hx) γ δ]
theorem Mod.Kg {w0:World}{V':View}(hM:Mod n V0 bu β0 st β a w V')(hlt:∀s b,st.boxes s=some b->b.live->β s<w0.heap.size)(hsz:V0.w.heap.size<=w0.heap.size){d b:Nat}{cs:List C}{e:TypeId}(hd:d<n)(hn:st.boxes d=none)
  (hb:w0.heap.size<=b)(hw:V'.w=w)(hblk:V'.bE b (.cells (cs.map (C.den fun _=>0)).toArray e (0,0)))(eW:cs.flatMap C.ids=[]) :
  Mod n V0 bu β0 ((st.box d ⟨.lit cs,e⟩).put (some d) (.c (.ptr d 0))) (bN β d b) (a.put (some d) (.pointer (some ⟨b,0,none⟩))) w (V'.Ir b):=by
 have hne:∀s b',st.boxes s=some b'->s≠d:=fun s b' hs e=>by rw [e,hn] at hs;cases hs
 have hβ:∀s b',st.boxes s=some b'->bN β d b s=β s:=fun s b' hs=>fr _ _ (hne s b' hs)
 have hbw:w.heap[b]?=some (.cells (cs.map (C.den fun _=>0)).toArray e (0,0)):=(hM.pj b _ hblk).1
 have uG:(⟨.lit cs,e⟩:aQ).obj (bN β d b)=.cells (cs.map (C.den fun _=>0)).toArray e (0,0):=by
  simp only [aQ.obj,Cells.den]
  rw [kZ (β':=fun _=>0) fun s hs=>by rw [eW] at hs;cases hs]
 have MX:Mod n V0 bu β0 (st.box d ⟨.lit cs,e⟩) (bN β d b) a w (V'.Ir b):=by
  refine ⟨hM.defers,hM.size,?_,?_,?_,?_,?_,?_,?_,hM.ext,?_,?_,hM.ke,hM.small⟩
  ·intro t x hx
   rw [hM.az t x hx]
   exact SV.bM fun s hs=>by obtain ⟨b',hb'⟩:=hM.xu t x hx s hs;exact (hβ s b' hb').symm
  ·intro t x hx s hs
   obtain ⟨b',hb'⟩:=hM.xu t x hx s hs
   exact ⟨b',by rw [aj,if_neg (hne s b' hb')];exact hb'⟩
  ·intro s b' hs s' hs'
   rw [aj] at hs
   split at hs
   ·simp only [Option.some.injEq] at hs
    rw [←hs] at hs'
    simp only [Cells.ids] at hs'
    rw [eW] at hs';cases hs'
   ·obtain ⟨b'',kn⟩:=hM.xr s b' hs s' hs'
    exact ⟨b'',by rw [aj,if_neg (hne s' b'' kn)];exact kn⟩
  ·intro s b' hs l
   rw [aj] at hs
   split at hs
   ·rename_i e'
    simp only [Option.some.injEq] at hs
    rw [e',aP,←hs,uG]
    exact hbw
   ·rw [hβ s b' hs,hM.boxes s b' hs l]
    congr 1
    exact aQ.cQ fun s' hs'=>by obtain ⟨b'',kn⟩:=hM.xr s b' hs s' hs';exact (hβ s' b'' kn).symm
  ·intro s s' b1 b2 h1 l1 h2 l2 he
   rw [aj] at h1 h2
   split at h1<;>split at h2
   ·rename_i e1 e2;rw [e1,e2]
   ·rename_i e1 e2;rw [e1,aP,hβ s' b2 h2] at he;have:=hlt s' b2 h2 l2;omega
   ·rename_i e1 e2;rw [e2,aP,hβ s b1 h1] at he;have:=hlt s b1 h1 l1;omega
   ·rw [hβ s b1 h1,hβ s' b2 h2] at he;exact hM.inj s s' b1 b2 h1 l1 h2 l2 he
  ·rintro x o ⟨h1,h2⟩
   exact hM.pj x o ⟨fun h=>h1 (.inl h),h2⟩
  ·rintro s b' hs l o ⟨h1,h2⟩
   rw [aj] at hs
   split at hs
   ·rename_i e'
    rw [e',aP] at h1
    exact h1 (.inr ⟨rfl,by rw [hw];exact aC hbw⟩)
   ·rw [hβ s b' hs] at h1 h2
    exact hM.tA s b' hs l o ⟨fun h=>h1 (.inl h),h2⟩
  ·intro s b' hs l
   rw [aj] at hs
   split at hs
   ·rename_i e';rw [e',aP];exact .inl (Nat.le_trans hsz hb)
   ·rw [hβ s b' hs];exact hM.own s b' hs l
  ·intro s hs
   obtain ⟨h1,h2⟩:=hM.lW s hs
   exact ⟨h1,by rw [fr _ _ (by have:=hM.small;omega)];exact h2⟩
 refine MX.put hd ?_ ?_
 ·simp only [SV.den,C.den,aP]
 ·intro s hs
  simp [SV.ids,C.ids] at hs
  subst hs
  exact ⟨_,by rw [aj,if_pos rfl]⟩
theorem uV {L:List Nat}{m s:Nat}:s∈(L.filter fun s=>!(Nat.beq s m))↔s∈L/\s≠m:=by
 rw [List.mem_filter]
 constructor
 ·rintro ⟨h1,h2⟩
  refine ⟨h1,fun e=>?_⟩
  subst e
  rw [Nat.beq_refl] at h2;cases h2
 ·rintro ⟨h1,h2⟩
  refine ⟨h1,?_⟩
  cases h:Nat.beq s m with
  | false=>rfl
  | true=>exact absurd (beq_eq.1 h) h2
theorem rY (hM:Mod n V0 bu β0 st β a w V){L:List Nat}{γ:Nat->Nat}(je:∀s∈L,γ s=β s)(hcl:∀s∈L,∀b,st.boxes s=some b->∀t∈b.cs.ids,t∈L)(hlive:∀s∈L,∃b,st.boxes s=some b)
  {give:Bool}{sh:Sh}{m:Option Nat}{d:Nat}(hd:d<n){ety:TypeId}{K:St->View->Prop}{w':World}{r:Value}(hm:∀k,m=some k->k∈L)(hfree:jO st m d=true)
  (hx:iC (fun b=>b∈L.map (dh st.boxes γ w.heap.size)/\(cE V w).H b) w w')
  (hr:cp T give sh L m d ety γ st (cE V w) K r (((cE V w).au (L.map (dh st.boxes γ w.heap.size))).to w' hx.size)) :
  ∃st' β' V',Mod n V0 bu β0 st' β' (a.put (some d) r) w' V'/\K st' V':=by
 have hsz0:V0.w.heap.size<=w.heap.size:=hM.ext.size
 unfold cp at hr
 generalize hnb:eo m d=nb at hr
 obtain ⟨b',vs',hcont,KR,hr1⟩:=hr
 obtain ⟨x,hx1,rfl,hr⟩:=Sh.dP sh hr1
 clear hr1
 have KK:st.boxes nb=none:=by
  unfold jO at hfree
  rw [hnb] at hfree
  split at hfree
  ·cases hfree
  ·assumption
 have JF:nb<n\/200000<=nb:=by
  rw [←hnb]
  cases m with
  | none=>exact .inl hd
  | some m=>exact zn hd
 generalize hV1:((((cE V w).au (L.map (dh st.boxes γ w.heap.size))).to w' hx.size).shut.cf (vs'≠[]) b')=V1 at hr
 have Ra:V1.w=w':=by rw [←hV1];rfl
 have EO:∀b o,V1.bE b o->w'.heap[b]?=some o/\¬(b<w.heap.size/\∀o,¬V.bE b o)/\¬(vs'≠[]/\b=b'/\b<w'.heap.size):=by
  rintro b o ⟨h1,h2⟩
  rw [Ra] at h2
  rw [←hV1] at h1
  refine ⟨h2,fun h=>h1 (.inl h),fun h=>h1 (.inr ⟨h.1,h.2.1,by rw [←h.2.1];exact h.2.2⟩)⟩
 have KQ:∀b o,V1.bE b o->w'.heap[b]?=some o/\¬V0.H b:=by
  intro b o h
  obtain ⟨h1,h2,-⟩:=EO b o h
  refine ⟨h1,fun hH=>?_⟩
  by_cases hlt:b<w.heap.size
  ·exact h2 ⟨hlt,fun o' ho'=>(hM.pj b o' ho').2 hH⟩
  ·have:=V0.hH b hH;omega
 have rf:∀s b,st.boxes s=some b->b.live->∀o,¬V1.bE (β s) o:=fun s b hb l o ho=>
  (EO _ o ho).2.1 ⟨aC (hM.boxes s b hb l),hM.tA s b hb l⟩
 have MZ:∀b,(b∈L.map (dh st.boxes γ w.heap.size)/\(cE V w).H b)->∃s∈L,∃b0,st.boxes s=some b0/\b0.live/\β s=b:=by
  rintro b ⟨h1,h2⟩
  obtain ⟨s,hs,b0,hb0,l0,he⟩:=uO hlive h1 h2.1
  exact ⟨s,hs,b0,hb0,l0,by rw [←je s hs];exact he⟩
 have Px:Mod n V0 bu β0 (jI st L ety) β a w' V1:=by
  refine (hM.HB (L:=L) (ty:=ety)).later hx ?_ ?_ KQ ?_
  ·intro t b hb l hX
   rw [br] at hb
   split at hb
   ·cases hb;exact fo l
   ·rename_i ht
    obtain ⟨s,hs,b0,hb0,l0,he⟩:=MZ _ hX
    exact ht (hM.inj s t b0 b hb0 l0 hb l he▸hs)
  ·intro i hi hX
   obtain ⟨s,hs,b0,hb0,l0,rfl⟩:=MZ _ hX
   rcases hM.own s b0 hb0 l0 with h|h
   ·omega
   ·exact hM.ke _ h.2
  ·intro t b hb l
   rw [br] at hb
   split at hb
   ·cases hb;exact absurd l fo
   ·exact rf t b hb l
 have M8:(jI st L ety).boxes nb=none:=by
  rw [br,if_neg]
  ·exact KK
  ·intro h;obtain ⟨b,hb⟩:=hlive nb h;rw [KK] at hb;cases hb
 have CX:vs'≠[]->w.heap.size<=b'\/∃k b0,m=some k/\st.boxes k=some b0/\b0.live/\b'=β k:=by
  intro hne
  rcases KR hne with h|h
  ·exact .inl h
  ·right
   cases m with
   | none=>exact h.elim
   | some k=>
    have KJ:=hm k rfl
    obtain ⟨b0,hb0⟩:=hlive k KJ
    simp only [vY,hb0] at h
    obtain ⟨cs,ty⟩:=b0
    cases cs with
    | lit cs=>exact ⟨k,_,rfl,hb0,cG,by rw [←je k KJ];exact h⟩
    | row cs=>exact ⟨k,_,rfl,hb0,cg,by rw [←je k KJ];exact h⟩
    | bf cs=>exact ⟨k,_,rfl,hb0,eR h.1,by rw [←je k KJ];exact h.2⟩
 have WG:Mod n V0 bu β0 ((jI st L ety).box nb ⟨.bf vs',ety⟩) (bN β nb b') a w' V1:=by
  by_cases hne:vs'=[]
  ·subst hne
   exact (Px.beta JF M8).void
  ·have M4:w'.heap[b']?=some (.cells vs'.toArray ety (0,0)):=hcont hne
   refine Px.gX JF M8 rfl ?_ ?_ ?_ M4 (fun _ _ _=>rfl) (Nat.le_refl _) rfl rfl rfl
   ·intro s b hb l he
    rw [br] at hb
    split at hb
    ·cases hb;exact fo l
    ·rename_i hsL
     rcases CX hne with h|⟨k,b0,hk,hb0,l0,h⟩
     ·have:=aC (hM.boxes s b hb l);omega
     ·exact hsL (hM.inj k s b0 b hb0 l0 hb l (h▸he.symm)▸hm k hk)
   ·intro o ho
    exact (EO _ o ho).2.2 ⟨hne,rfl,aC M4⟩
   ·rcases CX hne with h|⟨k,b0,hk,hb0,l0,h⟩
    ·left;omega
    ·rcases hM.own k b0 hb0 l0 with h'|h'
     ·left;rw [h];exact h'
     ·right
      refine ⟨?_,by rw [h];exact h'.2⟩
      rw [←hnb,hk]
      exact D8 h'.1
 have CV:∀s,(∃b,st.boxes s=some b)->s≠nb:=by rintro s ⟨b,hb⟩ rfl;rw [KK] at hb;cases hb
 generalize hA:D4 m L=A at hr
 have Ik:∀s∈A,s∈L/\∀k,m=some k->s≠k:=by
  intro s hs
  rw [←hA] at hs
  cases m with
  | none=>exact ⟨hs,fun k h=>nomatch h⟩
  | some k=>obtain ⟨h1,h2⟩:=uV.1 hs;exact ⟨h1,fun j hj=>by cases hj;exact h2⟩
 have Uz:∀s∈L,(∀k,m=some k->s≠k)->s∈A:=by
  intro s hs h
  rw [←hA]
  cases m with
  | none=>exact hs
  | some k=>exact uV.2 ⟨hs,h k rfl⟩
 have JK:∀s,(∃b,st.boxes s=some b)->bN γ nb b' s=γ s/\bN β nb b' s=β s:=fun s hs=>⟨fr _ _ (CV s hs),fr _ _ (CV s hs)⟩
 have Nj:∀s∈A,((pM m ety st).box nb ⟨.bf vs',ety⟩).boxes s=st.boxes s:=by
  intro s hs
  obtain ⟨h1,h2⟩:=Ik s hs
  rw [aj,if_neg (CV s (hlive s h1))]
  cases m with
  | none=>rfl
  | some k=>simp only [pM];rw [aj,if_neg (h2 k rfl)]
 have iP:∀s∈A,∃b,st.boxes s=some b/\b.live:=by
  intro s hs
  have:=uP hr s hs
  rw [Nj s hs] at this
  exact this
 obtain ⟨st',g1,g2,g3,g4⟩:=ld (a:=a) (w:=w') (V:=V1) (γ:=bN γ nb b') (β:=bN β nb b') (by rfl) (fun s hs=>by
   have:=JK s (hlive s (Ik s hs).1);rw [this.1,this.2];exact je s (Ik s hs).1)
  (by
   intro s hs s' hs' he
   rw [(JK s (hlive s (Ik s hs).1)).2,(JK s' (hlive s' (Ik s' hs').1)).2] at he
   obtain ⟨b1,e1,l1⟩:=iP s hs
   obtain ⟨b2,e2,l2⟩:=iP s' hs'
   exact hM.inj s s' b1 b2 e1 l1 e2 l2 he)
  (by
   intro s hs
   obtain ⟨b1,e1,l1⟩:=iP s hs
   rw [(JK s ⟨b1,e1⟩).2]
   exact rf s b1 e1 l1)
  (by
   intro s hs
   obtain ⟨b1,e1,l1⟩:=iP s hs
   rw [(JK s ⟨b1,e1⟩).2]
   exact hM.own s b1 e1 l1)
  A _ ((jI st L ety).box nb ⟨.bf vs',ety⟩) (fun _ h=>h) WG
  (by
   show _=(jI st L ety).az
   rw [mS]
   cases m<;>rfl)
  (by
   intro t ht
   rw [aj,aj]
   split
   ·rfl
   ·rw [br]
    cases m with
    | none=>
     simp only [pM]
     rw [if_neg fun h=>ht (Uz t h fun k e=>nomatch e)]
    | some k=>
     simp only [pM]
     rw [aj]
     split
     ·rename_i e;rw [if_pos (e▸hm k rfl)]
     ·rename_i e;rw [if_neg fun h=>ht (Uz t h fun j hj=>by cases hj;exact e)])
  (by
   intro s hs
   rw [aj]
   split
   ·exact ⟨_,rfl⟩
   ·rw [br,if_pos (Ik s hs).1];exact ⟨_,rfl⟩)
  (by
   intro t b ht l Iw s hs
   obtain ⟨b1,e1,l1⟩:=iP s hs
   rw [(JK s ⟨b1,e1⟩).2]
   rw [aj] at ht
   split at ht
   ·rename_i e
    simp only [Option.some.injEq] at ht
    rw [e,aP]
    have hne:vs'≠[]:=fun e0=>by rw [←ht,e0] at l;exact fo l
    rcases CX hne with h|⟨k,b0,hk,hb0,l0,h⟩
    ·have:=aC (hM.boxes s b1 e1 l1);omega
    ·intro he
     exact (Ik s hs).2 k hk (hM.inj k s b0 b1 hb0 l0 e1 l1 (h▸he)).symm
   ·rw [br] at ht
    split at ht
    ·cases ht;exact absurd l fo
    ·rename_i JJ
     intro he
     rw [(JK t ⟨b,ht⟩).2] at he
     exact JJ (hM.inj t s b b1 ht l e1 l1 he▸(Ik s hs).1))
  (by
   intro s hs b hb t ht
   rw [Nj s hs] at hb
   have JJ:=hcl s (Ik s hs).1 b hb t ht
   have hb2:=JK t (hlive t JJ)
   refine ⟨?_,by rw [hb2.1,hb2.2];exact je t JJ⟩
   rw [aj]
   split
   ·exact ⟨_,rfl⟩
   ·rw [br,if_pos JJ];exact ⟨_,rfl⟩)
  (by
   intro k nb' e
   have:nb'=nb:=by
    cases m with
    | none=>cases e
    | some m=>cases e;rfl
   subst this
   exact ⟨⟨_,by rw [aj,if_pos rfl]⟩,by rw [aP,aP]⟩)
  hr
 obtain ⟨b2,hb2⟩:=g3 nb ⟨_,by rw [aj,if_pos rfl]⟩
 have eW:∀s∈(cond give (re nb x) x).ids,s=nb:=by
  cases give with
  | true=>exact CS hx1
  | false=>intro s hs;rw [cond_false,hx1] at hs;cases hs
 refine ⟨_,_,_,g1.put (x:=cond give (re nb x) x) hd ?_ ?_,g4⟩
 ·exact SV.bM fun s hs=>by rw [eW s hs,aP,aP]
 ·intro s hs
  rw [eW s hs]
  exact ⟨b2,hb2⟩
theorem jt (hM:Mod n V0 bu β0 st β a w V){m:CM}{f:FuncId}{xs:List SV}{ty:TypeId}{dst:Option Nat}{K:St->View->Prop}{next:Act->World->Prop}{Q:Exit->Act->World->Prop}
  (hd:∀d,dst=some d->d<n)(hv:eG P T m f xs ty dst st V K)
  (hK:∀st' β' a' w' V',Mod n V0 bu β0 st' β' a' w' V'->K st' V'->next a' w') :
  j_ P f/\Calls P f (aU β xs) w fun
   | .returned v,w''=>next (a.put dst v) w''
   | .panicked chain,w''=>Q (.panic chain) a w''
   | .outgrown,_=>LetsOut Q:=by
 have hle:=Fj hM
 have hsz0:V0.w.heap.size<=w.heap.size:=hM.ext.size
 unfold eG at hv
 split at hv
 ·exact hv.elim
 ·rename_i sh hsh
  split at hv
  ·
   rename_i eW
   have hnil:∀x∈xs,x.ids=[]:=by
    intro x hx
    rcases hx':x.ids with _|⟨s,r⟩
    ·rfl
    ·exfalso
     have:s∈reach st.boxes 3 (dedup (xs.flatMap SV.ids)):=dS 3 _ s (bL.2 (List.mem_flatMap.2 ⟨x,hx,by rw [hx'];simp⟩))
     rw [eW] at this
     cases this
   have UA:∀(w':World)(hx:iC (fun _=>False) w w'),Mod n V0 bu β0 st β a w' ((cE V w).to w' hx.size):=by
    intro w' hx
    refine hM.later hx (fun _ _ _ _ h=>h) (fun _ _ h=>h.elim) ?_ ?_
    ·rintro b o ⟨h1,h2⟩
     refine ⟨h2,fun hH=>?_⟩
     by_cases hlt:b<w.heap.size
     ·apply h1
      refine ⟨hlt,fun o' ho'=>(hM.pj b o' ho').2 hH⟩
     ·have:=V0.hH b hH;omega
    ·rintro s b hb l o ⟨h1,-⟩
     exact h1 ⟨aC (hM.boxes s b hb l),hM.tA s b hb l⟩
   rw [AY hnil β fun _=>0]
   split at hv
   ·
    split at hv
    ·rename_i d ety hgt
     split at hv
     ·exact hv.elim
     ·rename_i hfree
      obtain ⟨hc,d_⟩:=hv (cE V w) hle
      refine ⟨hc,Calls.mono d_ ?_⟩
      rintro e' w' ⟨r,rfl,hx,hr⟩
      have hx1:iC (fun b=>b∈([]:List Nat).map (dh st.boxes (fun _=>0) w.heap.size)/\(cE V w).H b) w w':=hx.mono fun _ h=>h.elim
      have hr1:cp T true sh [] Option.none d ety (fun _=>0) st (cE V w) K r (((cE V w).au (([]:List Nat).map (dh st.boxes (fun _=>0) w.heap.size))).to w' hx1.size):=by
       unfold cp D4 at hr ⊢
       exact hr
      obtain ⟨st',β',V',h1,h2⟩:=rY (T:=T) (give:=true) (m:=Option.none) hM (fun s hs=>absurd hs (by simp)) (fun s hs=>absurd hs (by simp)) (fun s hs=>absurd hs (by simp)) (hd d rfl) (fun k hk=>by cases hk) hfree hx1 hr1
      exact hK _ _ _ _ _ h1 h2
    ·exact hv.elim
   ·split at hv
    ·rename_i d
     split at hv
     ·exact hv.elim
     ·rename_i hn
      split at hv
      ·rename_i ti hti
       split at hv
       ·rename_i e he
        split at hv
        ·rename_i ei A_
         obtain ⟨hc,d_⟩:=hv (cE V w) hle
         refine ⟨hc,Calls.mono d_ ?_⟩
         rintro e' w' ⟨r,rfl,hx,b,hr⟩
         obtain ⟨cs,h1,h2,rfl,h4,h5,h6⟩:=pK _ hr
         exact hK _ _ _ _ _ ((UA w' hx).Kg (w0:=w) (fun s b hb l=>aC (hM.boxes s b hb l)) hsz0 (hd d rfl) hn h4 rfl h5 h1) h6
        ·exact hv.elim
       ·exact hv.elim
      ·exact hv.elim
    ·exact hv.elim
   ·obtain ⟨hc,d_⟩:=hv (cE V w) hle
    refine ⟨hc,Calls.mono d_ ?_⟩
    rintro e w' ⟨r,rfl,hx,hr⟩
    obtain ⟨x,hx1,rfl,hx3⟩:=Sh.dP sh hr
    have hx:iC (fun _=>False) w w':=hx
    exact hK (st.put dst x) β _ _ _ ((UA w' hx).Da hd (ju hx1 _ _) (bP hx1)) hx3
  ·rename_i s0 r0 eW
   split at hv
   ·exact hv.elim
   ·rename_i hcl
    generalize hL:s0::r0=L at hv eW hcl
    have Q9:∀x∈xs,∀s∈x.ids,s∈L:=by
     intro x hx s hs
     rw [←eW]
     exact dS 3 _ s (bL.2 (List.mem_flatMap.2 ⟨x,hx,hs⟩))
    have hcl':∀s∈L,∀b,st.boxes s=some b->∀t∈b.cs.ids,t∈L:=fun s hs b hb=>gz hcl hs hb
    have NV:∀{R:(Nat->Nat)->Value->View->Prop},(lV L (fun _=>0) fun γ=>gY st.boxes γ (cE V w) L (ab P f (aU γ xs) ((cE V w).au (L.map (dh st.boxes γ w.heap.size))) (R γ))) ->
      ∃γ,(∀s∈L,γ s=β s)/\(∀s∈L,∃b,st.boxes s=some b)/\ab P f (aU β xs) ((cE V w).au (L.map (dh st.boxes γ w.heap.size))) (R γ):=by
     intro R hv
     have hv1:=kb hv β
     generalize hγ:(fun t=>if t∈L then β t else (fun _=>0) t)=γ at hv1
     have je:∀s∈L,γ s=β s:=fun s hs=>by rw [←hγ];simp [hs]
     have uG:∀s∈L,∀b,st.boxes s=some b->b.obj γ=b.obj β:=fun s hs b hb=>aQ.cQ fun t ht=>je t (hcl' s hs b hb t ht)
     obtain ⟨hlive,hact⟩:=uQ hv1 (by
      intro s hs b hb l
      rw [je s hs,uG s hs b hb]
      exact ⟨hM.boxes s b hb l,aC (hM.boxes s b hb l),hM.tA s b hb l⟩) (by
      intro s hs t ht b b' hb l hb' l' e
      rw [je s hs,je t ht] at e
      exact hM.inj s t b b' hb l hb' l' e)
     refine ⟨γ,je,hlive,?_⟩
     have hargs:aU γ xs=aU β xs:=by
      unfold aU
      rw [List.map_congr_left fun x hx=>SV.bM fun s hs=>je s (Q9 x hx s hs)]
     rw [←hargs]
     exact hact
    have moved:∀{give:Bool} {mm:Option Nat} {d:Nat} {ety:TypeId},dst=some d->(∀k,mm=some k->k∈L)->jO st mm d=true ->
      (∀V':View,V.Le V'->lV L (fun _=>0) fun γ=>gY st.boxes γ V' L (ab P f (aU γ xs) (V'.au (L.map (dh st.boxes γ V'.w.heap.size))) (cp T give sh L mm d ety γ st V' K))) ->
      j_ P f/\Calls P f (aU β xs) w fun
       | .returned v,w''=>next (a.put dst v) w''
       | .panicked chain,w''=>Q (.panic chain) a w''
       | .outgrown,_=>LetsOut Q:=by
     intro give mm d ety hdst hmm hfree hv
     obtain ⟨γ,je,hlive,hc,d_⟩:=NV (R:=fun γ=>cp T give sh L mm d ety γ st (cE V w) K) (hv (cE V w) hle)
     refine ⟨hc,Calls.mono d_ ?_⟩
     rintro e w' ⟨r,rfl,hx,hr⟩
     obtain ⟨st',β',V',h1,h2⟩:=rY hM je hcl' hlive (hd d hdst) hmm hfree hx hr
     rw [hdst]
     exact hK _ _ _ _ _ h1 h2
    have Se:∀k,k∈pW st.boxes L->k∈L:=by
     intro k hk
     unfold pW at hk
     obtain ⟨s,hs,hk⟩:=List.mem_flatMap.1 (bL.1 hk)
     split at hk
     ·rename_i cs ty hb
      refine hcl' s hs _ hb k ?_
      have:∀cs:List C,k∈oI cs->k∈cs.flatMap C.ids:=by
       intro cs
       induction cs with
       | nil=>exact fun h=>nomatch h
       | cons c r ih=>
        intro h
        rw [List.flatMap_cons,List.mem_append]
        cases c<;>simp only [oI,List.mem_cons] at h<;>first
         | exact .inr (ih h)
         | (rcases h with h|h
            ·left;simp [C.ids,h]
            ·exact .inr (ih h))
      exact this cs hk
     ·cases hk
    have Qu:∀k,k∈lf xs->k∈L:=by
     intro k hk
     have:∀xs:List SV,k∈lf xs->∃x∈xs,k∈x.ids:=by
      intro xs
      induction xs with
      | nil=>exact fun h=>nomatch h
      | cons x r ih=>
       intro h
       unfold lf at h
       split at h
       ·rename_i heq;cases heq
       ·rename_i s n c r' heq;cases heq;exact ⟨.c (.kv s n c),List.mem_cons_self,h⟩
       ·rename_i s n c r' heq;cases heq;exact ⟨.c (.gZ s 0 n c),List.mem_cons_self,h⟩
       ·cases h
       ·rename_i heq;cases heq
        obtain ⟨y,hy,hk⟩:=ih h
        exact ⟨y,by simp [hy],hk⟩
     obtain ⟨x,hx,hk⟩:=this xs hk
     exact Q9 x hx k hk
    split at hv
    ·exact hv.elim
    ·exact hv.elim
    ·
     split at hv
     ·split at hv
      ·exact hv.elim
      ·rename_i hfree;exact moved rfl (fun k hk=>by cases hk) hfree hv
     ·rename_i d ety k _ hfs _
      split at hv
      ·exact hv.elim
      ·rename_i hfree;exact moved rfl (fun j hj=>by cases hj;exact Qu k (by rw [hfs];simp)) hfree hv
     ·exact hv.elim
    ·
     split at hv
     ·obtain ⟨γ,je,hlive,hc,d_⟩:=NV (R:=fun γ r' eg=>sh.ex fun x=>r'=x.den (fun _=>0)/\dH T Option.none γ eg L st fun st'=>K (st'.put dst x) eg.shut) (hv (cE V w) hle)
      refine ⟨hc,Calls.mono d_ ?_⟩
      rintro e w' ⟨r,rfl,hx,hr⟩
      obtain ⟨x,hx1,rfl,hx3⟩:=Sh.dP sh hr
      have hx:iC (fun b=>b∈L.map (dh st.boxes γ w.heap.size)/\(cE V w).H b) w w':=hx
      generalize hV1:(((cE V w).au (L.map (dh st.boxes γ w.heap.size))).to w' hx.size)=V2 at hx3
      have Rb:V2.w=w':=by rw [←hV1];rfl
      have MZ:∀b,(b∈L.map (dh st.boxes γ w.heap.size)/\(cE V w).H b)->∃s∈L,∃b0,st.boxes s=some b0/\b0.live/\β s=b:=by
       rintro b ⟨h1,h2⟩
       obtain ⟨s,hs,b0,hb0,l0,he⟩:=uO hlive h1 h2.1
       exact ⟨s,hs,b0,hb0,l0,by rw [←je s hs];exact he⟩
      have EO:∀b o,V2.shut.bE b o->w'.heap[b]?=some o/\¬(b<w.heap.size/\∀o,¬V.bE b o):=by
       rintro b o ⟨h1,h2⟩
       rw [←hV1] at h1 h2
       exact ⟨h2,h1⟩
      have rf:∀s b,st.boxes s=some b->b.live->∀o,¬V2.shut.bE (β s) o:=fun s b hb l o ho=>
       (EO _ o ho).2 ⟨aC (hM.boxes s b hb l),hM.tA s b hb l⟩
      have Px:Mod n V0 bu β0 (jI st L 0) β a w' V2.shut:=by
       refine (hM.HB (L:=L) (ty:=0)).later hx ?_ ?_ ?_ ?_
       ·intro t b hb l hX
        rw [br] at hb
        split at hb
        ·cases hb;exact fo l
        ·rename_i ht
         obtain ⟨s,hs,b0,hb0,l0,he⟩:=MZ _ hX
         exact ht (hM.inj s t b0 b hb0 l0 hb l he▸hs)
       ·intro i hi hX
        obtain ⟨s,hs,b0,hb0,l0,rfl⟩:=MZ _ hX
        rcases hM.own s b0 hb0 l0 with h|h
        ·omega
        ·exact hM.ke _ h.2
       ·intro b o h
        obtain ⟨h1,h2⟩:=EO b o h
        refine ⟨h1,fun hH=>?_⟩
        by_cases hlt:b<w.heap.size
        ·exact h2 ⟨hlt,fun o' ho'=>(hM.pj b o' ho').2 hH⟩
        ·have:=V0.hH b hH;omega
       ·intro t b hb l
        rw [br] at hb
        split at hb
        ·cases hb;exact absurd l fo
        ·exact rf t b hb l
      have iP:=uP hx3
      obtain ⟨st',g1,g2,g3,g4⟩:=ld (a:=a) (w:=w') (V:=V2.shut) (γ:=γ) (β:=β) Rb je
       (by
        intro s hs s' hs' he
        obtain ⟨b1,e1,l1⟩:=iP s hs
        obtain ⟨b2,e2,l2⟩:=iP s' hs'
        exact hM.inj s s' b1 b2 e1 l1 e2 l2 he)
       (by intro s hs;obtain ⟨b1,e1,l1⟩:=iP s hs;exact rf s b1 e1 l1)
       (by intro s hs;obtain ⟨b1,e1,l1⟩:=iP s hs;exact hM.own s b1 e1 l1)
       L st (jI st L 0) (fun _ h=>h) Px mS.symm (by intro t ht;rw [br,if_neg ht])
       (by intro s hs;rw [br,if_pos hs];exact ⟨_,rfl⟩)
       (by
        intro t b ht l Iw s hs he
        rw [br,if_neg Iw] at ht
        obtain ⟨b1,e1,l1⟩:=iP s hs
        exact Iw (hM.inj t s b b1 ht l e1 l1 he▸hs))
       (by
        intro s hs b hb t ht
        have JJ:=hcl' s hs b hb t ht
        exact ⟨by rw [br,if_pos JJ];exact ⟨_,rfl⟩,je t JJ⟩)
       (fun m nb e=>by cases e) hx3
      exact hK _ _ _ _ _ (g1.Da hd (ju hx1 _ _) (bP hx1)) g4
     ·rename_i k hmv
      split at hv
      ·rename_i d ety _
       split at hv
       ·exact hv.elim
       ·rename_i hfree;exact moved rfl (fun j hj=>by cases hj;exact Se k (by rw [hmv];simp)) hfree hv
      ·exact hv.elim
     ·exact hv.elim
    ·
     split at hv
     ·exact hv.elim
     ·rename_i hsmall
      rw [List.all_eq_true] at hsmall
      let Vr:View:=⟨w,fun b=>(b<w.heap.size/\∀o,¬V.bE b o)/\¬∃s∈L,∃b0,st.boxes s=some b0/\b0.live/\β s=b,fun _=>False,fun _ h=>h.1.1,fun _ h=>h.elim⟩
      have hle':V.Le Vr:=fun b o hb=>⟨fun h=>h.1.2 o hb,(hM.pj b o hb).1⟩
      have hv1:=kb (hv Vr hle') β
      generalize hγ:(fun t=>if t∈L then β t else (fun _=>0) t)=γ at hv1
      have je:∀s∈L,γ s=β s:=fun s hs=>by rw [←hγ];simp [hs]
      obtain ⟨hlive,hc,d_⟩:=kz hv1 (by
       intro s hs b hb l
       rw [je s hs,aQ.cQ fun t ht=>je t (gz hcl hs hb t ht)]
       exact ⟨fun h=>h.2 ⟨s,hs,b,hb,l,rfl⟩,hM.boxes s b hb l⟩)
      refine ⟨hc,?_⟩
      have hargs:aU γ xs=aU β xs:=by
       unfold aU
       rw [List.map_congr_left fun x hx=>SV.bM fun s hs=>je s (Q9 x hx s hs)]
      rw [hargs] at d_
      refine Calls.mono d_ ?_
      rintro e w' ⟨r,rfl,hx,hr⟩
      obtain ⟨x,hx1,rfl,hx3⟩:=Sh.dP sh hr
      have hx:iC (fun _=>False) w w':=hx
      refine hK ((st.rel L γ (C.den β)).put dst x) β _ _ _ ?_ (hx3 (C.den β))
      have EN:=hM.rel (L:=L) (β':=γ) je
      have hM':Mod n V0 bu β0 (st.rel L γ (C.den β)) β a w' (Vr.to w' hx.size):=by
       refine EN.later hx (fun _ _ _ _ h=>h) (fun _ _ h=>h.elim) ?_ ?_
       ·rintro b o ⟨h1,h2⟩
        refine ⟨h2,fun hH=>?_⟩
        by_cases hlt:b<w.heap.size
        ·apply h1
         refine ⟨⟨hlt,fun o' ho'=>(hM.pj b o' ho').2 hH⟩,fun hm=>?_⟩
         obtain ⟨s,hs,b0,hb0,l0,rfl⟩:=hm
         rcases hM.own s b0 hb0 l0 with h|h
         ·have:=V0.hH _ hH;omega
         ·have:=Nat.le_of_ble_eq_true (hsmall s hs);omega
        ·have:=V0.hH b hH;omega
       ·rintro s b hb l o ⟨h1,-⟩
        obtain ⟨hsL,y,hy,rfl⟩:=eU hb
        have ly:=aQ.eC l
        refine h1 ⟨⟨aC (hM.boxes s y hy ly),hM.tA s y hy ly⟩,fun hm=>?_⟩
        obtain ⟨s',hs',bs,hbs,ls,he⟩:=hm
        exact hsL (hM.inj s' s bs y hbs ls hy ly he▸hs')
      exact hM'.Da hd (ju hx1 _ _) (bP hx1)
theorem Mod.release (hM:Mod n V0 bu β0 st β a w V){l:List Nat}{K:St->View->Prop}(hv:Em l st V K):∃st' V',Mod n V0 bu β0 st' β a w V'/\V.Le V'/\K st' V':=by
 unfold Em at hv
 split at hv
 ·exact ⟨st,V,hM,fun _ _ h=>h,hv⟩
 ·rename_i s0 r0
  split at hv
  ·exact hv.elim
  ·rename_i EP
   generalize hL:s0::r0=L at hv EP
   rw [Bool.and_eq_true,List.all_eq_true] at EP
   obtain ⟨hcl,hsmall⟩:=EP
   let Vr:View:=⟨w,fun b=>(b<w.heap.size/\∀o,¬V.bE b o)/\¬∃s∈L,∃b0,st.boxes s=some b0/\b0.live/\β s=b,fun _=>False,fun _ h=>h.1.1,fun _ h=>h.elim⟩
   have hle':V.Le Vr:=fun b o hb=>⟨fun h=>h.1.2 o hb,(hM.pj b o hb).1⟩
   have hv1:=kb (hv Vr hle') β
   generalize hγ:(fun t=>if t∈L then β t else (fun _=>0) t)=γ at hv1
   have je:∀s∈L,γ s=β s:=fun s hs=>by rw [←hγ];simp [hs]
   obtain ⟨hlive,hk⟩:=kz hv1 (by
    intro s hs b hb l
    rw [je s hs,aQ.cQ fun t ht=>je t (gz hcl hs hb t ht)]
    exact ⟨fun h=>h.2 ⟨s,hs,b,hb,l,rfl⟩,hM.boxes s b hb l⟩)
   have EN:=hM.rel (L:=L) (β':=γ) je
   refine ⟨_,Vr,?_,hle',hk (C.den β)⟩
   refine ⟨EN.defers,EN.size,EN.az,EN.xu,EN.xr,EN.boxes,EN.inj,?_,?_,EN.ext,EN.own,EN.lW,EN.ke,hM.small⟩
   ·rintro b o ⟨h1,h2⟩
    refine ⟨h2,fun hH=>?_⟩
    have hlt:=aC h2
    apply h1
    refine ⟨⟨hlt,fun o' ho'=>(hM.pj b o' ho').2 hH⟩,fun hm=>?_⟩
    obtain ⟨s,hs,b0,hb0,l0,rfl⟩:=hm
    rcases hM.own s b0 hb0 l0 with h|h
    ·have:=V0.hH _ hH;omega
    ·have:=Nat.le_of_ble_eq_true (hsmall s hs);omega
   ·rintro s b hb l o ⟨h1,-⟩
    obtain ⟨hsL,y,hy,rfl⟩:=eU hb
    have ly:=aQ.eC l
    refine h1 ⟨⟨aC (hM.boxes s y hy ly),hM.tA s y hy ly⟩,fun hm=>?_⟩
    obtain ⟨s',hs',bs,hbs,ls,he⟩:=hm
    exact hsL (hM.inj s' s bs y hbs ls hy ly he▸hs')
theorem vw {bx:Nat->Option aQ}{β:Nat->Nat}:∀{xs xs':List SV} {vs:List Value} {c:Nat},lE bx xs=some (vs,c,xs')->c=0->xs'.map (SV.den β)=xs.map (SV.den β)
 | [],_,_,_,h,_=>nomatch h
 | x::r,xs',vs,c,h,hc=>by
  simp only [lE] at h
  split at h
  ·split at h
   ·cases h
    subst hc
    simp [SV.den,C.den,mA]
   ·cases h
  ·split at h
   ·rename_i e
    cases h
    rw [List.map_cons,List.map_cons,vw e hc]
   ·cases h
theorem vx {bx:Nat->Option aQ}:∀{xs xs':List SV} {vs:List Value} {c:Nat},lE bx xs=some (vs,c,xs')->∀t∈xs'.flatMap SV.ids,t∈xs.flatMap SV.ids
 | [],_,_,_,h=>nomatch h
 | x::r,xs',vs,c,h=>by
  simp only [lE] at h
  split at h
  ·split at h
   ·cases h
    intro t ht
    simp only [List.flatMap_cons,SV.ids,C.ids,List.mem_append] at ht ⊢
    right
    simpa using ht
   ·cases h
  ·split at h
   ·rename_i e
    cases h
    intro t ht
    rw [List.flatMap_cons,List.mem_append] at ht ⊢
    exact ht.imp_right (vx e t)
   ·cases h
theorem qn {bx bx':Nat->Option aQ}:∀{xs:List SV},(∀s∈xs.flatMap SV.ids,bx' s=bx s)->lE bx' xs=lE bx xs
 | [],_=>rfl
 | x::r,h=>by
  have ih:=qn (xs:=r) fun s hs=>h s (by rw [List.flatMap_cons];exact List.mem_append_right _ hs)
  simp only [lE]
  rw [ih]
  split
  ·rename_i s n c
   rw [h s (by rw [List.flatMap_cons];exact List.mem_append_left _ (by simp [SV.ids,C.ids]))]
  ·rfl
theorem ui (hM:Mod n V0 bu β0 st β a w V){m:CM}{f:FuncId}{xs:List SV}{ty:TypeId}{dst:Option Nat}{K:St->View->Prop}{next:Act->World->Prop}{Q:Exit->Act->World->Prop}
  (hd:∀d,dst=some d->d<n)(hv:jW P T m f xs ty dst st V K)
  (hK:∀st' β' a' w' V',Mod n V0 bu β0 st' β' a' w' V'->K st' V'->next a' w') :
  j_ P f/\Calls P f (aU β xs) w fun
   | .returned v,w''=>next (a.put dst v) w''
   | .panicked chain,w''=>Q (.panic chain) a w''
   | .outgrown,_=>LetsOut Q:=by
 unfold jW at hv
 split at hv
 ·split at hv
  ·rename_i vs c xs' e
   by_cases h:vs=[]
   ·obtain ⟨hc,h1⟩:=hv.1 h
    have:=jt (Q:=Q) hM hd h1 hK
    unfold aU at this ⊢
    rw [vw e hc] at this
    exact this
   ·exact jt hM hd (hv.2 h) hK
  ·exact jt hM hd hv hK
 ·exact jt hM hd hv hK
end Go.bK
