import Derived.Test.YtnnbfoejafcdlaaGreatDoorH2
set_option linter.unusedVariables false
open Go.IntKind (i64 u64 u32)
namespace Go.bE
variable {P:Program} {T:cV} {n:Nat} {V0:View} {bC:Ey} {β0:Nat->Nat} {st:St} {β:Nat->Nat} {a:Act} {w:World} {V:View}
theorem cf {x:Nat}{l:List Nat}:eI x l=true↔x∈l:=by
 induction l with
 | nil=>simp [eI]
 | cons y r ih=>
  simp only [eI,List.mem_cons]
  cases h:Nat.beq x y with
  | true=>simp [beq_eq.1 h]
  | false=>
   have:x≠y:=fun e=>by rw [e,Nat.beq_refl] at h;cases h
   simp [ih,this]
theorem fl {x:Nat}{l:List Nat}:eI x l=false↔x∉l:=by
 rw [←cf];cases eI x l<;>simp
theorem CN {l m:List Nat}:u_ l m=true↔∀x∈l,x∉m:=by
 unfold u_
 rw [List.all_eq_true]
 constructor
 ·intro h x hx hm
  have:=h x hx
  rw [Bool.not_eq_true',fl] at this
  exact this hm
 ·intro h x hx
  rw [Bool.not_eq_true',fl]
  exact h x hx
theorem C.gQ {L:List Nat}{β':Nat->Nat}(hβ:∀s∈L,β' s=β s)(c:C):(c.rel L β' (C.den β)).den β=c.den β/\∀s∈(c.rel L β' (C.den β)).ids,s∈c.ids/\s∉L:=by
 cases c with
 | v x=>exact ⟨rfl,fun s hs=>by cases hs⟩
 | w x=>exact ⟨rfl,fun s hs=>by cases hs⟩
 | tt=>exact ⟨rfl,fun s hs=>by cases hs⟩
 | ff=>exact ⟨rfl,fun s hs=>by cases hs⟩
 | ptr s o=>
  simp only [C.rel]
  cases h:eI s L with
  | true=>exact ⟨by simp [C.den,hβ s (cf.1 h)],fun s hs=>by cases hs⟩
  | false=>exact ⟨rfl,fun t ht=>⟨ht,by simp [C.ids] at ht;subst ht;exact fl.1 h⟩⟩
 | lR s o n c=>
  simp only [C.rel]
  cases h:eI s L with
  | true=>exact ⟨by simp [C.den,hβ s (cf.1 h)],fun s hs=>by cases hs⟩
  | false=>exact ⟨rfl,fun t ht=>⟨ht,by simp [C.ids] at ht;subst ht;exact fl.1 h⟩⟩
 | jY s n c=>
  simp only [C.rel]
  cases h:eI s L with
  | true=>exact ⟨by simp [C.den,hβ s (cf.1 h)],fun s hs=>by cases hs⟩
  | false=>exact ⟨rfl,fun t ht=>⟨ht,by simp [C.ids] at ht;subst ht;exact fl.1 h⟩⟩
 | CC f ss=>
  simp only [C.rel]
  cases h:u_ ss L with
  | true=>exact ⟨rfl,fun t ht=>⟨ht,CN.1 h t ht⟩⟩
  | false=>exact ⟨rfl,fun s hs=>by cases hs⟩
theorem pU {L:List Nat}{β':Nat->Nat}(hβ:∀s∈L,β' s=β s)(cs:List C) :
  (cs.map (C.rel L β' (C.den β))).map (C.den β)=cs.map (C.den β)/\∀s∈(cs.map (C.rel L β' (C.den β))).flatMap C.ids,s∈cs.flatMap C.ids/\s∉L:=by
 refine ⟨?_,fun s hs=>?_⟩
 ·rw [List.map_map];exact List.map_congr_left fun c _=>(C.gQ hβ c).1
 ·obtain ⟨c',hc',hs⟩:=List.mem_flatMap.1 hs
  obtain ⟨c,hc,rfl⟩:=List.mem_map.1 hc'
  obtain ⟨h1,h2⟩:=(C.gQ hβ c).2 s hs
  exact ⟨gV hc h1,h2⟩
theorem SV.gQ {L:List Nat}{β':Nat->Nat}(hβ:∀s∈L,β' s=β s)(x:SV):(x.rel L β' (C.den β)).den β=x.den β/\∀s∈(x.rel L β' (C.den β)).ids,s∈x.ids/\s∉L:=by
 cases x with
 | c c=>exact C.gQ hβ c
 | agg cs=>
  obtain ⟨h1,h2⟩:=pU hβ cs
  exact ⟨by simp only [SV.rel,SV.den,h1],h2⟩
 | oQ xs=>
  refine ⟨?_,fun s hs=>?_⟩
  ·simp only [SV.rel,SV.den,List.map_map]
   congr 2
   apply List.map_congr_left
   rintro ⟨b,cs⟩ -
   have h1:=(pU hβ cs).1
   cases b with
   | true=>simp only [Function.comp,im,h1]
   | false=>
    match cs with
    | []=>rfl
    | [x]=>simp only [Function.comp,List.map_cons,List.map_nil,im];exact (C.gQ hβ x).1
    | _::_::_=>rfl
  ·obtain ⟨y',hy',hs⟩:=List.mem_flatMap.1 hs
   obtain ⟨y,hy,rfl⟩:=List.mem_map.1 hy'
   obtain ⟨h1,h2⟩:=(pU hβ y.2).2 s hs
   exact ⟨List.mem_flatMap.2 ⟨y,hy,h1⟩,h2⟩
theorem aQ.gQ {L:List Nat}{β':Nat->Nat}(hβ:∀s∈L,β' s=β s)(b:aQ):(b.rel L β' (C.den β)).obj β=b.obj β/\∀s∈(b.rel L β' (C.den β)).cs.ids,s∈b.cs.ids/\s∉L:=by
 obtain ⟨cs,ty⟩:=b
 cases cs with
 | lit cs=>
  obtain ⟨h1,h2⟩:=pU hβ cs
  exact ⟨by simp only [aQ.rel,aQ.obj,Cells.den,h1],h2⟩
 | row vs=>exact ⟨rfl,fun s hs=>by cases hs⟩
 | a_ vs=>exact ⟨rfl,fun s hs=>by cases hs⟩
theorem aQ.eX {L:List Nat}{β':Nat->Nat}{J:C->Value}{b:aQ}(h:(b.rel L β' J).live):b.live:=by
 obtain ⟨cs,ty⟩:=b
 cases cs with
 | lit cs=>exact cL
 | row vs=>exact cd
 | a_ vs=>exact h
theorem Ag {L:List Nat}{β':Nat->Nat}{J:C->Value}{t:Nat}{x:SV}(h:(st.rel L β' J).au t=some x):∃y,st.au t=some y/\x=y.rel L β' J:=by
 simp only [St.rel] at h
 cases hs:st.au t with
 | none=>rw [hs] at h;cases h
 | some y=>rw [hs] at h;simp only [Option.some.injEq] at h;exact ⟨y,rfl,h.symm⟩
theorem fB {L:List Nat}{β':Nat->Nat}{J:C->Value}{t:Nat}{x:aQ}(h:(st.rel L β' J).boxes t=some x):t∉L/\∃y,st.boxes t=some y/\x=y.rel L β' J:=by
 simp only [St.rel] at h
 cases hm:eI t L with
 | true=>rw [hm] at h;cases h
 | false=>
  rw [hm] at h
  refine ⟨fl.1 hm,?_⟩
  cases hs:st.boxes t with
  | none=>rw [hs] at h;cases h
  | some y=>rw [hs] at h;simp only [cond_false,Option.some.injEq] at h;exact ⟨y,rfl,h.symm⟩
theorem eX {L:List Nat}{β':Nat->Nat}{J:C->Value}{t:Nat}(h:∃b,st.boxes t=some b)(hn:t∉L):∃b,(st.rel L β' J).boxes t=some b:=by
 obtain ⟨b,hb⟩:=h
 refine ⟨b.rel L β' J,?_⟩
 simp only [St.rel,fl.2 hn,hb,cond_false]
theorem Mod.rel (h:Mod n V0 bC β0 st β a w V){L:List Nat}{β':Nat->Nat}(hβ:∀s∈L,β' s=β s):Mod n V0 bC β0 (st.rel L β' (C.den β)) β a w V where
 defers:=h.defers
 size:=h.size
 au:=by
  intro t x hx
  obtain ⟨y,hy,rfl⟩:=Ag hx
  rw [h.au t y hy,(SV.gQ hβ y).1]
 yP:=by
  intro t x hx s hs
  obtain ⟨y,hy,rfl⟩:=Ag hx
  obtain ⟨h1,h2⟩:=(SV.gQ hβ y).2 s hs
  exact eX (h.yP t y hy s h1) h2
 yO:=by
  intro t b hb s hs
  obtain ⟨-,y,hy,rfl⟩:=fB hb
  obtain ⟨h1,h2⟩:=(aQ.gQ hβ y).2 s hs
  exact eX (h.yO t y hy s h1) h2
 boxes:=by
  intro t b hb l
  obtain ⟨-,y,hy,rfl⟩:=fB hb
  rw [h.boxes t y hy (aQ.eX l),(aQ.gQ hβ y).1]
 inj:=by
  intro t t' b b' hb l hb' l' he
  obtain ⟨-,y,hy,rfl⟩:=fB hb
  obtain ⟨-,y',hy',rfl⟩:=fB hb'
  exact h.inj t t' y y' hy (aQ.eX l) hy' (aQ.eX l') he
 oR:=h.oR
 tW:=by
  intro t b hb l
  obtain ⟨-,y,hy,rfl⟩:=fB hb
  exact h.tW t y hy (aQ.eX l)
 ext:=h.ext
 own:=by
  intro t b hb l
  obtain ⟨-,y,hy,rfl⟩:=fB hb
  exact h.own t y hy (aQ.eX l)
 lJ:=h.lJ
 kb:=h.kb
 small:=h.small
theorem Mod.ig (h:Mod n V0 bC β0 st β a w V){d g:Nat}{b:aQ}(hd:d<n\/200000<=d)(hn:st.boxes d=none)(fF:b.cs.ids=[])
  (hg:∀s b',st.boxes s=some b'->b'.live->β s≠g)(hV:∀o,¬V.bG g o)(hown:V0.w.heap.size<=g\/(100000<=d/\bC.B g)){w':World}
  (hw:w'.heap[g]?=some (b.obj β))(hk:∀i,i<w.heap.size->i≠g->w'.heap[i]?=w.heap[i]?)(hsz:w.heap.size<=w'.heap.size)(hos:w'.os=w.os)(ht:w'.tape=w.tape)(hout:w'.output=w.output) :
  Mod n V0 bC β0 (st.box d b) (fV β d g) a w' V:=by
 have hne:∀s b',st.boxes s=some b'->s≠d:=fun s b' hs e=>by rw [e,hn] at hs;cases hs
 have hβ:∀s b',st.boxes s=some b'->fV β d g s=β s:=fun s b' hs=>fW _ _ (hne s b' hs)
 have hlt:∀s b',st.boxes s=some b'->b'.live->β s<w.heap.size:=fun s b' hs l=>aE (h.boxes s b' hs l)
 have Zy:∀b' o,V.bG b' o->b'<w.heap.size:=fun b' o hb=>aE (h.oR b' o hb).1
 refine ⟨h.defers,h.size,?_,?_,?_,?_,?_,?_,?_,?_,?_,?_,h.kb,h.small⟩
 ·intro t x hx
  rw [h.au t x hx]
  exact SV.bL fun s hs=>by obtain ⟨b',hb'⟩:=h.yP t x hx s hs;exact (hβ s b' hb').symm
 ·intro t x hx s hs
  obtain ⟨b',hb'⟩:=h.yP t x hx s hs
  exact ⟨b',by rw [ai,if_neg (hne s b' hb')];exact hb'⟩
 ·intro s b' hs s' hs'
  rw [ai] at hs
  split at hs
  ·simp only [Option.some.injEq] at hs;rw [←hs,fF] at hs';cases hs'
  ·obtain ⟨b'',kj⟩:=h.yO s b' hs s' hs'
   exact ⟨b'',by rw [ai,if_neg (hne s' b'' kj)];exact kj⟩
 ·intro s b' hs l
  rw [ai] at hs
  split at hs
  ·rename_i e
   simp only [Option.some.injEq] at hs
   rw [e,aP,hw,←hs]
   congr 1
   exact aQ.di fun s' hs'=>by rw [fF] at hs';cases hs'
  ·rw [hβ s b' hs,hk _ (hlt s b' hs l) (hg s b' hs l),h.boxes s b' hs l]
   congr 1
   exact aQ.di fun s' hs'=>by obtain ⟨b'',kj⟩:=h.yO s b' hs s' hs';exact (hβ s' b'' kj).symm
 ·intro s s' b1 b2 h1 l1 h2 l2 he
  rw [ai] at h1 h2
  split at h1<;>split at h2
  ·rename_i e1 e2;rw [e1,e2]
  ·rename_i e1 e2;rw [e1,aP,hβ s' b2 h2] at he;exact absurd he.symm (hg s' b2 h2 l2)
  ·rename_i e1 e2;rw [e2,aP,hβ s b1 h1] at he;exact absurd he (hg s b1 h1 l1)
  ·rw [hβ s b1 h1,hβ s' b2 h2] at he;exact h.inj s s' b1 b2 h1 l1 h2 l2 he
 ·intro b' o hb
  obtain ⟨h1,h2⟩:=h.oR b' o hb
  refine ⟨?_,h2⟩
  rw [hk _ (Zy b' o hb) (fun e=>hV o (e▸hb))]
  exact h1
 ·intro s b' hs l o ho'
  rw [ai] at hs
  split at hs
  ·rename_i e;rw [e,aP] at ho';exact hV o ho'
  ·rw [hβ s b' hs] at ho';exact h.tW s b' hs l o ho'
 ·refine ⟨Nat.le_trans h.ext.size hsz,fun i hi hX=>?_,hos.trans h.ext.os,ht.trans h.ext.tape,hout.trans h.ext.out⟩
  rw [hk i (Nat.lt_of_lt_of_le hi h.ext.size) (fun e=>by
   rcases hown with h1|h1
   ·omega
   ·exact hX (e▸h.kb _ h1.2))]
  exact h.ext.bG i hi hX
 ·intro s b' hs l
  rw [ai] at hs
  split at hs
  ·rename_i e;rw [e,aP];exact hown
  ·rw [hβ s b' hs];exact h.own s b' hs l
 ·intro s hs
  obtain ⟨h1,h2⟩:=h.lJ s hs
  exact ⟨h1,by rw [fW _ _ (by have:=h.small;omega)];exact h2⟩
theorem zd {t t' e e':TypeId}{ty:TypeId}(ht:P.underlying t=some (.slice e))(CV:P.underlying t'=some (.slice e'))(b xa:OA)(m c k xc:Nat) :
  (Builtin.append_ #[t,t'] ty #[.slice b m c,.slice xa k xc]).run P w=(Builtin.append_ #[t,t] ty #[.slice b m c,.slice xa k xc]).run P w:=by
 simp [Builtin.append_,aj ht,aj CV]
theorem uv {t e:TypeId}{ty:TypeId}{info:TypeInfo}(ht:P.underlying t=some (.slice e))(hi:P.info? e=some info)(base:OA)(m c c':Nat)(hc:m<=c) :
  (Builtin.append_ #[t,t] ty #[.slice base m c,.slice none 0 c']).run P w=.ok (.slice base m c) w:=by
 cases base<;>simp [Builtin.append_,aj ht,aL hi,Builtin.lenOf,Builtin.firstCells,storeCells,hc]
theorem lT (hM:Mod n V0 bC β0 st β a w V){s:Nat}{vs:List Value}{ty:TypeId}(h:ef st.boxes s=some vs)(ht:kc st.boxes s=some ty):w.heap[β s]?=some (.cells vs.toArray ty (0,0))/\∃b,st.boxes s=some b/\b.live:=by
 unfold ef at h
 unfold kc at ht
 split at h
 ·rename_i cs ty' hb
  rw [hb] at ht
  simp only [Option.some.injEq] at ht;subst ht
  have:=hM.row hb cL
  simp only [Cells.den,(fD (β:=β) h).1] at this
  exact ⟨this,_,hb,cL⟩
 ·rename_i ws ty' hb
  rw [hb] at ht
  simp only [Option.some.injEq,Option.some.injEq] at ht h;subst ht;subst h
  exact ⟨hM.row hb cd,_,hb,cd⟩
 ·cases h
theorem EG {bx:Nat->Option aQ}{s:Nat}{vs:List Value}(h:ef bx s=some vs):∃ty,kc bx s=some ty:=by
 unfold ef at h
 unfold kc
 split at h
 ·rename_i hb;rw [hb];exact ⟨_,rfl⟩
 ·rename_i hb;rw [hb];exact ⟨_,rfl⟩
 ·cases h
theorem we (hM:Mod n V0 bC β0 st β a w V){ad:Addr}{xs:List Value}(h:V.sl (some ad) xs):∀j v,xs[j]?=some v->w.cell? (ad.add j)=some v:=by
 intro j v hj
 obtain ⟨Tv,e,hat⟩:=h j v hj
 simp only [Option.some.injEq] at e
 subst e
 exact hM.Tw hat
def Src (w:World)(xa:OA)(k size:Nat)(xs:List Value):Prop:=
 xs.length=k*size/\(∀v∈xs,v.oneCell'=true)/\((∃ad,xa=some ad/\∀j v,xs[j]?=some v->w.cell? (ad.add j)=some v)\/xa=none/\k=0)
theorem I4 {t e ty:TypeId}{info:TypeInfo}(ht:P.underlying t=some (.slice e))(hi:P.info? e=some info){g m c k xc:Nat}{vs xs:List Value}{xa:OA}
  (hg:w.heap[g]?=some (.cells vs.toArray e (0,0)))(hx:Src w xa k info.size xs)(hc:m+k<=c)(hv:c*info.size<=vs.length) :
  ∃w',(Builtin.append_ #[t,t] ty #[.slice (some ⟨g,0,none⟩) m c,.slice xa k xc]).run P w=.ok (.slice (some ⟨g,0,none⟩) (m+k) c) w' /\
   w'.heap=w.heap.setIfInBounds g (.cells (vs.take (m*info.size)++xs++vs.drop (m*info.size+xs.length)).toArray e (0,0))/\w'.os=w.os/\w'.tape=w.tape/\w'.output=w.output:=by
 obtain ⟨hl,h1,hx⟩:=hx
 rcases hx with ⟨ad,rfl,hcells⟩|⟨rfl,rfl⟩
 ·have hfit:m*info.size+xs.length<=vs.length:=by
   rw [hl,←Nat.add_mul]
   exact Nat.le_trans (Nat.mul_le_mul_right _ hc) hv
  have hr:=run_append_room (P:=P) w t ty e info ht hi g m c vs.toArray hg ad k xc xs hl hcells h1 hc (by simpa using hfit)
  exact ⟨_,hr,by rw [d_ hg],rfl,rfl,rfl⟩
 ·have hx0:xs=[]:=List.length_eq_zero_iff.1 (by simpa using hl)
  subst hx0
  refine ⟨w,?_,?_,rfl,rfl,rfl⟩
  ·simpa using uv (P:=P) (w:=w) (ty:=ty) ht hi (some ⟨g,0,none⟩) m c xc (by omega)
  ·simp only [List.append_nil,List.length_nil,Nat.add_zero,List.take_append_drop]
   apply Array.ext_getElem?
   intro i
   rw [Array.getElem?_setIfInBounds]
   split
   ·rename_i e;rw [←e,if_pos (aE hg)];exact hg
   ·rfl
theorem za {t e ty:TypeId}{info:TypeInfo}{z:Value}(ht:P.underlying t=some (.slice e))(hi:P.info? e=some info)(hz:info.zero=some z)(hzs:z.cells.size=info.size)
  {m c k xc:Nat}{olds xs:List Value}{base xa:OA}
  (hbase:(∃b,base=some b/\olds.length=m*info.size/\∀j v,olds[j]?=some v->w.cell? (b.add j)=some v)\/base=none/\m=0/\c=0/\olds=[])
  (hx:Src w xa k info.size xs)(hc:c<m+k)(hb:(m+k)*info.bytes<=140737488355328)(hb0:info.bytes≠0)(hmc:m<=c) :
  ∃(c':Nat)(rest:List Value)(w':World),m+k<=c'/\(m+k)*info.size+rest.length=c'*info.size/\w'.heap=w.heap/\w'.os=w.os/\w'.tape=w.tape/\w'.output=w.output /\
   (Builtin.append_ #[t,t] ty #[.slice base m c,.slice xa k xc]).run P w=.ok (.slice (some ⟨w.heap.size,0,none⟩) (m+k) c') (w'.alloc (.cells (olds++xs++rest).toArray e)):=by
 obtain ⟨hl,h1,hx⟩:=hx
 have h63:(m+k:Nat)<=140737488355328:=by
  have:(m+k)*1<=(m+k)*info.bytes:=Nat.mul_le_mul_left _ (by omega)
  omega
 have hrest:∀N,(m+k)<=N->(m+k)*info.size+(Builtin.zeroCells z.cells (N-(m+k))).toList.length=N*info.size:=by
  intro N hN
  rw [Array.length_toList,size_zeroCells,hzs,←Nat.add_mul]
  congr 1;omega
 rcases hx with ⟨ad,rfl,hcells⟩|⟨rfl,rfl⟩
 ·rcases hbase with ⟨b,rfl,ho,hold⟩|⟨rfl,rfl,rfl,rfl⟩
  ·have hr:=run_append_grow (P:=P) w t ty e info z ht hi hz b m c olds ho hold ad k xc xs hl hcells hc (by omega) (growslice_fits hc hb)
   refine ⟨_,(Builtin.zeroCells z.cells (grownCap w (m+k) c e-(m+k))).toList,w.drew,grownCap_ge w (m+k) c e,hrest _ (grownCap_ge w (m+k) c e),rfl,rfl,rfl,rfl,?_⟩
   rw [hr]
   congr 3
   apply Array.ext'
   simp
  ·simp only [Nat.zero_add] at hc hb h63 hrest ⊢
   have hr:=run_append_nil (P:=P) w t ty e info z ht hi hz ad k xc xs hl hcells (by omega) (by omega) (by omega)
   refine ⟨_,(Builtin.zeroCells z.cells (grownCap w k 0 e-k)).toList,w.drew,grownCap_ge w k 0 e,hrest _ (grownCap_ge w k 0 e),rfl,rfl,rfl,rfl,?_⟩
   rw [hr]
   congr 3
   apply Array.ext'
   simp
 ·omega
theorem Bh {s d n:Nat}(hd:d<n):nC s d<n\/200000<=nC s d:=by
 unfold nC
 cases Nat.blt s 100000 with
 | true=>exact .inl hd
 | false=>exact .inr (by rw [cond_false];exact Nat.le_add_left _ _)
theorem GZ {s d:Nat}(hs:100000<=s):100000<=nC s d:=by
 unfold nC
 have:Nat.blt s 100000=false:=by
  cases h:Nat.blt s 100000 with
  | false=>rfl
  | true=>have:=Nat.le_of_ble_eq_true h;omega
 rw [this,cond_false]
 omega
theorem Cg (hM:Mod n V0 bC β0 st β a w V){d:Nat}(hd:d<n){t e ty:TypeId}{info:TypeInfo}{z:Value}
  (ht:P.underlying t=some (.slice e))(hi:P.info? e=some info)(hz:info.zero=some z)(hzs:z.cells.size=info.size)(hb0:info.bytes≠0)
  {s:Nat}{vs xs:List Value}{m c k xc:Nat}{base xa:OA}
  (hbase:(base=some ⟨β s,0,none⟩/\w.heap[β s]?=some (.cells vs.toArray e (0,0))/\∃b,st.boxes s=some b/\b.live)\/(base=none/\m=0/\c=0/\k≠0))
  (hx:Src w xa k info.size xs)(hb:(m+k)*info.bytes<=140737488355328)(hmc:m<=c)(hcv:c*info.size<=vs.length)(hxl:xs.length=k*info.size)(hnb:st.boxes (nC s d)=none) :
  ∃(spare:List Value)(c' g:Nat)(w':World),m+k<=c'/\c'*info.size<=(m+k)*info.size+spare.length/\((c≠0\/k≠0)->c'≠0) /\
   (Builtin.append_ #[t,t] ty #[.slice base m c,.slice xa k xc]).run P w=.ok (.slice (some ⟨g,0,none⟩) (m+k) c') w' /\
   ∀bx:aQ,(bx=⟨.row (vs.take (m*info.size)++xs++spare),e⟩\/bx=⟨.a_ (vs.take (m*info.size)++xs++spare),e⟩) ->
    Mod n V0 bC β0 ((st.box s ⟨.a_ [],e⟩).box (nC s d) bx) (fV β (nC s d) g) a w' V:=by
 have hM1:Mod n V0 bC β0 (st.box s ⟨.a_ [],e⟩) β a w V:=hM.void
 have hbx:∀bx:aQ,∀l:List Value,(bx=⟨.row l,e⟩\/bx=⟨.a_ l,e⟩)->bx.cs.ids=[]/\bx.obj β=.cells l.toArray e (0,0):=by
  rintro bx l (rfl|rfl)<;>exact ⟨rfl,rfl⟩
 have Rb:∀t b,(st.box s ⟨.a_ [],e⟩).boxes t=some b->b.live->st.boxes t=some b/\t≠s:=by
  intro t b hb l
  rw [ai] at hb
  split at hb
  ·cases hb;exact absurd l fS
  ·rename_i h;exact ⟨hb,h⟩
 have hnone:(∃b,st.boxes s=some b/\b.live)\/True->(s≠nC s d\/st.boxes s=none)->(st.box s ⟨.a_ [],e⟩).boxes (nC s d)=none\/s=nC s d:=by
  intro _ _
  by_cases h:s=nC s d
  ·exact .inr h
  ·left;rw [ai,if_neg (Ne.symm h)];exact hnb
 have grows:c<m+k->((∃b,base=some b/\(vs.take (m*info.size)).length=m*info.size/\∀j v,(vs.take (m*info.size))[j]?=some v->w.cell? (b.add j)=some v)\/base=none/\m=0/\c=0/\vs.take (m*info.size)=[]) ->
   (s=nC s d->st.boxes s=none) ->
   ∃(spare:List Value)(c' g:Nat)(w':World),m+k<=c'/\c'*info.size<=(m+k)*info.size+spare.length/\((c≠0\/k≠0)->c'≠0) /\
   (Builtin.append_ #[t,t] ty #[.slice base m c,.slice xa k xc]).run P w=.ok (.slice (some ⟨g,0,none⟩) (m+k) c') w' /\
   ∀bx:aQ,(bx=⟨.row (vs.take (m*info.size)++xs++spare),e⟩\/bx=⟨.a_ (vs.take (m*info.size)++xs++spare),e⟩) ->
    Mod n V0 bC β0 ((st.box s ⟨.a_ [],e⟩).box (nC s d) bx) (fV β (nC s d) g) a w' V:=by
  intro hc hold hsame
  obtain ⟨c',rest,w',h1,h2,hh,ho,htp,hou,hr⟩:=za (ty:=ty) (xc:=xc) ht hi hz hzs hold hx hc hb hb0 hmc
  refine ⟨rest,c',w.heap.size,_,h1,by rw [←h2];exact Nat.le_refl _,by omega,hr,?_⟩
  intro bx hb'
  obtain ⟨k1,k2⟩:=hbx bx _ hb'
  have hsz:w'.heap.size=w.heap.size:=by rw [hh]
  by_cases hs:s=nC s d
  ·
   have e1:(st.box s ⟨.a_ [],e⟩).box (nC s d) bx=st.box (nC s d) bx:=by
    rw [←hs]
    simp only [St.box]
    congr 1
    funext t
    cases Nat.beq t s<;>rfl
   rw [e1]
   refine hM.ig (Bh hd) hnb k1 ?_ ?_ (.inl hM.ext.size) ?_ ?_ ?_ ho htp hou
   ·intro t' b' hb' l he
    have:=aE (hM.boxes t' b' hb' l)
    omega
   ·intro o hb';have:=aE (hM.oR _ o hb').1;omega
   ·rw [k2,←hsz];exact heap_alloc_new _ _
   ·intro i hi' _;rw [bT _ _ (by omega),hh]
   ·simp [hsz]
  ·refine hM1.ig (Bh hd) (by rw [ai,if_neg (Ne.symm hs)];exact hnb) k1 ?_ ?_ (.inl hM.ext.size) ?_ ?_ ?_ ho htp hou
   ·intro t' b' hb' l he
    have:=aE (hM1.boxes t' b' hb' l)
    omega
   ·intro o hb';have:=aE (hM.oR _ o hb').1;omega
   ·rw [k2,←hsz];exact heap_alloc_new _ _
   ·intro i hi' _;rw [bT _ _ (by omega),hh]
   ·simp [hsz]
 rcases hbase with ⟨rfl,hg,bs,hbs,U0⟩|⟨rfl,rfl,rfl,hk0⟩
 ·have QG:s≠nC s d:=fun e=>by rw [←e,hbs] at hnb;cases hnb
  by_cases hc:m+k<=c
  ·obtain ⟨w',hr,hh,ho,htp,hou⟩:=I4 (ty:=ty) (xc:=xc) ht hi hg hx hc hcv
   have hfit:m*info.size+xs.length<=vs.length:=by
    rw [hxl,←Nat.add_mul]
    exact Nat.le_trans (Nat.mul_le_mul_right _ hc) hcv
   have hlt:=aE hg
   refine ⟨vs.drop (m*info.size+xs.length),c,β s,w',hc,by rw [List.length_drop,hxl,Nat.add_mul];omega,by omega,hr,?_⟩
   intro bx hb'
   obtain ⟨k1,k2⟩:=hbx bx _ hb'
   refine hM1.ig (Bh hd) (by rw [ai,if_neg (Ne.symm QG)];exact hnb) k1 ?_ (hM.tW s bs hbs U0) ?_ ?_ ?_ (by rw [hh];simp) ho htp hou
   ·intro t' b' hb' l he
    obtain ⟨h1,h2⟩:=Rb t' b' hb' l
    exact h2 (hM.inj t' s b' bs h1 l hbs U0 he)
   ·rcases hM.own s bs hbs U0 with h1|h1
    ·exact .inl h1
    ·exact .inr ⟨GZ h1.1,h1.2⟩
   ·rw [hh,Array.getElem?_setIfInBounds,if_pos rfl,if_pos hlt,k2]
   ·intro i _ hne;rw [hh,Array.getElem?_setIfInBounds,if_neg (Ne.symm hne)]
  ·refine grows (by omega) (.inl ⟨⟨β s,0,none⟩,rfl,?_,?_⟩) (fun e=>absurd e QG)
   ·rw [List.length_take,Nat.min_eq_left]
    exact Nat.le_trans (Nat.mul_le_mul_right _ hmc) hcv
   ·intro j v hj
    rw [fI,cell_of_row hg]
    rw [List.getElem?_take] at hj
    split at hj
    ·simpa using hj
    ·cases hj
 ·refine grows (by omega) (.inr ⟨rfl,rfl,rfl,by simp⟩) (fun e=>by rw [e];exact hnb)
theorem uw (hM:Mod n V0 bC β0 st β a w V){K:St->View->Prop}{d:Nat}(hd:d<n){t e ty:TypeId}{info:TypeInfo}{z:Value}
  (ht:P.underlying t=some (.slice e))(hi:P.info? e=some info)(hz:info.zero=some z)(hzs:z.cells.size=info.size)(hb0:info.bytes≠0)
  {s:Nat}{vs xs:List Value}{m c k xc:Nat}{xa:OA}(hg:w.heap[β s]?=some (.cells vs.toArray e (0,0)))(hbb:∃b,st.boxes s=some b/\b.live)
  (hx:Src w xa k info.size xs)(h:Ce s vs m c info.size info.bytes e d st V K k xs) :
  ∃v w' st' β',(Builtin.append_ #[t,t] ty #[.slice (some ⟨β s,0,none⟩) m c,.slice xa k xc]).run P w=.ok v w'/\Mod n V0 bC β0 st' β' (a.put (some d) v) w' V/\K st' V:=by
 obtain ⟨hb,hmc,hcv,hxl,hx1,h⟩:=h
 split at h
 ·exact h.elim
 ·rename_i hnb
  obtain ⟨spare,c',g,w',h1,h2,-,hr,Qs⟩:=Cg (ty:=ty) (xc:=xc) hM hd ht hi hz hzs hb0 (.inl ⟨rfl,hg,hbb⟩) hx hb hmc hcv hxl hnb
  refine ⟨_,w',_,_,hr,(Qs _ (.inl rfl)).put (x:=.c (.lR (nC s d) 0 (m+k) c')) hd ?_ ?_,h 0 (fun _=>.bool true) spare c' h1 h2⟩
  ·simp [SV.den,C.den,aP]
  ·intro s' hs'
   simp [SV.ids,C.ids] at hs'
   subst hs'
   exact ⟨_,by rw [ai,if_pos rfl]⟩
theorem vH (hM:Mod n V0 bC β0 st β a w V){K:St->View->Prop}{d:Nat}(hd:d<n){t e ty:TypeId}{info:TypeInfo}{z:Value}
  (ht:P.underlying t=some (.slice e))(hi:P.info? e=some info)(hz:info.zero=some z)(hzs:z.cells.size=info.size)(hb0:info.bytes≠0)(hs0:info.size≠0)
  {s:Nat}{vs xs:List Value}{m c k xc:Nat}{xa:OA}(hbb:st.boxes s=some ⟨.a_ vs,e⟩)
  (hx:Src w xa k info.size xs)(h:r_ s vs m c info.size info.bytes e d st V K k xs) :
  ∃v w' st' β',(Builtin.append_ #[t,t] ty #[.slice (mA (β s) c) m c,.slice xa k xc]).run P w=.ok v w'/\Mod n V0 bC β0 st' β' (a.put (some d) v) w' V/\K st' V:=by
 obtain ⟨hb,hmc,hcv,hxl,hx1,h⟩:=h
 split at h
 ·exact h.elim
 ·rename_i hnb
  have fin:((mA (β s) c=some ⟨β s,0,none⟩/\w.heap[β s]?=some (.cells vs.toArray e (0,0))/\∃b,st.boxes s=some b/\b.live)\/(mA (β s) c=none/\m=0/\c=0/\k≠0))->(c≠0\/k≠0) ->
    ∃v w' st' β',(Builtin.append_ #[t,t] ty #[.slice (mA (β s) c) m c,.slice xa k xc]).run P w=.ok v w'/\Mod n V0 bC β0 st' β' (a.put (some d) v) w' V/\K st' V:=by
   intro hbase hne
   obtain ⟨spare,c',g,w',h1,h2,h3,hr,Qs⟩:=Cg (ty:=ty) (xc:=xc) hM hd ht hi hz hzs hb0 hbase hx hb hmc hcv hxl hnb
   refine ⟨_,w',_,_,hr,(Qs _ (.inr rfl)).put (x:=.c (.jY (nC s d) (m+k) c')) hd ?_ ?_,h spare c' h1 h2⟩
   ·simp [SV.den,C.den,aP,mA,h3 hne]
   ·intro s' hs'
    simp [SV.ids,C.ids] at hs'
    subst hs'
    exact ⟨_,by rw [ai,if_pos rfl]⟩
  by_cases hc:c=0
  ·have hm:m=0:=by omega
   by_cases hk:k=0
   ·
    subst hc hm hk
    have hK:=h [] 0 (by omega) (by simp)
    have hx0:xs=[]:=List.length_eq_zero_iff.1 (by simpa using hxl)
    subst hx0
    have e1:vs.take (0*info.size)++[]++[]=([]:List Value):=by simp
    rw [e1] at hK
    have hM2:Mod n V0 bC β0 ((st.box s ⟨.a_ [],e⟩).box (nC s d) ⟨.a_ [],e⟩) β a w V:=hM.void.void
    refine ⟨.slice none 0 0,w,_,_,?_,hM2.put (x:=.c (.jY (nC s d) 0 0)) hd ?_ ?_,hK⟩
    ·have e2:mA (β s) 0=none:=rfl
     rw [e2]
     cases xa with
     | none=>exact uv ht hi none 0 0 xc (by omega)
     | some ad=>simp [Builtin.append_,aj ht,aL hi,Builtin.lenOf,Builtin.firstCells,loadCells,loadCellsFrom]
    ·simp [SV.den,C.den,mA]
    ·intro s' hs'
     simp [SV.ids,C.ids] at hs'
     subst hs'
     exact ⟨_,by rw [ai,if_pos rfl]⟩
   ·exact fin (.inr ⟨by rw [hc];rfl,hm,hc,hk⟩) (.inr hk)
  ·have hlv:aQ.live ⟨.a_ vs,e⟩:=fw fun e'=>by
    subst e'
    have h0:c*info.size=0:=by simpa using hcv
    rcases Nat.mul_eq_zero.1 h0 with h0|h0
    ·exact hc h0
    ·exact hs0 h0
   exact fin (.inl ⟨by simp [mA,hc],hM.row hbb hlv,_,hbb,hlv⟩) (.inl hc)
theorem ux (hM:Mod n V0 bC β0 st β a w V){K:St->View->Prop}{d:Nat}(hd:d<n){t e ty:TypeId}{info:TypeInfo}{z:Value}
  (ht:P.underlying t=some (.slice e))(hi:P.info? e=some info)(hz:info.zero=some z)(hzs:z.cells.size=info.size)(hb0:info.bytes≠0)
  {vs xs:List Value}{m c k xc:Nat}{xa ba:OA}(hsl:V.sl ba vs)(hvl:vs.length=m*info.size)(hmc:m<=c)(hn0:ba.isNone=true->c=0)(hs0:info.size≠0)
  (hx:Src w xa k info.size xs)(h:Cf vs m c info.size info.bytes e d st V K k xs) :
  ∃v w' st' β',(Builtin.append_ #[t,t] ty #[.slice ba m c,.slice xa k xc]).run P w=.ok v w'/\Mod n V0 bC β0 st' β' (a.put (some d) v) w' V/\K st' V:=by
 obtain ⟨hb,hlt,hxl,hx1,h⟩:=h
 have hbase:(∃b,ba=some b/\vs.length=m*info.size/\∀j v,vs[j]?=some v->w.cell? (b.add j)=some v)\/ba=none/\m=0/\c=0/\vs=[]:=by
  cases ba with
  | some b=>exact .inl ⟨b,rfl,hvl,we hM hsl⟩
  | none=>
   have hc:=hn0 rfl
   have hm:m=0:=by omega
   subst hm
   exact .inr ⟨rfl,rfl,hc,List.length_eq_zero_iff.1 (by simpa using hvl)⟩
 obtain ⟨c',rest,w',h1,h2,hh,ho,htp,hou,hr⟩:=za (ty:=ty) (xc:=xc) (base:=ba) (olds:=vs) ht hi hz hzs hbase hx hlt hb hb0 hmc
 split at h
 ·exact h.elim
 ·rename_i hn
  have hK:=h rest c' h1 (by rw [←h2];exact Nat.le_refl _)
  have hsz:w'.heap.size=w.heap.size:=by rw [hh]
  have Zu:=Mod.ig hM (d:=d) (g:=w.heap.size) (b:=⟨.row (vs++xs++rest),e⟩) (w':=w'.alloc (.cells (vs++xs++rest).toArray e)) (.inl hd) hn rfl
   (by
    intro t' b' hb' l he
    have:=aE (hM.boxes t' b' hb' l)
    omega)
   (by intro o hb';have:=aE (hM.oR _ o hb').1;omega) (.inl hM.ext.size)
   (by rw [←hsz];exact heap_alloc_new _ _)
   (by intro i hi' _;rw [bT _ _ (by omega),hh])
   (by simp [hsz]) ho htp hou
  refine ⟨_,_,_,_,hr,Zu.put (x:=.c (.lR d 0 (m+k) c')) hd ?_ ?_,hK⟩
  ·simp [SV.den,C.den,aP]
  ·intro s' hs'
   simp [SV.ids,C.ids] at hs'
   subst hs'
   exact ⟨_,by rw [ai,if_pos rfl]⟩
end Go.bE
namespace Go.bE
variable {P:Program} {T:cV} {n:Nat} {V0:View} {bC:Ey} {β0:Nat->Nat} {st:St} {β:Nat->Nat} {a:Act} {w:World} {V:View}
theorem DH (ws:List Value)(o n:Nat):(jC ws o n).length=n:=by
 unfold jC
 cases h:Nat.ble (o+n) ws.length with
 | true=>
  have:=Nat.le_of_ble_eq_true h
  simp only [cond_true]
  rw [List.length_take,List.length_drop];omega
 | false=>simp
theorem DG {ws:List Value}{o n:Nat}(h1:∀v∈jC ws o n,v.oneCell'=true){j:Nat}{v:Value}(hj:(jC ws o n)[j]?=some v):ws[o+j]?=some v:=by
 unfold jC at h1 hj
 cases h:Nat.ble (o+n) ws.length with
 | true=>
  rw [h] at hj
  simp only [cond_true] at hj
  rw [List.getElem?_take] at hj
  split at hj
  ·simpa using hj
  ·cases hj
 | false=>
  rw [h] at hj h1
  simp only [cond_false] at hj h1
  have hm:=List.mem_of_getElem? hj
  have:=h1 v hm
  rw [List.eq_of_mem_replicate hm] at this
  cases this
theorem Hf (hM:Mod n V0 bC β0 st β a w V){ei:TI}{info:TypeInfo}(e5:ei.size=info.size){s o k xc:Nat}{src:OA×Nat ⊕ List Value}
  (hsrc:(match st.boxes s with
    | some ⟨.row ws,_⟩=>some (.inr (jC ws o (k*ei.size)))
    | _=>match ef st.boxes s with
     | some ws=>if Nat.ble (o+k*ei.size) ws.length then some (.inr ((ws.drop o).take (k*ei.size))) else none
     | none=>none)=some src) :
  ∃xa k' Sv,(SV.c (.lR s o k xc)).den β=.slice xa k' Sv/\((src=.inl (xa,k'))\/∃xs,src=.inr xs/\xs.length=k'*info.size/\∃ad,xa=some ad/\((∀v∈xs,v.oneCell'=true)->∀j v,xs[j]?=some v->w.cell? (ad.add j)=some v)):=by
 split at hsrc
 ·rename_i ws ty hbx
  simp only [Option.some.injEq] at hsrc
  subst hsrc
  have hws:ef st.boxes s=some ws:=by unfold ef;rw [hbx]
  have htx:kc st.boxes s=some ty:=by unfold kc;rw [hbx]
  obtain ⟨k1,-⟩:=lT hM hws htx
  refine ⟨_,k,xc,rfl,.inr ⟨_,rfl,?_,⟨β s,o,none⟩,rfl,?_⟩⟩
  ·rw [DH,←e5]
  ·intro h1 j v hj
   rw [fI,cell_of_row k1]
   exact DG h1 hj
 ·split at hsrc
  ·rename_i ws hws
   split at hsrc
   ·rename_i hle
    have hle:=Nat.le_of_ble_eq_true hle
    simp only [Option.some.injEq] at hsrc
    subst hsrc
    obtain ⟨tx,htx⟩:=EG hws
    obtain ⟨k1,-⟩:=lT hM hws htx
    refine ⟨_,k,xc,rfl,.inr ⟨_,rfl,?_,⟨β s,o,none⟩,rfl,?_⟩⟩
    ·rw [List.length_take,List.length_drop,←e5];omega
    ·intro _ j v hj
     rw [fI,cell_of_row k1]
     rw [List.getElem?_take] at hj
     split at hj
     ·simpa using hj
     ·cases hj
   ·cases hsrc
  ·cases hsrc
theorem Bt (hM:Mod n V0 bC β0 st β a w V){e:TypeId}{ei:TI}{info:TypeInfo}{z:Value}(e5:ei.size=info.size)(e6:ei.bytes=info.bytes)(e7:ei.zero=z.cells.toList.map C.ofConst)
  {b x:SV}{old:Option Nat}{ba:OA}{vs:List Value}{m c:Nat}{src:OA×Nat ⊕ List Value}{size bytes:Nat}{ty:TypeId}
  (h:bX st.boxes e ei b x=.app old ba vs m c src size bytes ty) :
  size=info.size/\bytes=info.bytes/\ty=e/\info.bytes≠0/\info.size≠0/\z.cells.size=info.size /\
  (∃base,b.den β=.slice base m c/\((∃s,old=some s/\base=some ⟨β s,0,none⟩/\w.heap[β s]?=some (.cells vs.toArray e (0,0))/\∃b,st.boxes s=some b/\b.live)\/old=none/\base=ba)) /\
  ∃xa k xc,x.den β=.slice xa k xc/\((src=.inl (xa,k))\/∃xs,src=.inr xs/\xs.length=k*info.size/\∃ad,xa=some ad/\((∀v∈xs,v.oneCell'=true)->∀j v,xs[j]?=some v->w.cell? (ad.add j)=some v)):=by
 unfold bX at h
 split at h
 ·cases h
 ·rename_i zs hzs
  split at h
  ·cases h
  ·rename_i hcond
   simp only [Bool.or_eq_true,beq_eq,Bool.not_eq_eq_eq_not,not_or] at hcond
   obtain ⟨⟨g1,g2⟩,g3⟩:=hcond
   have g3:ei.size=zs.length:=by
    rcases hb:Nat.beq ei.size zs.length with _|_
    ·rw [hb] at g3;exact absurd rfl g3
    ·exact beq_eq.1 hb
   obtain ⟨z1,-⟩:=ee (β:=β) e7
   obtain ⟨d1,-⟩:=fD (β:=β) hzs
   have hzs':z.cells.size=info.size:=by rw [←z1,d1];simp [←g3,e5]
   dsimp only at h
   split at h
   ·cases h
   ·rename_i src' hsrc
    have hb:(src'=src/\ei.size=size/\ei.bytes=bytes/\e=ty)/\∃base,b.den β=.slice base m c/\((∃s,old=some s/\base=some ⟨β s,0,none⟩/\w.heap[β s]?=some (.cells vs.toArray e (0,0))/\∃b,st.boxes s=some b/\b.live)\/old=none/\base=ba):=by
     split at h
     ·simp only [Q.app.injEq] at h
      obtain ⟨rfl,rfl,rfl,rfl,rfl,rfl,rfl,rfl,rfl⟩:=h
      exact ⟨⟨rfl,rfl,rfl,rfl⟩,_,rfl,.inr ⟨rfl,rfl⟩⟩
     ·rename_i s n' c'
      split at h
      ·rename_i vs' ty' hv ht
       split at h
       ·rename_i he
        obtain rfl:=beq_eq.1 he
        simp only [Q.app.injEq] at h
        obtain ⟨rfl,rfl,rfl,rfl,rfl,rfl,rfl,rfl,rfl⟩:=h
        obtain ⟨k1,k2⟩:=lT hM hv ht
        exact ⟨⟨rfl,rfl,rfl,rfl⟩,_,rfl,.inl ⟨s,rfl,rfl,k1,k2⟩⟩
       ·cases h
      ·cases h
     ·split at h
      ·split at h<;>cases h
      ·cases h
     ·cases h
    obtain ⟨⟨rfl,rfl,rfl,rfl⟩,hb⟩:=hb
    refine ⟨e5,e6,rfl,by rw [←e6];exact g1,by rw [←e5];exact g2,hzs',hb,?_⟩
    split at hsrc
    ·rename_i xa k xc
     simp only [Option.some.injEq] at hsrc
     subst hsrc
     exact ⟨xa,k,xc,rfl,.inl rfl⟩
    ·rename_i s o k xc
     exact Hf hM e5 hsrc
    ·cases hsrc
theorem xV (hM:Mod n V0 bC β0 st β a w V){e:TypeId}{ei:TI}{info:TypeInfo}{z:Value}(e5:ei.size=info.size)(e6:ei.bytes=info.bytes)(e7:ei.zero=z.cells.toList.map C.ofConst)
  {b x:SV}{s:Nat}{vs:List Value}{m c:Nat}{src:OA×Nat ⊕ List Value}{size bytes:Nat}{ty:TypeId}
  (h:bX st.boxes e ei b x=.qY s vs m c src size bytes ty) :
  size=info.size/\bytes=info.bytes/\ty=e/\info.bytes≠0/\info.size≠0/\z.cells.size=info.size /\
  (b.den β=.slice (mA (β s) c) m c/\st.boxes s=some ⟨.a_ vs,e⟩) /\
  ∃xa k xc,x.den β=.slice xa k xc/\((src=.inl (xa,k))\/∃xs,src=.inr xs/\xs.length=k*info.size/\∃ad,xa=some ad/\((∀v∈xs,v.oneCell'=true)->∀j v,xs[j]?=some v->w.cell? (ad.add j)=some v)):=by
 unfold bX at h
 split at h
 ·cases h
 ·rename_i zs hzs
  split at h
  ·cases h
  ·rename_i hcond
   simp only [Bool.or_eq_true,beq_eq,Bool.not_eq_eq_eq_not,not_or] at hcond
   obtain ⟨⟨g1,g2⟩,g3⟩:=hcond
   have g3:ei.size=zs.length:=by
    rcases hb:Nat.beq ei.size zs.length with _|_
    ·rw [hb] at g3;exact absurd rfl g3
    ·exact beq_eq.1 hb
   obtain ⟨z1,-⟩:=ee (β:=β) e7
   obtain ⟨d1,-⟩:=fD (β:=β) hzs
   have hzs':z.cells.size=info.size:=by rw [←z1,d1];simp [←g3,e5]
   dsimp only at h
   split at h
   ·cases h
   ·rename_i src' hsrc
    have hb:(src'=src/\ei.size=size/\ei.bytes=bytes/\e=ty)/\b.den β=.slice (mA (β s) c) m c/\st.boxes s=some ⟨.a_ vs,e⟩:=by
     split at h
     ·cases h
     ·split at h
      ·split at h<;>cases h
      ·cases h
     ·rename_i s' n' c'
      split at h
      ·rename_i vs' ty' hv
       split at h
       ·rename_i he
        obtain rfl:=beq_eq.1 he
        simp only [Q.qY.injEq] at h
        obtain ⟨rfl,rfl,rfl,rfl,rfl,rfl,rfl,rfl⟩:=h
        exact ⟨⟨rfl,rfl,rfl,rfl⟩,rfl,hv⟩
       ·cases h
      ·cases h
     ·cases h
    obtain ⟨⟨rfl,rfl,rfl,rfl⟩,hb⟩:=hb
    refine ⟨e5,e6,rfl,by rw [←e6];exact g1,by rw [←e5];exact g2,hzs',hb,?_⟩
    split at hsrc
    ·rename_i xa k xc
     simp only [Option.some.injEq] at hsrc
     subst hsrc
     exact ⟨xa,k,xc,rfl,.inl rfl⟩
    ·rename_i s o k xc
     exact Hf hM e5 hsrc
    ·cases hsrc
theorem Ij (hT:cV.ok P T)(hM:Mod n V0 bC β0 st β a w V){o:Oper}{K:St->View->Prop}{d:Nat}(hd:d<n){old:Option Nat}{ba:OA}{vs:List Value}{m c:Nat}{src:OA×Nat ⊕ List Value}{size bytes:Nat}{ty:TypeId}
  (h:aJ T st.aY st.boxes o.op=.app old ba vs m c src size bytes ty)(hv:sZ (.app old ba vs m c src size bytes ty) (some d) st V K) :
  ∃v w' st' β',(execOp a.eval o).run P w=.ok (.value v) w'/\Mod n V0 bC β0 st' β' (a.put (some d) v) w' V/\K st' V:=by
 obtain ⟨cl,hop,pD⟩:=(fA (T:=T) (ρ:=st.aY) (bx:=st.boxes) (op:=o.op)).2.2 (by rw [h];rfl)
 rw [hop] at h
 simp only [aJ,pD] at h
 split at h
 ·rename_i b x t t' hargs hts
  split at h
  ·rename_i i i' hi hi'
   split at h
   ·rename_i e e' hk hk'
    split at h
    ·rename_i ei CS
     obtain ⟨Ny,d0,z0,h1,h2,h3,h4,-⟩:=aF (hT _ _ hi)
     obtain ⟨OO,d0',z0',h1',h2',h3',h4',-⟩:=aF (hT _ _ hi')
     obtain ⟨info,de,z,e1,e2,e3,e4,e5,e6,e7⟩:=aF (hT _ _ CS)
     rw [h4] at hk
     rw [h4'] at hk'
     obtain rfl:=aS hk
     obtain rfl:=aS hk'
     obtain ⟨rfl,rfl,rfl,hb0,hs0,hzs,⟨base,hbd,hold⟩,xa,k,xc,hxd,hsrc⟩:=Bt hM e5 e6 e7 h
     obtain ⟨q1,q2⟩:=fy hM _ _ hargs
     have f1:cl.argTypes=#[t,t']:=by apply Array.ext';exact hts
     have f2:cl.args.map a.eval=#[.slice base m c,.slice xa k xc]:=by
      apply Array.ext';rw [Array.toList_map,q1];simp [hbd,hxd]
     have hrun:∀{v w'},(Builtin.append_ #[t,t] o.type #[.slice base m c,.slice xa k xc]).run P w=.ok v w'->(execOp a.eval o).run P w=.ok (.value v) w':=by
      intro v w' hr
      simp only [execOp,hop,resolve,pD,pure_bind,invoke,f1,f2,builtin]
      refine dM ?_
      rw [zd h2 h2']
      exact hr
     have fin:∀{v w' st' β'},(Builtin.append_ #[t,t] o.type #[.slice base m c,.slice xa k xc]).run P w=.ok v w'->Mod n V0 bC β0 st' β' (a.put (some d) v) w' V->K st' V ->
       ∃v w' st' β',(execOp a.eval o).run P w=.ok (.value v) w'/\Mod n V0 bC β0 st' β' (a.put (some d) v) w' V/\K st' V:=fun r1 r2 r3=>⟨_,_,_,_,hrun r1,r2,r3⟩
     have MW:∀xs,V.sl xa xs->xs.length=k*info.size->(∀v∈xs,v.oneCell'=true)->Src w xa k info.size xs:=by
      intro xs hsl hxl h1
      refine ⟨hxl,h1,?_⟩
      cases xa with
      | some ad=>exact .inl ⟨ad,rfl,we hM hsl⟩
      | none=>
       refine .inr ⟨rfl,?_⟩
       have:xs=[]:=by
        cases xs with
        | nil=>rfl
        | cons y r=>obtain ⟨ad,e,-⟩:=hsl 0 y (by simp);cases e
       rw [this] at hxl
       rcases Nat.mul_eq_zero.1 hxl.symm with h|h
       ·exact h
       ·exact absurd h hs0
     rcases hold with ⟨s,rfl,rfl,hg,hbb⟩|⟨rfl,rfl⟩
     ·rcases hsrc with rfl|⟨xs,rfl,hxl,ad,rfl,hcells⟩
      ·obtain ⟨xs,hsl,hxl,hv⟩:=hv
       obtain ⟨v,w',st',β',r1,r2,r3⟩:=uw (ty:=o.type) (xc:=xc) hM hd h2 e1 e3 hzs hb0 hg hbb (MW xs hsl hxl hv.2.2.2.2.1) hv
       exact fin r1 r2 r3
      ·have hkk:xs.length / info.size=k:=by rw [hxl];exact Nat.mul_div_cancel _ (by omega)
       simp only [sZ,hkk] at hv
       obtain ⟨v,w',st',β',r1,r2,r3⟩:=uw (ty:=o.type) (xc:=xc) hM hd h2 e1 e3 hzs hb0 hg hbb ⟨hxl,hv.2.2.2.2.1,.inl ⟨ad,rfl,hcells hv.2.2.2.2.1⟩⟩ hv
       exact fin r1 r2 r3
     ·obtain ⟨vs,QM,hvl,hmc,hn0,hv⟩:=hv
      rcases hsrc with rfl|⟨xs,rfl,hxl,ad,rfl,hcells⟩
      ·obtain ⟨xs,hsl,hxl,hv1,hv2⟩:=hv
       by_cases hk0:k=0
       ·have hK:=hv1 hk0
        subst hk0
        refine fin (v:=.slice base m c) (w':=w) ?_ (hM.put (x:=.c (.v (.slice base m c))) hd rfl (fun s hs=>by cases hs)) hK
        cases xa with
        | none=>exact uv h2 e1 base m c xc hmc
        | some ad=>cases base<;>simp [Builtin.append_,aj h2,aL e1,Builtin.lenOf,Builtin.firstCells,loadCells,loadCellsFrom,storeCells,hmc]
       ·have hK:=hv2 hk0
        obtain ⟨v,w',st',β',r1,r2,r3⟩:=ux (ty:=o.type) (xc:=xc) hM hd h2 e1 e3 hzs hb0 QM hvl hmc hn0 hs0 (MW xs hsl hxl hK.2.2.2.1) hK
        exact fin r1 r2 r3
      ·have hkk:xs.length / info.size=k:=by rw [hxl];exact Nat.mul_div_cancel _ (by omega)
       dsimp only at hv
       rw [hkk] at hv
       obtain ⟨v,w',st',β',r1,r2,r3⟩:=ux (ty:=o.type) (xc:=xc) hM hd h2 e1 e3 hzs hb0 QM hvl hmc hn0 hs0 ⟨hxl,hv.2.2.2.1,.inl ⟨ad,rfl,hcells hv.2.2.2.1⟩⟩ hv
       exact fin r1 r2 r3
    ·cases h
   ·cases h
  ·cases h
 ·cases h
theorem FD (hT:cV.ok P T)(hM:Mod n V0 bC β0 st β a w V){o:Oper}{K:St->View->Prop}{d:Nat}(hd:d<n){s:Nat}{vs:List Value}{m c:Nat}{src:OA×Nat ⊕ List Value}{size bytes:Nat}{ty:TypeId}
  (h:aJ T st.aY st.boxes o.op=.qY s vs m c src size bytes ty)(hv:sZ (.qY s vs m c src size bytes ty) (some d) st V K) :
  ∃v w' st' β',(execOp a.eval o).run P w=.ok (.value v) w'/\Mod n V0 bC β0 st' β' (a.put (some d) v) w' V/\K st' V:=by
 obtain ⟨cl,hop,pD⟩:=(fA (T:=T) (ρ:=st.aY) (bx:=st.boxes) (op:=o.op)).2.2 (by rw [h];rfl)
 rw [hop] at h
 simp only [aJ,pD] at h
 split at h
 ·rename_i b x t t' hargs hts
  split at h
  ·rename_i i i' hi hi'
   split at h
   ·rename_i e e' hk hk'
    split at h
    ·rename_i ei CS
     obtain ⟨Ny,d0,z0,h1,h2,h3,h4,-⟩:=aF (hT _ _ hi)
     obtain ⟨OO,d0',z0',h1',h2',h3',h4',-⟩:=aF (hT _ _ hi')
     obtain ⟨info,de,z,e1,e2,e3,e4,e5,e6,e7⟩:=aF (hT _ _ CS)
     rw [h4] at hk
     rw [h4'] at hk'
     obtain rfl:=aS hk
     obtain rfl:=aS hk'
     obtain ⟨rfl,rfl,rfl,hb0,hs0,hzs,⟨hbd,hbb⟩,xa,k,xc,hxd,hsrc⟩:=xV hM e5 e6 e7 h
     obtain ⟨q1,q2⟩:=fy hM _ _ hargs
     have f1:cl.argTypes=#[t,t']:=by apply Array.ext';exact hts
     have f2:cl.args.map a.eval=#[.slice (mA (β s) c) m c,.slice xa k xc]:=by
      apply Array.ext';rw [Array.toList_map,q1];simp [hbd,hxd]
     have hrun:∀{v w'},(Builtin.append_ #[t,t] o.type #[.slice (mA (β s) c) m c,.slice xa k xc]).run P w=.ok v w'->(execOp a.eval o).run P w=.ok (.value v) w':=by
      intro v w' hr
      simp only [execOp,hop,resolve,pD,pure_bind,invoke,f1,f2,builtin]
      refine dM ?_
      rw [zd h2 h2']
      exact hr
     have fin:∀{v w' st' β'},(Builtin.append_ #[t,t] o.type #[.slice (mA (β s) c) m c,.slice xa k xc]).run P w=.ok v w'->Mod n V0 bC β0 st' β' (a.put (some d) v) w' V->K st' V ->
       ∃v w' st' β',(execOp a.eval o).run P w=.ok (.value v) w'/\Mod n V0 bC β0 st' β' (a.put (some d) v) w' V/\K st' V:=fun r1 r2 r3=>⟨_,_,_,_,hrun r1,r2,r3⟩
     have MW:∀xs,V.sl xa xs->xs.length=k*info.size->(∀v∈xs,v.oneCell'=true)->Src w xa k info.size xs:=by
      intro xs hsl hxl h1
      refine ⟨hxl,h1,?_⟩
      cases xa with
      | some ad=>exact .inl ⟨ad,rfl,we hM hsl⟩
      | none=>
       refine .inr ⟨rfl,?_⟩
       have:xs=[]:=by
        cases xs with
        | nil=>rfl
        | cons y r=>obtain ⟨ad,e,-⟩:=hsl 0 y (by simp);cases e
       rw [this] at hxl
       rcases Nat.mul_eq_zero.1 hxl.symm with h|h
       ·exact h
       ·exact absurd h hs0
     rcases hsrc with rfl|⟨xs,rfl,hxl,ad,rfl,hcells⟩
     ·obtain ⟨xs,hsl,hxl,hv⟩:=hv
      obtain ⟨v,w',st',β',r1,r2,r3⟩:=vH (ty:=o.type) (xc:=xc) hM hd h2 e1 e3 hzs hb0 hs0 hbb (MW xs hsl hxl hv.2.2.2.2.1) hv
      exact fin r1 r2 r3
     ·have hkk:xs.length / info.size=k:=by rw [hxl];exact Nat.mul_div_cancel _ (by omega)
      simp only [sZ,hkk] at hv
      obtain ⟨v,w',st',β',r1,r2,r3⟩:=vH (ty:=o.type) (xc:=xc) hM hd h2 e1 e3 hzs hb0 hs0 hbb ⟨hxl,hv.2.2.2.2.1,.inl ⟨ad,rfl,hcells hv.2.2.2.2.1⟩⟩ hv
      exact fin r1 r2 r3
    ·cases h
   ·cases h
  ·cases h
 ·cases h
theorem Dz (hT:cV.ok P T)(hM:Mod n V0 bC β0 st β a w V){o:Oper}{K:St->View->Prop}{next:Act->World->Prop}{Q:Exit->Act->World->Prop}
  (hd:∀d,o.dst=some d->d<n)(hv:sZ (aJ T st.aY st.boxes o.op) o.dst st V K)
  (hK:∀st' β' a' w' V',Mod n V0 bC β0 st' β' a' w' V'->K st' V'->next a' w'):o.wp P a w next Q:=by
 unfold Oper.wp
 generalize hq:aJ T st.aY st.boxes o.op=q at hv
 cases q with
 | fail=>exact hv.elim
 | ret sc x=>
  obtain ⟨h1,h2⟩:=(dE sc _).1 hv
  obtain ⟨r1,r2⟩:=Il hT hM hq h1
  rw [r1]
  exact hK _ _ _ _ _ (hM.Fx hd rfl r2) h2
 | new sc b x=>
  simp only [sZ] at hv
  cases hdst:o.dst with
  | none=>rw [hdst] at hv;exact hv.elim
  | some d=>
   rw [hdst] at hv
   dsimp only at hv
   split at hv
   ·rename_i hn
    obtain ⟨h1,h2⟩:=(dE sc _).1 hv
    obtain ⟨v,r1,r2,r3⟩:=Ik hT hM hq h1
    rw [r1]
    have hM':=hM.new (hd d hdst) hn r3
    have:=hM'.put (x:=x d) (v:=v) (hd d hdst) (r2 d).1 (by
     intro s hs
     rw [(r2 d).2] at hs
     simp at hs
     subst hs
     exact ⟨b,by rw [ai,if_pos rfl]⟩)
    simp only [Oper.upon_value,hdst]
    exact hK _ _ _ _ _ this h2
   ·exact hv.elim
 | sW sc s b=>
  simp only [sZ] at hv
  cases hdst:o.dst with
  | some d=>rw [hdst] at hv;exact hv.elim
  | none=>
   rw [hdst] at hv
   dsimp only at hv
   obtain ⟨h1,h2⟩:=(dE sc _).1 hv
   obtain ⟨nx,w',r1,rx,r2⟩:=Im hT hM hq h1
   rw [r1]
   rcases rx with rfl|⟨v,rfl⟩
   ·simp only [Oper.upon_skip,hdst]
    exact hK _ _ _ _ _ r2 h2
   ·simp only [Oper.upon_value,hdst]
    exact hK _ _ _ _ _ r2 h2
 | rd p sh=>
  obtain ⟨x,h1,h2,h3⟩:=uh.eA sh hv
  have h2':(∃c,x=.c c/\∃s',sh=.one s')\/∃cs l,x=.agg cs/\sh=.agg l/\cs.length=l.length:=h2
  obtain ⟨r1,r2⟩:=Kx hT hM hq h1 h2' h3
  rw [r1]
  exact hK _ _ _ _ _ (hM.Fx hd rfl (bO h1)) r2
 | nO vs of size sh=>
  obtain ⟨x,h1,h2,h3,h4⟩:=uh.eA sh hv
  have r1:=Dy hT hM hq h1 h2 h3
  rw [r1]
  exact hK _ _ _ _ _ (hM.Fx hd rfl (bO h1)) h4
 | qY s vs m c src size bytes ty=>
  cases hdst:o.dst with
  | none=>rw [hdst] at hv;exact hv.elim
  | some d=>
   rw [hdst] at hv
   obtain ⟨v,w',st',β',r1,r2,r3⟩:=FD hT hM (hd d hdst) hq hv
   rw [r1]
   simp only [Oper.upon_value,hdst]
   exact hK _ _ _ _ _ r2 r3
 | app old ba vs m c src size bytes ty=>
  cases hdst:o.dst with
  | none=>rw [hdst] at hv;exact hv.elim
  | some d=>
   rw [hdst] at hv
   obtain ⟨v,w',st',β',r1,r2,r3⟩:=Ij hT hM (hd d hdst) hq hv
   rw [r1]
   simp only [Oper.upon_value,hdst]
   exact hK _ _ _ _ _ r2 r3
end Go.bE
namespace Go.bE
variable {P:Program} {T:cV} {n:Nat} {V0:View} {bC:Ey} {β0:Nat->Nat} {st:St} {β:Nat->Nat} {a:Act} {w:World} {V:View}
def cI (V:View)(w:World):View:=⟨w,fun b=>b<w.heap.size/\∀o,¬V.bG b o,fun _=>False,fun _ h=>h.1,fun _ h=>h.elim⟩
theorem IE (hM:Mod n V0 bC β0 st β a w V):V.Le (cI V w):=fun b o hb=>⟨fun h=>h.2 o hb,(hM.oR b o hb).1⟩
theorem iJ.run {f:FuncId}(h:iJ P f)(xs:Array Value):(callFunc f xs).run P w=.ok (.enter f xs) w:=by
 obtain ⟨fn,h1,h2,h3⟩:=h
 simp only [callFunc,Sem.run_bind,run_program,Result.andThen_ok,h1,h3,h2,Bool.false_eq_true,if_false,Sem.run_pure]
theorem bK {x:Nat}:∀{l:List Nat},x∈dedup l↔x∈l
 | []=>by simp [dedup]
 | y::r=>by
  simp only [dedup]
  cases h:eI y (dedup r) with
  | true=>
   simp only [cond_true,List.mem_cons]
   rw [bK]
   constructor
   ·exact .inr
   ·rintro (rfl|h')
    ·exact bK.1 (cf.1 h)
    ·exact h'
  | false=>simp only [cond_false,List.mem_cons];rw [bK]
theorem eE {bx:Nat->Option aQ}:∀(k:Nat)(l:List Nat),∀x∈l,x∈reach bx k l
 | 0,_,x,hx=>hx
 | k+1,l,x,hx=>by simp only [reach];exact eE k _ x (bK.2 (List.mem_append_left _ hx))
theorem gS {bx:Nat->Option aQ}{l:List Nat}(h:gN bx l=true){s:Nat}(hs:s∈l){b:aQ}(hb:bx s=some b):∀t∈b.cs.ids,t∈l:=by
 unfold gN at h
 rw [List.all_eq_true] at h
 have:=h s hs
 unfold KS kF at this
 rw [hb,List.all_eq_true] at this
 exact fun t ht=>cf.1 (this t ht)
theorem j8 {L:List Nat}:∀{γ:Nat->Nat} {k:(Nat->Nat)->Prop},lI L γ k->∀β:Nat->Nat,k (fun t=>if t∈L then β t else γ t):=by
 induction L with
 | nil=>
  intro γ k h β
  have e:(fun t=>if t∈([]:List Nat) then β t else γ t)=γ:=by funext t;simp
  rw [e];exact h
 | cons s r ih=>
  intro γ k h β
  have:=ih (h (β s)) β
  have e:(fun t=>if t∈r then β t else fV γ s (β s) t)=fun t=>if t∈s::r then β t else γ t:=by
   funext t
   by_cases h1:t∈r
   ·simp [h1]
   ·by_cases h2:t=s
    ·subst h2;simp [h1,aP]
    ·simp [h1,h2,fW]
  rw [e] at this
  exact this
theorem vP {bx:Nat->Option aQ}{b:aQ}{γ:Nat->Nat}{s:Nat}:∀{r:List Nat} {k:Prop},NC bx b γ s r k->(∀t∈r,∀b',bx t=some b'->b.live->b'.live->γ s=γ t->s=t)->(∀t∈r,∃b',bx t=some b')->k
 | [],_,h,_,_=>h
 | t::r,k,h,hi,hl=>by
  simp only [NC] at h
  cases hb:Nat.beq s t with
  | true=>rw [hb] at h;exact vP h (fun t ht=>hi t (List.mem_cons_of_mem _ ht)) (fun t ht=>hl t (List.mem_cons_of_mem _ ht))
  | false=>
   rw [hb] at h
   obtain ⟨b',hb'⟩:=hl t (by simp)
   simp only [hb',cond_false] at h
   refine vP (h ?_) (fun t ht=>hi t (List.mem_cons_of_mem _ ht)) (fun t ht=>hl t (List.mem_cons_of_mem _ ht))
   rw [rX,fe]
   intro l
   rw [fe]
   intro l' e
   have:=hi t (by simp) b' hb' l l' e
   rw [this,Nat.beq_refl] at hb;cases hb
theorem vF {bx:Nat->Option aQ}{γ:Nat->Nat}{V':View}:∀{L:List Nat} {k:Prop},ik bx γ V' L k->(∀s∈L,∀b,bx s=some b->b.live->V'.w.heap[γ s]?=some (b.obj γ)/\V'.H (γ s)) ->
  (∀s∈L,∀t∈L,∀b b',bx s=some b->b.live->bx t=some b'->b'.live->γ s=γ t->s=t)->(∀s∈L,∃b,bx s=some b)/\k
 | [],k,h,_,_=>⟨fun s hs=>(nomatch hs),h⟩
 | s::r,k,h,hf,hi=>by
  simp only [ik] at h
  split at h
  ·rename_i b hb
   obtain ⟨h3,h5⟩:=vF (h (fe.2 fun l=>(hf s (by simp) b hb l).1) (fe.2 fun l=>(hf s (by simp) b hb l).2)) (fun s' hs'=>hf s' (List.mem_cons_of_mem _ hs'))
    (fun s' hs' t ht=>hi s' (List.mem_cons_of_mem _ hs') t (List.mem_cons_of_mem _ ht))
   have h4:=vP h5 (fun t ht b' hb' l l'=>hi s (by simp) t (List.mem_cons_of_mem _ ht) b b' hb l hb' l') h3
   exact ⟨fun s' hs'=>by rcases List.mem_cons.1 hs' with rfl|hs';exact ⟨b,hb⟩;exact h3 s' hs',h4⟩
  ·exact h.elim
theorem ku {bx:Nat->Option aQ}{γ:Nat->Nat}{V':View}:∀{L:List Nat} {k:Prop},xW bx γ V' L k->(∀s∈L,∀b,bx s=some b->b.live->V'.bG (γ s) (b.obj γ))->(∀s∈L,∃b,bx s=some b)/\k
 | [],k,h,_=>⟨fun s hs=>(nomatch hs),h⟩
 | s::r,k,h,hf=>by
  simp only [xW] at h
  split at h
  ·rename_i b hb
   obtain ⟨h3,h4⟩:=ku (h (fe.2 (hf s (by simp) b hb))) (fun s' hs'=>hf s' (List.mem_cons_of_mem _ hs'))
   exact ⟨fun s' hs'=>by rcases List.mem_cons.1 hs' with rfl|hs';exact ⟨b,hb⟩;exact h3 s' hs',h4⟩
  ·exact h.elim
theorem gU {mv:Option (Nat×Nat)}:∀(cs zs:List C) {K:List C->Prop},kT mv cs zs K->∃cs',K cs'/\∀s∈cs'.flatMap C.ids,s∈cs.flatMap C.ids\/∃m,mv=some (m,s)
 | [],_,_,h=>⟨[],h,fun s hs=>(nomatch hs)⟩
 | c::r,[],_,h=>h.elim
 | c::r,z::zr,K,h=>by
  simp only [kT] at h
  split at h
  ·split at h
   ·rename_i m nb
    split at h
    ·obtain ⟨n,c,h⟩:=h
     obtain ⟨cs',h1,h2⟩:=gU r zr h
     refine ⟨_,h1,fun s hs=>?_⟩
     simp only [List.flatMap_cons,List.mem_append] at hs ⊢
     rcases hs with hs|hs
     ·simp only [C.ids,List.mem_singleton] at hs
      subst hs
      exact .inr ⟨m,rfl⟩
     ·exact (h2 s hs).imp .inr id
    ·exact h.elim
   ·exact h.elim
  ·split at h
   ·obtain ⟨v,hv,h'⟩:=xi.eA _ h
    obtain ⟨cs',h1,h2⟩:=gU r zr h'
    exact ⟨v::cs',h1,fun s hs=>by
     simp only [List.flatMap_cons,hv,List.nil_append,List.mem_append] at hs ⊢
     exact (h2 s hs).imp .inr id⟩
   ·obtain ⟨cs',h1,h2⟩:=gU r zr h
    exact ⟨c::cs',h1,fun s hs=>by
     simp only [List.flatMap_cons,List.mem_append] at hs ⊢
     rcases hs with hs|hs
     ·exact .inl (.inl hs)
     ·exact (h2 s hs).imp .inr id⟩
theorem Mod.fill (h:Mod n V0 bC β0 st β a w V){s:Nat}{b0 b:aQ}(hs:st.boxes s=some b0)(fF:∀t∈b.cs.ids,∃b',st.boxes t=some b')
  (hg:∀t b',st.boxes t=some b'->b'.live->t≠s->β t≠β s)(hV:∀o,¬V.bG (β s) o)(hown:V0.w.heap.size<=β s\/(100000<=s/\bC.B (β s)))(hw:w.heap[β s]?=some (b.obj β)) :
  Mod n V0 bC β0 (st.box s b) β a w V:=by
 have hl:∀t,(∃b',st.boxes t=some b')->∃b',(st.box s b).boxes t=some b':=by
  rintro t ⟨b',ht⟩
  rw [ai]
  split
  ·exact ⟨_,rfl⟩
  ·exact ⟨b',ht⟩
 refine ⟨h.defers,h.size,h.au,fun t x hx u hu=>hl u (h.yP t x hx u hu),?_,?_,?_,h.oR,?_,h.ext,?_,h.lJ,h.kb,h.small⟩
 ·intro t b' ht u hu
  rw [ai] at ht
  split at ht
  ·simp only [Option.some.injEq] at ht;exact hl u (fF u (ht▸hu))
  ·exact hl u (h.yO t b' ht u hu)
 ·intro t b' ht l
  rw [ai] at ht
  split at ht
  ·rename_i e;simp only [Option.some.injEq] at ht;rw [e,←ht];exact hw
  ·exact h.boxes t b' ht l
 ·intro t t' b1 b2 h1 l1 h2 l2 he
  rw [ai] at h1 h2
  split at h1<;>split at h2
  ·rename_i e1 e2;rw [e1,e2]
  ·rename_i e1 e2;rw [e1] at he;exact absurd he.symm (hg t' b2 h2 l2 e2)
  ·rename_i e1 e2;rw [e2] at he;exact absurd he (hg t b1 h1 l1 e1)
  ·exact h.inj t t' b1 b2 h1 l1 h2 l2 he
 ·intro t b' ht l
  rw [ai] at ht
  split at ht
  ·rename_i e;rw [e];exact hV
  ·exact h.tW t b' ht l
 ·intro t b' ht l
  rw [ai] at ht
  split at ht
  ·rename_i e;rw [e];exact hown
  ·exact h.own t b' ht l
theorem Mod.later (hM:Mod n V0 bC β0 st β a w V){X:Nat->Prop}{w':World}(hx:eM X w w')(hX:∀t b,st.boxes t=some b->b.live->¬X (β t))(hX0:∀i,i<V0.w.heap.size->X i->V0.X i){V1:View}
  (OK:∀b o,V1.bG b o->w'.heap[b]?=some o/\¬V0.H b)(qS:∀t b,st.boxes t=some b->b.live->∀o,¬V1.bG (β t) o):Mod n V0 bC β0 st β a w' V1:=by
 refine ⟨hM.defers,hM.size,hM.au,hM.yP,hM.yO,?_,hM.inj,OK,qS,?_,hM.own,hM.lJ,hM.kb,hM.small⟩
 ·intro t b hb l
  have:=hM.boxes t b hb l
  rw [hx.bG _ (aE this) (hX t b hb l)]
  exact this
 ·refine ⟨Nat.le_trans hM.ext.size hx.size,fun i hi XF=>?_,hx.os.trans hM.ext.os,hx.tape.trans hM.ext.tape,hx.out.trans hM.ext.out⟩
  rw [hx.bG i (Nat.lt_of_lt_of_le hi hM.ext.size) (fun h=>XF (hX0 i hi h))]
  exact hM.ext.bG i hi XF
theorem Mod.beta (hM:Mod n V0 bC β0 st β a w V){d g:Nat}(hd:d<n\/200000<=d)(hn:st.boxes d=none):Mod n V0 bC β0 st (fV β d g) a w V:=by
 have hne:∀s b',st.boxes s=some b'->s≠d:=fun s b' hs e=>by rw [e,hn] at hs;cases hs
 have hβ:∀s b',st.boxes s=some b'->fV β d g s=β s:=fun s b' hs=>fW _ _ (hne s b' hs)
 refine ⟨hM.defers,hM.size,?_,hM.yP,hM.yO,?_,?_,hM.oR,?_,hM.ext,?_,?_,hM.kb,hM.small⟩
 ·intro t x hx
  rw [hM.au t x hx]
  exact SV.bL fun s hs=>by obtain ⟨b',hb'⟩:=hM.yP t x hx s hs;exact (hβ s b' hb').symm
 ·intro s b hb l
  rw [hβ s b hb,hM.boxes s b hb l]
  congr 1
  exact aQ.di fun s' hs'=>by obtain ⟨b'',kj⟩:=hM.yO s b hb s' hs';exact (hβ s' b'' kj).symm
 ·intro s s' b b' hb l hb' l' he
  rw [hβ s b hb,hβ s' b' hb'] at he
  exact hM.inj s s' b b' hb l hb' l' he
 ·intro s b hb l
  rw [hβ s b hb]
  exact hM.tW s b hb l
 ·intro s b hb l
  rw [hβ s b hb]
  exact hM.own s b hb l
 ·intro s hs
  obtain ⟨h1,h2⟩:=hM.lJ s hs
  exact ⟨h1,by rw [fW _ _ (by have:=hM.small;omega)];exact h2⟩
def jF (st:St)(L:List Nat)(ty:TypeId):St:=L.foldl (fun st s=>st.box s ⟨.a_ [],ty⟩) st
theorem mN {ty:TypeId}:∀{L:List Nat} {st:St},(jF st L ty).au=st.au
 | [],_=>rfl
 | s::r,st=>by unfold jF;rw [List.foldl_cons];exact mN (L:=r)
theorem bB {ty:TypeId}:∀{L:List Nat} {st:St} (t:Nat),(jF st L ty).boxes t=if t∈L then some ⟨.a_ [],ty⟩ else st.boxes t
 | [],st,t=>by simp [jF]
 | s::r,st,t=>by
  have:=bB (ty:=ty) (L:=r) (st:=st.box s ⟨.a_ [],ty⟩) t
  unfold jF at this ⊢
  rw [List.foldl_cons,this,ai]
  by_cases h1:t∈r
  ·simp [h1]
  ·by_cases h2:t=s
   ·simp [h2]
   ·simp [h1,h2]
theorem Mod.K4 {ty:TypeId}:∀{L:List Nat} {st:St},Mod n V0 bC β0 st β a w V->Mod n V0 bC β0 (jF st L ty) β a w V
 | [],_,h=>h
 | s::r,st,h=>by unfold jF;rw [List.foldl_cons];exact Mod.K4 (L:=r) h.void
theorem kU {mv:Option (Nat×Nat)}{γ:Nat->Nat}{V2:View}{A:List Nat}(hV2:V2.w=w)(UI:∀s∈A,γ s=β s)(hinj:∀s∈A,∀s'∈A,β s=β s'->s=s')(qS:∀s∈A,∀o,¬V.bG (β s) o)
  (hown:∀s∈A,V0.w.heap.size<=β s\/(100000<=s/\bC.B (β s))) :
  ∀(L:List Nat) (KQ xY:St) {k:St->Prop},(∀s∈L,s∈A)->Mod n V0 bC β0 xY β a w V->KQ.au=xY.au->(∀t,t∉L->KQ.boxes t=xY.boxes t)->(∀s∈L,∃b,xY.boxes s=some b) ->
   (∀t b,xY.boxes t=some b->b.live->t∉A->∀s∈A,β t≠β s)->(∀s∈L,∀b,KQ.boxes s=some b->∀t∈b.cs.ids,(∃b',xY.boxes t=some b')/\γ t=β t)->(∀m nb,mv=some (m,nb)->(∃b',xY.boxes nb=some b')/\γ nb=β nb) ->
   dY T mv γ V2 L KQ k->∃st',Mod n V0 bC β0 st' β a w V/\st'.au=xY.au/\(∀t,(∃b,xY.boxes t=some b)->∃b,st'.boxes t=some b)/\k st'
 | [],KQ,xY,k,_,hM,hsl,hag,_,_,_,_,h=>by
  have:KQ=xY:=by
   obtain ⟨s1,b1⟩:=KQ
   obtain ⟨s2,b2⟩:=xY
   dsimp only at hsl hag
   subst hsl
   congr 1
   funext t
   exact hag t (by simp)
  exact ⟨xY,hM,rfl,fun _ h=>h,this▸h⟩
 | s::r,KQ,xY,k,hA,hM,hsl,hag,hb,hd,hw,hmv,h=>by
  have hsA:=hA s (by simp)
  obtain ⟨b0,hb0⟩:=hb s (by simp)
  have step:∀b1:aQ,(∀t∈b1.cs.ids,(∃b',xY.boxes t=some b')/\γ t=β t)->w.heap[γ s]?=some (b1.obj γ)->dY T mv γ V2 r (KQ.box s b1) k ->
    ∃st',Mod n V0 bC β0 st' β a w V/\st'.au=xY.au/\(∀t,(∃b,xY.boxes t=some b)->∃b,st'.boxes t=some b)/\k st':=by
   intro b1 fF vt h
   rw [UI s hsA,aQ.di fun t ht=>(fF t ht).2] at vt
   by_cases hsr:s∈r
   ·
    refine kU hV2 UI hinj qS hown r (KQ.box s b1) xY (fun s' hs'=>hA s' (List.mem_cons_of_mem _ hs')) hM hsl ?_ (fun s' hs'=>hb s' (List.mem_cons_of_mem _ hs')) hd ?_ hmv h
    ·intro t ht
     have:t≠s:=fun e=>ht (e▸hsr)
     rw [ai,if_neg this]
     exact hag t (by simp [this,ht])
    ·intro s' hs' b' hb' t ht
     rw [ai] at hb'
     split at hb'
     ·cases hb';exact fF t ht
     ·exact hw s' (List.mem_cons_of_mem _ hs') b' hb' t ht
   ·have hM':=hM.fill (b:=b1) hb0 (fun t ht=>(fF t ht).1) (by
     intro t b' ht l hts he
     by_cases Mb:t∈A
     ·exact hts (hinj t Mb s hsA he)
     ·exact hd t b' ht l Mb s hsA he) (qS s hsA) (hown s hsA) vt
    have hl:∀t,(∃b,xY.boxes t=some b)->∃b,(xY.box s b1).boxes t=some b:=by
     rintro t ⟨b,ht⟩
     rw [ai]
     split
     ·exact ⟨_,rfl⟩
     ·exact ⟨b,ht⟩
    obtain ⟨st',g1,g2,g3,g4⟩:=kU hV2 UI hinj qS hown r (KQ.box s b1) (xY.box s b1) (fun s' hs'=>hA s' (List.mem_cons_of_mem _ hs')) hM' hsl
     (by
      intro t ht
      rw [ai,ai]
      split
      ·rfl
      ·rename_i e;exact hag t (by simp [e,ht]))
     (fun s' hs'=>hl s' (hb s' (List.mem_cons_of_mem _ hs')))
     (by
      intro t b' ht l Mb
      rw [ai] at ht
      split at ht
      ·rename_i e;exact absurd (e▸hsA) Mb
      ·exact hd t b' ht l Mb)
     (by
      intro s' hs' b' hb' t ht
      rw [ai] at hb'
      split at hb'
      ·cases hb';exact ⟨hl t (fF t ht).1,(fF t ht).2⟩
      ·have:=hw s' (List.mem_cons_of_mem _ hs') b' hb' t ht;exact ⟨hl t this.1,this.2⟩)
     (fun m nb e=>⟨hl nb (hmv m nb e).1,(hmv m nb e).2⟩) h
    exact ⟨st',g1,g2,fun t ht=>g3 t (hl t ht),g4⟩
  simp only [dY] at h
  split at h
  ·rename_i cs ty hcs
   split at h
   ·rename_i i hi
    obtain ⟨cs',⟨h1,h2⟩,h3⟩:=gU _ _ h
    rw [hV2] at h1
    refine step ⟨.lit cs',ty⟩ (fun t ht=>?_) h1 h2
    rcases h3 t ht with h4|⟨m,h4⟩
    ·exact hw s (by simp) _ hcs t h4
    ·exact hmv m t h4
   ·exact h.elim
  ·rename_i vs ty hcs
   obtain ⟨vs',h1,h2⟩:=h
   rw [hV2] at h1
   exact step ⟨.row vs',ty⟩ (fun t ht=>(nomatch ht)) h1 h2
  ·rename_i vs ty hcs
   obtain ⟨-,vs',-,h1,h2⟩:=h
   rw [hV2] at h1
   exact step ⟨.a_ vs',ty⟩ (fun t ht=>(nomatch ht)) h1 h2
  ·exact h.elim
theorem vE {mv:Option (Nat×Nat)}{V2:View}:∀{L:List Nat} {st:St} {k:St->Prop},dY T mv β V2 L st k->∀s∈L,∃b,st.boxes s=some b/\b.live
 | [],_,_,_,s,hs=>nomatch hs
 | s::r,st,k,h,t,ht=>by
  have core:∀b1:aQ,(∃b,st.boxes s=some b/\b.live)->dY T mv β V2 r (st.box s b1) k->∃b,st.boxes t=some b/\b.live:=by
   intro b1 hs h
   by_cases e:t=s
   ·rw [e];exact hs
   ·have:=vE h t (by simpa [e] using ht)
    rw [ai,if_neg e] at this
    exact this
  simp only [dY] at h
  split at h
  ·rename_i cs ty hcs
   split at h
   ·obtain ⟨cs',⟨h1,h2⟩,h3⟩:=gU _ _ h
    exact core _ ⟨_,hcs,cL⟩ h2
   ·exact h.elim
  ·rename_i vs ty hcs
   obtain ⟨vs',h1,h2⟩:=h
   exact core _ ⟨_,hcs,cd⟩ h2
  ·rename_i vs ty hcs
   obtain ⟨hne,vs',-,h1,h2⟩:=h
   exact core _ ⟨_,hcs,fun _ e=>by cases e;exact hne⟩ h2
  ·exact h.elim
theorem vD {bx:Nat->Option aQ}{γ:Nat->Nat}{N b:Nat}{L:List Nat}(hl:∀s∈L,∃b,bx s=some b)(hb:b∈L.map (dG bx γ N))(hlt:b<N):∃s∈L,∃b0,bx s=some b0/\b0.live/\γ s=b:=by
 obtain ⟨s,hs,he⟩:=List.mem_map.1 hb
 obtain ⟨b0,hb0⟩:=hl s hs
 unfold dG at he
 rw [hb0] at he
 obtain ⟨cs,ty⟩:=b0
 cases cs with
 | lit cs=>exact ⟨s,hs,_,hb0,cL,he⟩
 | row cs=>exact ⟨s,hs,_,hb0,cd,he⟩
 | a_ vs=>
  cases vs with
  | nil=>simp only [vb] at he;omega
  | cons v r=>exact ⟨s,hs,_,hb0,fw (by simp),he⟩
theorem rW {nb:Nat}:∀{xs:List (Bool×List C)},(xs.flatMap fun x=>x.2.flatMap C.ids)=[]->∀s∈((tV nb xs).flatMap fun x=>x.2.flatMap C.ids),s=nb
 | [],_,s,hs=>nomatch hs
 | x::r,h,s,hs=>by
  simp only [List.flatMap_cons,List.append_eq_nil_iff] at h
  unfold tV at hs
  split at hs
  ·rename_i heq;cases heq
  ·rename_i heq
   cases heq
   simp only [List.flatMap_cons,h.2,List.flatMap_nil,List.append_nil] at hs
   simpa [C.ids] using hs
  ·rename_i heq
   cases heq
   simp only [List.flatMap_cons,List.mem_append,h.1,List.not_mem_nil,false_or] at hs
   exact rW h.2 s hs
theorem vq {nb:Nat}:∀{cs:List C},(cs.flatMap C.ids)=[]->∀s∈(A7 nb cs).flatMap C.ids,s=nb
 | [],_,s,hs=>nomatch hs
 | x::r,h,s,hs=>by
  simp only [List.flatMap_cons,List.append_eq_nil_iff] at h
  unfold A7 at hs
  split at hs
  ·rename_i heq;cases heq
  ·rename_i heq
   cases heq
   simp only [List.flatMap_cons,h.2,List.append_nil] at hs
   simpa [C.ids] using hs
  ·rename_i heq
   cases heq
   simp only [List.flatMap_cons,List.mem_append,h.1,List.not_mem_nil,false_or] at hs
   exact vq h.2 s hs
theorem E7 {nb:Nat}{x:SV}(h:x.ids=[]):∀s∈(qR nb x).ids,s=nb:=by
 intro s hs
 unfold qR at hs
 split at hs
 ·simpa [SV.ids,C.ids] using hs
 ·exact vq h s hs
 ·exact rW h s hs
 ·rw [h] at hs;cases hs
theorem CH {xs:List SV}(h:∀x∈xs,x.ids=[])(γ δ:Nat->Nat):aT γ xs=aT δ xs:=by
 unfold aT
 rw [List.map_congr_left fun x hx=>jt (h x hx) γ δ]
theorem Mod.N7 {w0:World}{V':View}(hM:Mod n V0 bC β0 st β a w V')(hlt:∀s b,st.boxes s=some b->b.live->β s<w0.heap.size)(hsz:V0.w.heap.size<=w0.heap.size){d b:Nat}{cs:List C}{e:TypeId}(hd:d<n)(hn:st.boxes d=none)
  (hb:w0.heap.size<=b)(hw:V'.w=w)(hblk:V'.bG b (.cells (cs.map (C.den fun _=>0)).toArray e (0,0)))(fF:cs.flatMap C.ids=[]) :
  Mod n V0 bC β0 ((st.box d ⟨.lit cs,e⟩).put (some d) (.c (.ptr d 0))) (fV β d b) (a.put (some d) (.pointer (some ⟨b,0,none⟩))) w (V'.Ox b):=by
 have hne:∀s b',st.boxes s=some b'->s≠d:=fun s b' hs e=>by rw [e,hn] at hs;cases hs
 have hβ:∀s b',st.boxes s=some b'->fV β d b s=β s:=fun s b' hs=>fW _ _ (hne s b' hs)
 have hbw:w.heap[b]?=some (.cells (cs.map (C.den fun _=>0)).toArray e (0,0)):=(hM.oR b _ hblk).1
 have vt:(⟨.lit cs,e⟩:aQ).obj (fV β d b)=.cells (cs.map (C.den fun _=>0)).toArray e (0,0):=by
  simp only [aQ.obj,Cells.den]
  rw [kR (β':=fun _=>0) fun s hs=>by rw [fF] at hs;cases hs]
 have Qs:Mod n V0 bC β0 (st.box d ⟨.lit cs,e⟩) (fV β d b) a w (V'.Ox b):=by
  refine ⟨hM.defers,hM.size,?_,?_,?_,?_,?_,?_,?_,hM.ext,?_,?_,hM.kb,hM.small⟩
  ·intro t x hx
   rw [hM.au t x hx]
   exact SV.bL fun s hs=>by obtain ⟨b',hb'⟩:=hM.yP t x hx s hs;exact (hβ s b' hb').symm
  ·intro t x hx s hs
   obtain ⟨b',hb'⟩:=hM.yP t x hx s hs
   exact ⟨b',by rw [ai,if_neg (hne s b' hb')];exact hb'⟩
  ·intro s b' hs s' hs'
   rw [ai] at hs
   split at hs
   ·simp only [Option.some.injEq] at hs
    rw [←hs] at hs'
    simp only [Cells.ids] at hs'
    rw [fF] at hs';cases hs'
   ·obtain ⟨b'',kj⟩:=hM.yO s b' hs s' hs'
    exact ⟨b'',by rw [ai,if_neg (hne s' b'' kj)];exact kj⟩
  ·intro s b' hs l
   rw [ai] at hs
   split at hs
   ·rename_i e'
    simp only [Option.some.injEq] at hs
    rw [e',aP,←hs,vt]
    exact hbw
   ·rw [hβ s b' hs,hM.boxes s b' hs l]
    congr 1
    exact aQ.di fun s' hs'=>by obtain ⟨b'',kj⟩:=hM.yO s b' hs s' hs';exact (hβ s' b'' kj).symm
  ·intro s s' b1 b2 h1 l1 h2 l2 he
   rw [ai] at h1 h2
   split at h1<;>split at h2
   ·rename_i e1 e2;rw [e1,e2]
   ·rename_i e1 e2;rw [e1,aP,hβ s' b2 h2] at he;have:=hlt s' b2 h2 l2;omega
   ·rename_i e1 e2;rw [e2,aP,hβ s b1 h1] at he;have:=hlt s b1 h1 l1;omega
   ·rw [hβ s b1 h1,hβ s' b2 h2] at he;exact hM.inj s s' b1 b2 h1 l1 h2 l2 he
  ·rintro x o ⟨h1,h2⟩
   exact hM.oR x o ⟨fun h=>h1 (.inl h),h2⟩
  ·rintro s b' hs l o ⟨h1,h2⟩
   rw [ai] at hs
   split at hs
   ·rename_i e'
    rw [e',aP] at h1
    exact h1 (.inr ⟨rfl,by rw [hw];exact aE hbw⟩)
   ·rw [hβ s b' hs] at h1 h2
    exact hM.tW s b' hs l o ⟨fun h=>h1 (.inl h),h2⟩
  ·intro s b' hs l
   rw [ai] at hs
   split at hs
   ·rename_i e';rw [e',aP];exact .inl (Nat.le_trans hsz hb)
   ·rw [hβ s b' hs];exact hM.own s b' hs l
  ·intro s hs
   obtain ⟨h1,h2⟩:=hM.lJ s hs
   exact ⟨h1,by rw [fW _ _ (by have:=hM.small;omega)];exact h2⟩
 refine Qs.put hd ?_ ?_
 ·simp only [SV.den,C.den,aP]
 ·intro s hs
  simp [SV.ids,C.ids] at hs
  subst hs
  exact ⟨_,by rw [ai,if_pos rfl]⟩
theorem vL {L:List Nat}{m s:Nat}:s∈(L.filter fun s=>!(Nat.beq s m))↔s∈L/\s≠m:=by
 rw [List.mem_filter]
 constructor
 ·rintro ⟨h1,h2⟩
  refine ⟨h1,fun e=>?_⟩
  subst e
  rw [Nat.beq_refl] at h2;cases h2
 ·rintro ⟨h1,h2⟩
  refine ⟨h1,?_⟩
  cases h:Nat.beq s m with
  | false=>rfl
  | true=>exact absurd (beq_eq.1 h) h2
theorem sf (hM:Mod n V0 bC β0 st β a w V){L:List Nat}{γ:Nat->Nat}(jh:∀s∈L,γ s=β s)(hcl:∀s∈L,∀b,st.boxes s=some b->∀t∈b.cs.ids,t∈L)(hlive:∀s∈L,∃b,st.boxes s=some b)
  {give:Bool}{sh:Sh}{m:Option Nat}{d:Nat}(hd:d<n){ety:TypeId}{K:St->View->Prop}{w':World}{r:Value}(hm:∀k,m=some k->k∈L)(hfree:jM st m d=true)
  (hx:eM (fun b=>b∈L.map (dG st.boxes γ w.heap.size)/\(cI V w).H b) w w')
  (hr:cj T give sh L m d ety γ st (cI V w) K r (((cI V w).cG (L.map (dG st.boxes γ w.heap.size))).to w' hx.size)) :
  ∃st' β' V',Mod n V0 bC β0 st' β' (a.put (some d) r) w' V'/\K st' V':=by
 have hsz0:V0.w.heap.size<=w.heap.size:=hM.ext.size
 unfold cj at hr
 generalize hnb:eU m d=nb at hr
 obtain ⟨b',vs',hcont,OL,hr1⟩:=hr
 obtain ⟨x,hx1,rfl,hr⟩:=Sh.eA sh hr1
 clear hr1
 have OC:st.boxes nb=none:=by
  unfold jM at hfree
  rw [hnb] at hfree
  split at hfree
  ·cases hfree
  ·assumption
 have Nt:nb<n\/200000<=nb:=by
  rw [←hnb]
  cases m with
  | none=>exact .inl hd
  | some m=>exact Bh hd
 generalize hV1:((((cI V w).cG (L.map (dG st.boxes γ w.heap.size))).to w' hx.size).shut.mf (vs'≠[]) b')=V1 at hr
 have Uh:V1.w=w':=by rw [←hV1];rfl
 have HY:∀b o,V1.bG b o->w'.heap[b]?=some o/\¬(b<w.heap.size/\∀o,¬V.bG b o)/\¬(vs'≠[]/\b=b'/\b<w'.heap.size):=by
  rintro b o ⟨h1,h2⟩
  rw [Uh] at h2
  rw [←hV1] at h1
  refine ⟨h2,fun h=>h1 (.inl h),fun h=>h1 (.inr ⟨h.1,h.2.1,by rw [←h.2.1];exact h.2.2⟩)⟩
 have OK:∀b o,V1.bG b o->w'.heap[b]?=some o/\¬V0.H b:=by
  intro b o h
  obtain ⟨h1,h2,-⟩:=HY b o h
  refine ⟨h1,fun hH=>?_⟩
  by_cases hlt:b<w.heap.size
  ·exact h2 ⟨hlt,fun o' ho'=>(hM.oR b o' ho').2 hH⟩
  ·have:=V0.hH b hH;omega
 have qS:∀s b,st.boxes s=some b->b.live->∀o,¬V1.bG (β s) o:=fun s b hb l o ho=>
  (HY _ o ho).2.1 ⟨aE (hM.boxes s b hb l),hM.tW s b hb l⟩
 have Qv:∀b,(b∈L.map (dG st.boxes γ w.heap.size)/\(cI V w).H b)->∃s∈L,∃b0,st.boxes s=some b0/\b0.live/\β s=b:=by
  rintro b ⟨h1,h2⟩
  obtain ⟨s,hs,b0,hb0,l0,he⟩:=vD hlive h1 h2.1
  exact ⟨s,hs,b0,hb0,l0,by rw [←jh s hs];exact he⟩
 have SM:Mod n V0 bC β0 (jF st L ety) β a w' V1:=by
  refine (hM.K4 (L:=L) (ty:=ety)).later hx ?_ ?_ OK ?_
  ·intro t b hb l hX
   rw [bB] at hb
   split at hb
   ·cases hb;exact fS l
   ·rename_i ht
    obtain ⟨s,hs,b0,hb0,l0,he⟩:=Qv _ hX
    exact ht (hM.inj s t b0 b hb0 l0 hb l he▸hs)
  ·intro i hi hX
   obtain ⟨s,hs,b0,hb0,l0,rfl⟩:=Qv _ hX
   rcases hM.own s b0 hb0 l0 with h|h
   ·omega
   ·exact hM.kb _ h.2
  ·intro t b hb l
   rw [bB] at hb
   split at hb
   ·cases hb;exact absurd l fS
   ·exact qS t b hb l
 have QA:(jF st L ety).boxes nb=none:=by
  rw [bB,if_neg]
  ·exact OC
  ·intro h;obtain ⟨b,hb⟩:=hlive nb h;rw [OC] at hb;cases hb
 have Fc:vs'≠[]->w.heap.size<=b'\/∃k b0,m=some k/\st.boxes k=some b0/\b0.live/\b'=β k:=by
  intro hne
  rcases OL hne with h|h
  ·exact .inl h
  ·right
   cases m with
   | none=>exact h.elim
   | some k=>
    have Oy:=hm k rfl
    obtain ⟨b0,hb0⟩:=hlive k Oy
    simp only [xd,hb0] at h
    obtain ⟨cs,ty⟩:=b0
    cases cs with
    | lit cs=>exact ⟨k,_,rfl,hb0,cL,by rw [←jh k Oy];exact h⟩
    | row cs=>exact ⟨k,_,rfl,hb0,cd,by rw [←jh k Oy];exact h⟩
    | a_ cs=>exact ⟨k,_,rfl,hb0,fw h.1,by rw [←jh k Oy];exact h.2⟩
 have Zv:Mod n V0 bC β0 ((jF st L ety).box nb ⟨.a_ vs',ety⟩) (fV β nb b') a w' V1:=by
  by_cases hne:vs'=[]
  ·subst hne
   exact (SM.beta Nt QA).void
  ·have Qw:w'.heap[b']?=some (.cells vs'.toArray ety (0,0)):=hcont hne
   refine SM.ig Nt QA rfl ?_ ?_ ?_ Qw (fun _ _ _=>rfl) (Nat.le_refl _) rfl rfl rfl
   ·intro s b hb l he
    rw [bB] at hb
    split at hb
    ·cases hb;exact fS l
    ·rename_i hsL
     rcases Fc hne with h|⟨k,b0,hk,hb0,l0,h⟩
     ·have:=aE (hM.boxes s b hb l);omega
     ·exact hsL (hM.inj k s b0 b hb0 l0 hb l (h▸he.symm)▸hm k hk)
   ·intro o ho
    exact (HY _ o ho).2.2 ⟨hne,rfl,aE Qw⟩
   ·rcases Fc hne with h|⟨k,b0,hk,hb0,l0,h⟩
    ·left;omega
    ·rcases hM.own k b0 hb0 l0 with h'|h'
     ·left;rw [h];exact h'
     ·right
      refine ⟨?_,by rw [h];exact h'.2⟩
      rw [←hnb,hk]
      exact GZ h'.1
 have Fa:∀s,(∃b,st.boxes s=some b)->s≠nb:=by rintro s ⟨b,hb⟩ rfl;rw [OC] at hb;cases hb
 generalize hA:GU m L=A at hr
 have LV:∀s∈A,s∈L/\∀k,m=some k->s≠k:=by
  intro s hs
  rw [←hA] at hs
  cases m with
  | none=>exact ⟨hs,fun k h=>nomatch h⟩
  | some k=>obtain ⟨h1,h2⟩:=vL.1 hs;exact ⟨h1,fun j hj=>by cases hj;exact h2⟩
 have XA:∀s∈L,(∀k,m=some k->s≠k)->s∈A:=by
  intro s hs h
  rw [←hA]
  cases m with
  | none=>exact hs
  | some k=>exact vL.2 ⟨hs,h k rfl⟩
 have Nx:∀s,(∃b,st.boxes s=some b)->fV γ nb b' s=γ s/\fV β nb b' s=β s:=fun s hs=>⟨fW _ _ (Fa s hs),fW _ _ (Fa s hs)⟩
 have QH:∀s∈A,((pC m ety st).box nb ⟨.a_ vs',ety⟩).boxes s=st.boxes s:=by
  intro s hs
  obtain ⟨h1,h2⟩:=LV s hs
  rw [ai,if_neg (Fa s (hlive s h1))]
  cases m with
  | none=>rfl
  | some k=>simp only [pC];rw [ai,if_neg (h2 k rfl)]
 have iU:∀s∈A,∃b,st.boxes s=some b/\b.live:=by
  intro s hs
  have:=vE hr s hs
  rw [QH s hs] at this
  exact this
 obtain ⟨st',g1,g2,g3,g4⟩:=kU (a:=a) (w:=w') (V:=V1) (γ:=fV γ nb b') (β:=fV β nb b') (by rfl) (fun s hs=>by
   have:=Nx s (hlive s (LV s hs).1);rw [this.1,this.2];exact jh s (LV s hs).1)
  (by
   intro s hs s' hs' he
   rw [(Nx s (hlive s (LV s hs).1)).2,(Nx s' (hlive s' (LV s' hs').1)).2] at he
   obtain ⟨b1,e1,l1⟩:=iU s hs
   obtain ⟨b2,e2,l2⟩:=iU s' hs'
   exact hM.inj s s' b1 b2 e1 l1 e2 l2 he)
  (by
   intro s hs
   obtain ⟨b1,e1,l1⟩:=iU s hs
   rw [(Nx s ⟨b1,e1⟩).2]
   exact qS s b1 e1 l1)
  (by
   intro s hs
   obtain ⟨b1,e1,l1⟩:=iU s hs
   rw [(Nx s ⟨b1,e1⟩).2]
   exact hM.own s b1 e1 l1)
  A _ ((jF st L ety).box nb ⟨.a_ vs',ety⟩) (fun _ h=>h) Zv
  (by
   show _=(jF st L ety).au
   rw [mN]
   cases m<;>rfl)
  (by
   intro t ht
   rw [ai,ai]
   split
   ·rfl
   ·rw [bB]
    cases m with
    | none=>
     simp only [pC]
     rw [if_neg fun h=>ht (XA t h fun k e=>nomatch e)]
    | some k=>
     simp only [pC]
     rw [ai]
     split
     ·rename_i e;rw [if_pos (e▸hm k rfl)]
     ·rename_i e;rw [if_neg fun h=>ht (XA t h fun j hj=>by cases hj;exact e)])
  (by
   intro s hs
   rw [ai]
   split
   ·exact ⟨_,rfl⟩
   ·rw [bB,if_pos (LV s hs).1];exact ⟨_,rfl⟩)
  (by
   intro t b ht l Mb s hs
   obtain ⟨b1,e1,l1⟩:=iU s hs
   rw [(Nx s ⟨b1,e1⟩).2]
   rw [ai] at ht
   split at ht
   ·rename_i e
    simp only [Option.some.injEq] at ht
    rw [e,aP]
    have hne:vs'≠[]:=fun e0=>by rw [←ht,e0] at l;exact fS l
    rcases Fc hne with h|⟨k,b0,hk,hb0,l0,h⟩
    ·have:=aE (hM.boxes s b1 e1 l1);omega
    ·intro he
     exact (LV s hs).2 k hk (hM.inj k s b0 b1 hb0 l0 e1 l1 (h▸he)).symm
   ·rw [bB] at ht
    split at ht
    ·cases ht;exact absurd l fS
    ·rename_i Nw
     intro he
     rw [(Nx t ⟨b,ht⟩).2] at he
     exact Nw (hM.inj t s b b1 ht l e1 l1 he▸(LV s hs).1))
  (by
   intro s hs b hb t ht
   rw [QH s hs] at hb
   have Nw:=hcl s (LV s hs).1 b hb t ht
   have hb2:=Nx t (hlive t Nw)
   refine ⟨?_,by rw [hb2.1,hb2.2];exact jh t Nw⟩
   rw [ai]
   split
   ·exact ⟨_,rfl⟩
   ·rw [bB,if_pos Nw];exact ⟨_,rfl⟩)
  (by
   intro k nb' e
   have:nb'=nb:=by
    cases m with
    | none=>cases e
    | some m=>cases e;rfl
   subst this
   exact ⟨⟨_,by rw [ai,if_pos rfl]⟩,by rw [aP,aP]⟩)
  hr
 obtain ⟨b2,hb2⟩:=g3 nb ⟨_,by rw [ai,if_pos rfl]⟩
 have fF:∀s∈(cond give (qR nb x) x).ids,s=nb:=by
  cases give with
  | true=>exact E7 hx1
  | false=>intro s hs;rw [cond_false,hx1] at hs;cases hs
 refine ⟨_,_,_,g1.put (x:=cond give (qR nb x) x) hd ?_ ?_,g4⟩
 ·exact SV.bL fun s hs=>by rw [fF s hs,aP,aP]
 ·intro s hs
  rw [fF s hs]
  exact ⟨b2,hb2⟩
theorem jr (hM:Mod n V0 bC β0 st β a w V){m:CM}{f:FuncId}{xs:List SV}{ty:TypeId}{dst:Option Nat}{K:St->View->Prop}{next:Act->World->Prop}{Q:Exit->Act->World->Prop}
  (hd:∀d,dst=some d->d<n)(hv:fj P T m f xs ty dst st V K)
  (hK:∀st' β' a' w' V',Mod n V0 bC β0 st' β' a' w' V'->K st' V'->next a' w') :
  iJ P f/\Calls P f (aT β xs) w fun
   | .returned v,w''=>next (a.put dst v) w''
   | .panicked chain,w''=>Q (.panic chain) a w''
   | .outgrown,_=>LetsOut Q:=by
 have hle:=IE hM
 have hsz0:V0.w.heap.size<=w.heap.size:=hM.ext.size
 unfold fj at hv
 split at hv
 ·exact hv.elim
 ·rename_i sh hsh
  split at hv
  ·
   rename_i fF
   have hnil:∀x∈xs,x.ids=[]:=by
    intro x hx
    rcases hx':x.ids with _|⟨s,r⟩
    ·rfl
    ·exfalso
     have:s∈reach st.boxes 3 (dedup (xs.flatMap SV.ids)):=eE 3 _ s (bK.2 (List.mem_flatMap.2 ⟨x,hx,by rw [hx'];simp⟩))
     rw [fF] at this
     cases this
   have XB:∀(w':World)(hx:eM (fun _=>False) w w'),Mod n V0 bC β0 st β a w' ((cI V w).to w' hx.size):=by
    intro w' hx
    refine hM.later hx (fun _ _ _ _ h=>h) (fun _ _ h=>h.elim) ?_ ?_
    ·rintro b o ⟨h1,h2⟩
     refine ⟨h2,fun hH=>?_⟩
     by_cases hlt:b<w.heap.size
     ·apply h1
      refine ⟨hlt,fun o' ho'=>(hM.oR b o' ho').2 hH⟩
     ·have:=V0.hH b hH;omega
    ·rintro s b hb l o ⟨h1,-⟩
     exact h1 ⟨aE (hM.boxes s b hb l),hM.tW s b hb l⟩
   rw [CH hnil β fun _=>0]
   split at hv
   ·
    split at hv
    ·rename_i d ety hgt
     split at hv
     ·exact hv.elim
     ·rename_i hfree
      obtain ⟨hc,dh⟩:=hv (cI V w) hle
      refine ⟨hc,Calls.mono dh ?_⟩
      rintro e' w' ⟨r,rfl,hx,hr⟩
      have hx1:eM (fun b=>b∈([]:List Nat).map (dG st.boxes (fun _=>0) w.heap.size)/\(cI V w).H b) w w':=hx.mono fun _ h=>h.elim
      have hr1:cj T true sh [] Option.none d ety (fun _=>0) st (cI V w) K r (((cI V w).cG (([]:List Nat).map (dG st.boxes (fun _=>0) w.heap.size))).to w' hx1.size):=by
       unfold cj GU at hr ⊢
       exact hr
      obtain ⟨st',β',V',h1,h2⟩:=sf (T:=T) (give:=true) (m:=Option.none) hM (fun s hs=>absurd hs (by simp)) (fun s hs=>absurd hs (by simp)) (fun s hs=>absurd hs (by simp)) (hd d rfl) (fun k hk=>by cases hk) hfree hx1 hr1
      exact hK _ _ _ _ _ h1 h2
    ·exact hv.elim
   ·split at hv
    ·rename_i d
     split at hv
     ·exact hv.elim
     ·rename_i hn
      split at hv
      ·rename_i ti hti
       split at hv
       ·rename_i e he
        split at hv
        ·rename_i ei CS
         obtain ⟨hc,dh⟩:=hv (cI V w) hle
         refine ⟨hc,Calls.mono dh ?_⟩
         rintro e' w' ⟨r,rfl,hx,b,hr⟩
         obtain ⟨cs,h1,h2,rfl,h4,h5,h6⟩:=pA _ hr
         exact hK _ _ _ _ _ ((XB w' hx).N7 (w0:=w) (fun s b hb l=>aE (hM.boxes s b hb l)) hsz0 (hd d rfl) hn h4 rfl h5 h1) h6
        ·exact hv.elim
       ·exact hv.elim
      ·exact hv.elim
    ·exact hv.elim
   ·obtain ⟨hc,dh⟩:=hv (cI V w) hle
    refine ⟨hc,Calls.mono dh ?_⟩
    rintro e w' ⟨r,rfl,hx,hr⟩
    obtain ⟨x,hx1,rfl,hx3⟩:=Sh.eA sh hr
    have hx:eM (fun _=>False) w w':=hx
    exact hK (st.put dst x) β _ _ _ ((XB w' hx).Fx hd (jt hx1 _ _) (bO hx1)) hx3
  ·rename_i s0 r0 fF
   split at hv
   ·exact hv.elim
   ·rename_i hcl
    generalize hL:s0::r0=L at hv fF hcl
    have Ug:∀x∈xs,∀s∈x.ids,s∈L:=by
     intro x hx s hs
     rw [←fF]
     exact eE 3 _ s (bK.2 (List.mem_flatMap.2 ⟨x,hx,hs⟩))
    have hcl':∀s∈L,∀b,st.boxes s=some b->∀t∈b.cs.ids,t∈L:=fun s hs b hb=>gS hcl hs hb
    have Q_:∀{R:(Nat->Nat)->Value->View->Prop},(lI L (fun _=>0) fun γ=>ik st.boxes γ (cI V w) L (ab P f (aT γ xs) ((cI V w).cG (L.map (dG st.boxes γ w.heap.size))) (R γ))) ->
      ∃γ,(∀s∈L,γ s=β s)/\(∀s∈L,∃b,st.boxes s=some b)/\ab P f (aT β xs) ((cI V w).cG (L.map (dG st.boxes γ w.heap.size))) (R γ):=by
     intro R hv
     have hv1:=j8 hv β
     generalize hγ:(fun t=>if t∈L then β t else (fun _=>0) t)=γ at hv1
     have jh:∀s∈L,γ s=β s:=fun s hs=>by rw [←hγ];simp [hs]
     have vt:∀s∈L,∀b,st.boxes s=some b->b.obj γ=b.obj β:=fun s hs b hb=>aQ.di fun t ht=>jh t (hcl' s hs b hb t ht)
     obtain ⟨hlive,hact⟩:=vF hv1 (by
      intro s hs b hb l
      rw [jh s hs,vt s hs b hb]
      exact ⟨hM.boxes s b hb l,aE (hM.boxes s b hb l),hM.tW s b hb l⟩) (by
      intro s hs t ht b b' hb l hb' l' e
      rw [jh s hs,jh t ht] at e
      exact hM.inj s t b b' hb l hb' l' e)
     refine ⟨γ,jh,hlive,?_⟩
     have hargs:aT γ xs=aT β xs:=by
      unfold aT
      rw [List.map_congr_left fun x hx=>SV.bL fun s hs=>jh s (Ug x hx s hs)]
     rw [←hargs]
     exact hact
    have moved:∀{give:Bool} {mm:Option Nat} {d:Nat} {ety:TypeId},dst=some d->(∀k,mm=some k->k∈L)->jM st mm d=true ->
      (∀V':View,V.Le V'->lI L (fun _=>0) fun γ=>ik st.boxes γ V' L (ab P f (aT γ xs) (V'.cG (L.map (dG st.boxes γ V'.w.heap.size))) (cj T give sh L mm d ety γ st V' K))) ->
      iJ P f/\Calls P f (aT β xs) w fun
       | .returned v,w''=>next (a.put dst v) w''
       | .panicked chain,w''=>Q (.panic chain) a w''
       | .outgrown,_=>LetsOut Q:=by
     intro give mm d ety hdst hmm hfree hv
     obtain ⟨γ,jh,hlive,hc,dh⟩:=Q_ (R:=fun γ=>cj T give sh L mm d ety γ st (cI V w) K) (hv (cI V w) hle)
     refine ⟨hc,Calls.mono dh ?_⟩
     rintro e w' ⟨r,rfl,hx,hr⟩
     obtain ⟨st',β',V',h1,h2⟩:=sf hM jh hcl' hlive (hd d hdst) hmm hfree hx hr
     rw [hdst]
     exact hK _ _ _ _ _ h1 h2
    have U4:∀k,k∈pO st.boxes L->k∈L:=by
     intro k hk
     unfold pO at hk
     obtain ⟨s,hs,hk⟩:=List.mem_flatMap.1 (bK.1 hk)
     split at hk
     ·rename_i cs ty hb
      refine hcl' s hs _ hb k ?_
      have:∀cs:List C,k∈ot cs->k∈cs.flatMap C.ids:=by
       intro cs
       induction cs with
       | nil=>exact fun h=>nomatch h
       | cons c r ih=>
        intro h
        rw [List.flatMap_cons,List.mem_append]
        cases c<;>simp only [ot,List.mem_cons] at h<;>first
         | exact .inr (ih h)
         | (rcases h with h|h
            ·left;simp [C.ids,h]
            ·exact .inr (ih h))
      exact this cs hk
     ·cases hk
    have TD:∀k,k∈kV xs->k∈L:=by
     intro k hk
     have:∀xs:List SV,k∈kV xs->∃x∈xs,k∈x.ids:=by
      intro xs
      induction xs with
      | nil=>exact fun h=>nomatch h
      | cons x r ih=>
       intro h
       unfold kV at h
       split at h
       ·rename_i heq;cases heq
       ·rename_i s n c r' heq;cases heq;exact ⟨.c (.jY s n c),List.mem_cons_self,h⟩
       ·rename_i s n c r' heq;cases heq;exact ⟨.c (.lR s 0 n c),List.mem_cons_self,h⟩
       ·cases h
       ·rename_i heq;cases heq
        obtain ⟨y,hy,hk⟩:=ih h
        exact ⟨y,by simp [hy],hk⟩
     obtain ⟨x,hx,hk⟩:=this xs hk
     exact Ug x hx k hk
    split at hv
    ·exact hv.elim
    ·exact hv.elim
    ·
     split at hv
     ·split at hv
      ·exact hv.elim
      ·rename_i hfree;exact moved rfl (fun k hk=>by cases hk) hfree hv
     ·rename_i d ety k _ hfs _
      split at hv
      ·exact hv.elim
      ·rename_i hfree;exact moved rfl (fun j hj=>by cases hj;exact TD k (by rw [hfs];simp)) hfree hv
     ·exact hv.elim
    ·
     split at hv
     ·obtain ⟨γ,jh,hlive,hc,dh⟩:=Q_ (R:=fun γ r' eN=>sh.ex fun x=>r'=x.den (fun _=>0)/\dY T Option.none γ eN L st fun st'=>K (st'.put dst x) eN.shut) (hv (cI V w) hle)
      refine ⟨hc,Calls.mono dh ?_⟩
      rintro e w' ⟨r,rfl,hx,hr⟩
      obtain ⟨x,hx1,rfl,hx3⟩:=Sh.eA sh hr
      have hx:eM (fun b=>b∈L.map (dG st.boxes γ w.heap.size)/\(cI V w).H b) w w':=hx
      generalize hV1:(((cI V w).cG (L.map (dG st.boxes γ w.heap.size))).to w' hx.size)=V2 at hx3
      have Ui:V2.w=w':=by rw [←hV1];rfl
      have Qv:∀b,(b∈L.map (dG st.boxes γ w.heap.size)/\(cI V w).H b)->∃s∈L,∃b0,st.boxes s=some b0/\b0.live/\β s=b:=by
       rintro b ⟨h1,h2⟩
       obtain ⟨s,hs,b0,hb0,l0,he⟩:=vD hlive h1 h2.1
       exact ⟨s,hs,b0,hb0,l0,by rw [←jh s hs];exact he⟩
      have HY:∀b o,V2.shut.bG b o->w'.heap[b]?=some o/\¬(b<w.heap.size/\∀o,¬V.bG b o):=by
       rintro b o ⟨h1,h2⟩
       rw [←hV1] at h1 h2
       exact ⟨h2,h1⟩
      have qS:∀s b,st.boxes s=some b->b.live->∀o,¬V2.shut.bG (β s) o:=fun s b hb l o ho=>
       (HY _ o ho).2 ⟨aE (hM.boxes s b hb l),hM.tW s b hb l⟩
      have SM:Mod n V0 bC β0 (jF st L 0) β a w' V2.shut:=by
       refine (hM.K4 (L:=L) (ty:=0)).later hx ?_ ?_ ?_ ?_
       ·intro t b hb l hX
        rw [bB] at hb
        split at hb
        ·cases hb;exact fS l
        ·rename_i ht
         obtain ⟨s,hs,b0,hb0,l0,he⟩:=Qv _ hX
         exact ht (hM.inj s t b0 b hb0 l0 hb l he▸hs)
       ·intro i hi hX
        obtain ⟨s,hs,b0,hb0,l0,rfl⟩:=Qv _ hX
        rcases hM.own s b0 hb0 l0 with h|h
        ·omega
        ·exact hM.kb _ h.2
       ·intro b o h
        obtain ⟨h1,h2⟩:=HY b o h
        refine ⟨h1,fun hH=>?_⟩
        by_cases hlt:b<w.heap.size
        ·exact h2 ⟨hlt,fun o' ho'=>(hM.oR b o' ho').2 hH⟩
        ·have:=V0.hH b hH;omega
       ·intro t b hb l
        rw [bB] at hb
        split at hb
        ·cases hb;exact absurd l fS
        ·exact qS t b hb l
      have iU:=vE hx3
      obtain ⟨st',g1,g2,g3,g4⟩:=kU (a:=a) (w:=w') (V:=V2.shut) (γ:=γ) (β:=β) Ui jh
       (by
        intro s hs s' hs' he
        obtain ⟨b1,e1,l1⟩:=iU s hs
        obtain ⟨b2,e2,l2⟩:=iU s' hs'
        exact hM.inj s s' b1 b2 e1 l1 e2 l2 he)
       (by intro s hs;obtain ⟨b1,e1,l1⟩:=iU s hs;exact qS s b1 e1 l1)
       (by intro s hs;obtain ⟨b1,e1,l1⟩:=iU s hs;exact hM.own s b1 e1 l1)
       L st (jF st L 0) (fun _ h=>h) SM mN.symm (by intro t ht;rw [bB,if_neg ht])
       (by intro s hs;rw [bB,if_pos hs];exact ⟨_,rfl⟩)
       (by
        intro t b ht l Mb s hs he
        rw [bB,if_neg Mb] at ht
        obtain ⟨b1,e1,l1⟩:=iU s hs
        exact Mb (hM.inj t s b b1 ht l e1 l1 he▸hs))
       (by
        intro s hs b hb t ht
        have Nw:=hcl' s hs b hb t ht
        exact ⟨by rw [bB,if_pos Nw];exact ⟨_,rfl⟩,jh t Nw⟩)
       (fun m nb e=>by cases e) hx3
      exact hK _ _ _ _ _ (g1.Fx hd (jt hx1 _ _) (bO hx1)) g4
     ·rename_i k hmv
      split at hv
      ·rename_i d ety _
       split at hv
       ·exact hv.elim
       ·rename_i hfree;exact moved rfl (fun j hj=>by cases hj;exact U4 k (by rw [hmv];simp)) hfree hv
      ·exact hv.elim
     ·exact hv.elim
    ·
     split at hv
     ·exact hv.elim
     ·rename_i hsmall
      rw [List.all_eq_true] at hsmall
      let Vr:View:=⟨w,fun b=>(b<w.heap.size/\∀o,¬V.bG b o)/\¬∃s∈L,∃b0,st.boxes s=some b0/\b0.live/\β s=b,fun _=>False,fun _ h=>h.1.1,fun _ h=>h.elim⟩
      have hle':V.Le Vr:=fun b o hb=>⟨fun h=>h.1.2 o hb,(hM.oR b o hb).1⟩
      have hv1:=j8 (hv Vr hle') β
      generalize hγ:(fun t=>if t∈L then β t else (fun _=>0) t)=γ at hv1
      have jh:∀s∈L,γ s=β s:=fun s hs=>by rw [←hγ];simp [hs]
      obtain ⟨hlive,hc,dh⟩:=ku hv1 (by
       intro s hs b hb l
       rw [jh s hs,aQ.di fun t ht=>jh t (gS hcl hs hb t ht)]
       exact ⟨fun h=>h.2 ⟨s,hs,b,hb,l,rfl⟩,hM.boxes s b hb l⟩)
      refine ⟨hc,?_⟩
      have hargs:aT γ xs=aT β xs:=by
       unfold aT
       rw [List.map_congr_left fun x hx=>SV.bL fun s hs=>jh s (Ug x hx s hs)]
      rw [hargs] at dh
      refine Calls.mono dh ?_
      rintro e w' ⟨r,rfl,hx,hr⟩
      obtain ⟨x,hx1,rfl,hx3⟩:=Sh.eA sh hr
      have hx:eM (fun _=>False) w w':=hx
      refine hK ((st.rel L γ (C.den β)).put dst x) β _ _ _ ?_ (hx3 (C.den β))
      have HX:=hM.rel (L:=L) (β':=γ) jh
      have hM':Mod n V0 bC β0 (st.rel L γ (C.den β)) β a w' (Vr.to w' hx.size):=by
       refine HX.later hx (fun _ _ _ _ h=>h) (fun _ _ h=>h.elim) ?_ ?_
       ·rintro b o ⟨h1,h2⟩
        refine ⟨h2,fun hH=>?_⟩
        by_cases hlt:b<w.heap.size
        ·apply h1
         refine ⟨⟨hlt,fun o' ho'=>(hM.oR b o' ho').2 hH⟩,fun hm=>?_⟩
         obtain ⟨s,hs,b0,hb0,l0,rfl⟩:=hm
         rcases hM.own s b0 hb0 l0 with h|h
         ·have:=V0.hH _ hH;omega
         ·have:=Nat.le_of_ble_eq_true (hsmall s hs);omega
        ·have:=V0.hH b hH;omega
       ·rintro s b hb l o ⟨h1,-⟩
        obtain ⟨hsL,y,hy,rfl⟩:=fB hb
        have ly:=aQ.eX l
        refine h1 ⟨⟨aE (hM.boxes s y hy ly),hM.tW s y hy ly⟩,fun hm=>?_⟩
        obtain ⟨s',hs',bs,hbs,ls,he⟩:=hm
        exact hsL (hM.inj s' s bs y hbs ls hy ly he▸hs')
      exact hM'.Fx hd (jt hx1 _ _) (bO hx1)
theorem Mod.release (hM:Mod n V0 bC β0 st β a w V){l:List Nat}{K:St->View->Prop}(hv:Hk l st V K):∃st' V',Mod n V0 bC β0 st' β a w V'/\V.Le V'/\K st' V':=by
 unfold Hk at hv
 split at hv
 ·exact ⟨st,V,hM,fun _ _ h=>h,hv⟩
 ·rename_i s0 r0
  split at hv
  ·exact hv.elim
  ·rename_i H0
   generalize hL:s0::r0=L at hv H0
   rw [Bool.and_eq_true,List.all_eq_true] at H0
   obtain ⟨hcl,hsmall⟩:=H0
   let Vr:View:=⟨w,fun b=>(b<w.heap.size/\∀o,¬V.bG b o)/\¬∃s∈L,∃b0,st.boxes s=some b0/\b0.live/\β s=b,fun _=>False,fun _ h=>h.1.1,fun _ h=>h.elim⟩
   have hle':V.Le Vr:=fun b o hb=>⟨fun h=>h.1.2 o hb,(hM.oR b o hb).1⟩
   have hv1:=j8 (hv Vr hle') β
   generalize hγ:(fun t=>if t∈L then β t else (fun _=>0) t)=γ at hv1
   have jh:∀s∈L,γ s=β s:=fun s hs=>by rw [←hγ];simp [hs]
   obtain ⟨hlive,hk⟩:=ku hv1 (by
    intro s hs b hb l
    rw [jh s hs,aQ.di fun t ht=>jh t (gS hcl hs hb t ht)]
    exact ⟨fun h=>h.2 ⟨s,hs,b,hb,l,rfl⟩,hM.boxes s b hb l⟩)
   have HX:=hM.rel (L:=L) (β':=γ) jh
   refine ⟨_,Vr,?_,hle',hk (C.den β)⟩
   refine ⟨HX.defers,HX.size,HX.au,HX.yP,HX.yO,HX.boxes,HX.inj,?_,?_,HX.ext,HX.own,HX.lJ,HX.kb,hM.small⟩
   ·rintro b o ⟨h1,h2⟩
    refine ⟨h2,fun hH=>?_⟩
    have hlt:=aE h2
    apply h1
    refine ⟨⟨hlt,fun o' ho'=>(hM.oR b o' ho').2 hH⟩,fun hm=>?_⟩
    obtain ⟨s,hs,b0,hb0,l0,rfl⟩:=hm
    rcases hM.own s b0 hb0 l0 with h|h
    ·have:=V0.hH _ hH;omega
    ·have:=Nat.le_of_ble_eq_true (hsmall s hs);omega
   ·rintro s b hb l o ⟨h1,-⟩
    obtain ⟨hsL,y,hy,rfl⟩:=fB hb
    have ly:=aQ.eX l
    refine h1 ⟨⟨aE (hM.boxes s y hy ly),hM.tW s y hy ly⟩,fun hm=>?_⟩
    obtain ⟨s',hs',bs,hbs,ls,he⟩:=hm
    exact hsL (hM.inj s' s bs y hbs ls hy ly he▸hs')
theorem wg {bx:Nat->Option aQ}{β:Nat->Nat}:∀{xs xs':List SV} {vs:List Value} {c:Nat},lx bx xs=some (vs,c,xs')->c=0->xs'.map (SV.den β)=xs.map (SV.den β)
 | [],_,_,_,h,_=>nomatch h
 | x::r,xs',vs,c,h,hc=>by
  simp only [lx] at h
  split at h
  ·split at h
   ·cases h
    subst hc
    simp [SV.den,C.den,mA]
   ·cases h
  ·split at h
   ·rename_i e
    cases h
    rw [List.map_cons,List.map_cons,wg e hc]
   ·cases h
theorem wh {bx:Nat->Option aQ}:∀{xs xs':List SV} {vs:List Value} {c:Nat},lx bx xs=some (vs,c,xs')->∀t∈xs'.flatMap SV.ids,t∈xs.flatMap SV.ids
 | [],_,_,_,h=>nomatch h
 | x::r,xs',vs,c,h=>by
  simp only [lx] at h
  split at h
  ·split at h
   ·cases h
    intro t ht
    simp only [List.flatMap_cons,SV.ids,C.ids,List.mem_append] at ht ⊢
    right
    simpa using ht
   ·cases h
  ·split at h
   ·rename_i e
    cases h
    intro t ht
    rw [List.flatMap_cons,List.mem_append] at ht ⊢
    exact ht.imp_right (wh e t)
   ·cases h
theorem pZ {bx bx':Nat->Option aQ}:∀{xs:List SV},(∀s∈xs.flatMap SV.ids,bx' s=bx s)->lx bx' xs=lx bx xs
 | [],_=>rfl
 | x::r,h=>by
  have ih:=pZ (xs:=r) fun s hs=>h s (by rw [List.flatMap_cons];exact List.mem_append_right _ hs)
  simp only [lx]
  rw [ih]
  split
  ·rename_i s n c
   rw [h s (by rw [List.flatMap_cons];exact List.mem_append_left _ (by simp [SV.ids,C.ids]))]
  ·rfl
theorem uP (hM:Mod n V0 bC β0 st β a w V){m:CM}{f:FuncId}{xs:List SV}{ty:TypeId}{dst:Option Nat}{K:St->View->Prop}{next:Act->World->Prop}{Q:Exit->Act->World->Prop}
  (hd:∀d,dst=some d->d<n)(hv:jU P T m f xs ty dst st V K)
  (hK:∀st' β' a' w' V',Mod n V0 bC β0 st' β' a' w' V'->K st' V'->next a' w') :
  iJ P f/\Calls P f (aT β xs) w fun
   | .returned v,w''=>next (a.put dst v) w''
   | .panicked chain,w''=>Q (.panic chain) a w''
   | .outgrown,_=>LetsOut Q:=by
 unfold jU at hv
 split at hv
 ·split at hv
  ·rename_i vs c xs' e
   by_cases h:vs=[]
   ·obtain ⟨hc,h1⟩:=hv.1 h
    have:=jr (Q:=Q) hM hd h1 hK
    unfold aT at this ⊢
    rw [wg e hc] at this
    exact this
   ·exact jr hM hd (hv.2 h) hK
  ·exact jr hM hd hv hK
 ·exact jr hM hd hv hK
end Go.bE
