import Derived.Test.YtnnbfoejafcdlaaGreatDoorG2
set_option linter.unusedVariables false
open Go.IntKind (i64 u64 u32)
namespace Go.bM
variable {P:Program} {T:dA} {n:Nat} {V0:View} {bH:Fw} {β0:Nat->Nat} {st:St} {β:Nat->Nat} {a:Act} {w:World} {V:View}
theorem cA {x:Nat}{l:List Nat}:fj x l=true↔x∈l:=by
 induction l with
 | nil=>simp [fj]
 | cons y r ih=>
  simp only [fj,List.mem_cons]
  cases h:Nat.beq x y with
  | true=>simp [beq_eq.1 h]
  | false=>
   have:x≠y:=fun e=>by rw [e,Nat.beq_refl] at h;cases h
   simp [ih,this]
theorem fT {x:Nat}{l:List Nat}:fj x l=false↔x∉l:=by
 rw [←cA];cases fj x l<;>simp
theorem DQ {l m:List Nat}:vS l m=true↔∀x∈l,x∉m:=by
 unfold vS
 rw [List.all_eq_true]
 constructor
 ·intro h x a hm
  have:=h x a
  rw [Bool.not_eq_true',fT] at this
  exact this hm
 ·intro h x a
  rw [Bool.not_eq_true',fT]
  exact h x a
theorem C.iu {L:List Nat}{β':Nat->Nat}(hβ:∀s∈L,β' s=β s)(c:C):(c.rel L β' (C.den β)).den β=c.den β/\∀s∈(c.rel L β' (C.den β)).ids,s∈c.ids/\s∉L:=by
 cases c with
 | v x=>exact ⟨rfl,fun s a=>by cases a⟩
 | w x=>exact ⟨rfl,fun s a=>by cases a⟩
 | tt=>exact ⟨rfl,fun s a=>by cases a⟩
 | ff=>exact ⟨rfl,fun s a=>by cases a⟩
 | ptr s o=>
  simp only [C.rel]
  cases h:fj s L with
  | true=>exact ⟨by simp [C.den,hβ s (cA.1 h)],fun s a=>by cases a⟩
  | false=>exact ⟨rfl,fun t b=>⟨b,by simp [C.ids] at b;subst b;exact fT.1 h⟩⟩
 | mY s o n c=>
  simp only [C.rel]
  cases h:fj s L with
  | true=>exact ⟨by simp [C.den,hβ s (cA.1 h)],fun s a=>by cases a⟩
  | false=>exact ⟨rfl,fun t b=>⟨b,by simp [C.ids] at b;subst b;exact fT.1 h⟩⟩
 | jX s n c=>
  simp only [C.rel]
  cases h:fj s L with
  | true=>exact ⟨by simp [C.den,hβ s (cA.1 h)],fun s a=>by cases a⟩
  | false=>exact ⟨rfl,fun t b=>⟨b,by simp [C.ids] at b;subst b;exact fT.1 h⟩⟩
 | yT f ss=>
  simp only [C.rel]
  cases h:vS ss L with
  | true=>exact ⟨rfl,fun t b=>⟨b,DQ.1 h t b⟩⟩
  | false=>exact ⟨rfl,fun s a=>by cases a⟩
theorem qM {L:List Nat}{β':Nat->Nat}(hβ:∀s∈L,β' s=β s)(cs:List C) :
  (cs.map (C.rel L β' (C.den β))).map (C.den β)=cs.map (C.den β)/\∀s∈(cs.map (C.rel L β' (C.den β))).flatMap C.ids,s∈cs.flatMap C.ids/\s∉L:=by
 refine ⟨?_,fun s a=>?_⟩
 ·rw [List.map_map];exact List.map_congr_left fun c _=>(C.iu hβ c).1
 ·obtain ⟨g,b,a⟩:=List.mem_flatMap.1 a
  obtain ⟨c,d,rfl⟩:=List.mem_map.1 b
  obtain ⟨e,f⟩:=(C.iu hβ c).2 s a
  exact ⟨iD d e,f⟩
theorem SV.iu {L:List Nat}{β':Nat->Nat}(hβ:∀s∈L,β' s=β s)(x:SV):(x.rel L β' (C.den β)).den β=x.den β/\∀s∈(x.rel L β' (C.den β)).ids,s∈x.ids/\s∉L:=by
 cases x with
 | c c=>exact C.iu hβ c
 | agg cs=>
  obtain ⟨a,d⟩:=qM hβ cs
  exact ⟨by simp only [SV.rel,SV.den,a],d⟩
 | pU xs=>
  refine ⟨?_,fun s e=>?_⟩
  ·simp only [SV.rel,SV.den,List.map_map]
   congr 2
   apply List.map_congr_left
   rintro ⟨b,cs⟩ -
   have a:=(qM hβ cs).1
   cases b with
   | true=>simp only [Function.comp,iW,a]
   | false=>
    match cs with
    | []=>rfl
    | [x]=>simp only [Function.comp,List.map_cons,List.map_nil,iW];exact (C.iu hβ x).1
    | _::_::_=>rfl
  ·obtain ⟨i,f,e⟩:=List.mem_flatMap.1 e
   obtain ⟨y,g,rfl⟩:=List.mem_map.1 f
   obtain ⟨a,d⟩:=(qM hβ y.2).2 s e
   exact ⟨List.mem_flatMap.2 ⟨y,g,a⟩,d⟩
theorem aR.iu {L:List Nat}{β':Nat->Nat}(hβ:∀s∈L,β' s=β s)(b:aR):(b.rel L β' (C.den β)).obj β=b.obj β/\∀s∈(b.rel L β' (C.den β)).cs.ids,s∈b.cs.ids/\s∉L:=by
 obtain ⟨cs,ty⟩:=b
 cases cs with
 | lit cs=>
  obtain ⟨c,d⟩:=qM hβ cs
  exact ⟨by simp only [aR.rel,aR.obj,Cells.den,c],d⟩
 | row vs=>exact ⟨rfl,fun s a=>by cases a⟩
 | aW vs=>exact ⟨rfl,fun s a=>by cases a⟩
theorem aR.fF {L:List Nat}{β':Nat->Nat}{J:C->Value}{b:aR}(h:(b.rel L β' J).live):b.live:=by
 obtain ⟨cs,ty⟩:=b
 cases cs with
 | lit cs=>exact df
 | row vs=>exact cz
 | aW vs=>exact h
theorem Bf {L:List Nat}{β':Nat->Nat}{J:C->Value}{t:Nat}{x:SV}(h:(st.rel L β' J).aw t=some x):∃y,st.aw t=some y/\x=y.rel L β' J:=by
 simp only [St.rel] at h
 cases hs:st.aw t with
 | none=>rw [hs] at h;cases h
 | some y=>rw [hs] at h;simp only [Option.some.injEq] at h;exact ⟨y,rfl,h.symm⟩
theorem gi {L:List Nat}{β':Nat->Nat}{J:C->Value}{t:Nat}{x:aR}(h:(st.rel L β' J).boxes t=some x):t∉L/\∃y,st.boxes t=some y/\x=y.rel L β' J:=by
 simp only [St.rel] at h
 cases hm:fj t L with
 | true=>rw [hm] at h;cases h
 | false=>
  rw [hm] at h
  refine ⟨fT.1 hm,?_⟩
  cases hs:st.boxes t with
  | none=>rw [hs] at h;cases h
  | some y=>rw [hs] at h;simp only [cond_false,Option.some.injEq] at h;exact ⟨y,rfl,h.symm⟩
theorem fF {L:List Nat}{β':Nat->Nat}{J:C->Value}{t:Nat}(h:∃b,st.boxes t=some b)(hn:t∉L):∃b,(st.rel L β' J).boxes t=some b:=by
 obtain ⟨b,a⟩:=h
 refine ⟨b.rel L β' J,?_⟩
 simp only [St.rel,fT.2 hn,a,cond_false]
theorem Mod.rel (h:Mod n V0 bH β0 st β a w V){L:List Nat}{β':Nat->Nat}(hβ:∀s∈L,β' s=β s):Mod n V0 bH β0 (st.rel L β' (C.den β)) β a w V where
 defers:=h.defers
 size:=h.size
 aw:=by
  intro t x e
  obtain ⟨y,c,rfl⟩:=Bf e
  rw [h.aw t y c,(SV.iu hβ y).1]
 Ab:=by
  intro t x e s f
  obtain ⟨y,c,rfl⟩:=Bf e
  obtain ⟨g,i⟩:=(SV.iu hβ y).2 s f
  exact fF (h.Ab t y c s g) i
 Aa:=by
  intro t b d s f
  obtain ⟨-,y,c,rfl⟩:=gi d
  obtain ⟨g,i⟩:=(aR.iu hβ y).2 s f
  exact fF (h.Aa t y c s g) i
 boxes:=by
  intro t b d l
  obtain ⟨-,y,c,rfl⟩:=gi d
  rw [h.boxes t y c (aR.fF l),(aR.iu hβ y).1]
 inj:=by
  intro t m b q d l j o he
  obtain ⟨-,y,c,rfl⟩:=gi d
  obtain ⟨-,p,k,rfl⟩:=gi j
  exact h.inj t m y p c (aR.fF l) k (aR.fF o) he
 pV:=h.pV
 uP:=by
  intro t b d l
  obtain ⟨-,y,c,rfl⟩:=gi d
  exact h.uP t y c (aR.fF l)
 ext:=h.ext
 own:=by
  intro t b d l
  obtain ⟨-,y,c,rfl⟩:=gi d
  exact h.own t y c (aR.fF l)
 mU:=h.mU
 kS:=h.kS
 small:=h.small
theorem Mod.iQ (h:Mod n V0 bH β0 st β a w V){d g:Nat}{b:aR}(hd:d<n\/200000<=d)(hn:st.boxes d=none)(gx:b.cs.ids=[])
  (hg:∀s b',st.boxes s=some b'->b'.live->β s≠g)(hV:∀o,¬V.bI g o)(hown:V0.w.heap.size<=g\/(100000<=d/\bH.B g)){w':World}
  (hw:w'.heap[g]?=some (b.obj β))(hk:∀i,i<w.heap.size->i≠g->w'.heap[i]?=w.heap[i]?)(hsz:w.heap.size<=w'.heap.size)(hos:w'.os=w.os)(ht:w'.tape=w.tape)(hout:w'.output=w.output) :
  Mod n V0 bH β0 (st.box d b) (eC β d g) a w' V:=by
 have u:∀s b',st.boxes s=some b'->s≠d:=fun s b' c e=>by rw [e,hn] at c;cases c
 have hβ:∀s b',st.boxes s=some b'->eC β d g s=β s:=fun s b' c=>gR _ _ (u s b' c)
 have D:∀s b',st.boxes s=some b'->b'.live->β s<w.heap.size:=fun s b' c l=>aB (h.boxes s b' c l)
 have E:∀b' o,V.bI b' o->b'<w.heap.size:=fun b' o v=>aB (h.pV b' o v).1
 refine ⟨h.defers,h.size,?_,?_,?_,?_,?_,?_,?_,?_,?_,?_,h.kS,h.small⟩
 ·intro t x y
  rw [h.aw t x y]
  exact SV.bR fun s c=>by obtain ⟨b',p⟩:=h.Ab t x y s c;exact (hβ s b' p).symm
 ·intro t x y s c
  obtain ⟨b',p⟩:=h.Ab t x y s c
  exact ⟨b',by rw [aj,if_neg (u s b' p)];exact p⟩
 ·intro s b' c k f
  rw [aj] at c
  split at c
  ·simp only [Option.some.injEq] at c;rw [←c,gx] at f;cases f
  ·obtain ⟨q,z⟩:=h.Aa s b' c k f
   exact ⟨q,by rw [aj,if_neg (u k q z)];exact z⟩
 ·intro s b' c l
  rw [aj] at c
  split at c
  ·rename_i e
   simp only [Option.some.injEq] at c
   rw [e,aQ,hw,←c]
   congr 1
   exact aR.dG fun k f=>by rw [gx] at f;cases f
  ·rw [hβ s b' c,hk _ (D s b' c l) (hg s b' c l),h.boxes s b' c l]
   congr 1
   exact aR.dG fun k f=>by obtain ⟨q,z⟩:=h.Aa s b' c k f;exact (hβ k q z).symm
 ·intro s k b1 b2 j F m G he
  rw [aj] at j m
  split at j<;>split at m
  ·rename_i A C;rw [A,C]
  ·rename_i A C;rw [A,aQ,hβ k b2 m] at he;exact absurd he.symm (hg k b2 m G)
  ·rename_i A C;rw [C,aQ,hβ s b1 j] at he;exact absurd he (hg s b1 j F)
  ·rw [hβ s b1 j,hβ k b2 m] at he;exact h.inj s k b1 b2 j F m G he
 ·intro b' o v
  obtain ⟨j,m⟩:=h.pV b' o v
  refine ⟨?_,m⟩
  rw [hk _ (E b' o v) (fun e=>hV o (e▸v))]
  exact j
 ·intro s b' c l o r
  rw [aj] at c
  split at c
  ·rename_i e;rw [e,aQ] at r;exact hV o r
  ·rw [hβ s b' c] at r;exact h.uP s b' c l o r
 ·refine ⟨Nat.le_trans h.ext.size hsz,fun i H I=>?_,hos.trans h.ext.os,ht.trans h.ext.tape,hout.trans h.ext.out⟩
  rw [hk i (Nat.lt_of_lt_of_le H h.ext.size) (fun e=>by
   rcases hown with j|j
   ·omega
   ·exact I (e▸h.kS _ j.2))]
  exact h.ext.bI i H I
 ·intro s b' c l
  rw [aj] at c
  split at c
  ·rename_i e;rw [e,aQ];exact hown
  ·rw [hβ s b' c];exact h.own s b' c l
 ·intro s c
  obtain ⟨j,m⟩:=h.mU s c
  exact ⟨j,by rw [gR _ _ (by have:=h.small;omega)];exact m⟩
theorem An {t t' e e':TypeId}{ty:TypeId}(ht:P.underlying t=some (.slice e))(D0:P.underlying t'=some (.slice e'))(b xa:OA)(m c k xc:Nat) :
  (Builtin.append_ #[t,t'] ty #[.slice b m c,.slice xa k xc]).run P w=(Builtin.append_ #[t,t] ty #[.slice b m c,.slice xa k xc]).run P w:=by
 simp [Builtin.append_,ao ht,ao D0]
theorem vo {t e:TypeId}{ty:TypeId}{info:TypeInfo}(ht:P.underlying t=some (.slice e))(hi:P.info? e=some info)(base:OA)(m c c':Nat)(hc:m<=c) :
  (Builtin.append_ #[t,t] ty #[.slice base m c,.slice none 0 c']).run P w=.ok (.slice base m c) w:=by
 cases base<;>simp [Builtin.append_,ao ht,aL hi,Builtin.lenOf,Builtin.firstCells,storeCells,hc]
theorem m_ (hM:Mod n V0 bH β0 st β a w V){s:Nat}{vs:List Value}{ty:TypeId}(h:eU st.boxes s=some vs)(ht:kT st.boxes s=some ty):w.heap[β s]?=some (.cells vs.toArray ty (0,0))/\∃b,st.boxes s=some b/\b.live:=by
 unfold eU at h
 unfold kT at ht
 split at h
 ·rename_i cs d c
  rw [c] at ht
  simp only [Option.some.injEq] at ht;subst ht
  have:=hM.row c df
  simp only [Cells.den,(gj (β:=β) h).1] at this
  exact ⟨this,_,c,df⟩
 ·rename_i ws d c
  rw [c] at ht
  simp only [Option.some.injEq,Option.some.injEq] at ht h;subst ht;subst h
  exact ⟨hM.row c cz,_,c,cz⟩
 ·cases h
theorem FF {bx:Nat->Option aR}{s:Nat}{vs:List Value}(h:eU bx s=some vs):∃ty,kT bx s=some ty:=by
 unfold eU at h
 unfold kT
 split at h
 ·rename_i a;rw [a];exact ⟨_,rfl⟩
 ·rename_i a;rw [a];exact ⟨_,rfl⟩
 ·cases h
theorem xk (hM:Mod n V0 bH β0 st β a w V){ad:Addr}{xs:List Value}(h:V.sl (some ad) xs):∀j v,xs[j]?=some v->w.cell? (ad.add j)=some v:=by
 intro j v c
 obtain ⟨d,e,b⟩:=h j v c
 simp only [Option.some.injEq] at e
 subst e
 exact hM.Vc b
def Src (w:World)(xa:OA)(k size:Nat)(xs:List Value):Prop:=
 xs.length=k*size/\(∀v∈xs,v.oneCell'=true)/\((∃ad,xa=some ad/\∀j v,xs[j]?=some v->w.cell? (ad.add j)=some v)\/xa=none/\k=0)
theorem JO {t e ty:TypeId}{info:TypeInfo}(ht:P.underlying t=some (.slice e))(hi:P.info? e=some info){g m c k xc:Nat}{vs xs:List Value}{xa:OA}
  (hg:w.heap[g]?=some (.cells vs.toArray e (0,0)))(hx:Src w xa k info.size xs)(hc:m+k<=c)(hv:c*info.size<=vs.length) :
  ∃w',(Builtin.append_ #[t,t] ty #[.slice (some ⟨g,0,none⟩) m c,.slice xa k xc]).run P w=.ok (.slice (some ⟨g,0,none⟩) (m+k) c) w' /\
   w'.heap=w.heap.setIfInBounds g (.cells (vs.take (m*info.size)++xs++vs.drop (m*info.size+xs.length)).toArray e (0,0))/\w'.os=w.os/\w'.tape=w.tape/\w'.output=w.output:=by
 obtain ⟨d,h,hx⟩:=hx
 rcases hx with ⟨j,rfl,a⟩|⟨rfl,rfl⟩
 ·have b:m*info.size+xs.length<=vs.length:=by
   rw [d,←Nat.add_mul]
   exact Nat.le_trans (Nat.mul_le_mul_right _ hc) hv
  have l:=run_append_room (P:=P) w t ty e info ht hi g m c vs.toArray hg j k xc xs d a h hc (by simpa using b)
  exact ⟨_,l,by rw [eO hg],rfl,rfl,rfl⟩
 ·have f:xs=[]:=List.length_eq_zero_iff.1 (by simpa using d)
  subst f
  refine ⟨w,?_,?_,rfl,rfl,rfl⟩
  ·simpa using vo (P:=P) (w:=w) (ty:=ty) ht hi (some ⟨g,0,none⟩) m c xc (by omega)
  ·simp only [List.append_nil,List.length_nil,Nat.add_zero,List.take_append_drop]
   apply Array.ext_getElem?
   intro i
   rw [Array.getElem?_setIfInBounds]
   split
   ·rename_i e;rw [←e,if_pos (aB hg)];exact hg
   ·rfl
theorem Am {t e ty:TypeId}{info:TypeInfo}{z:Value}(ht:P.underlying t=some (.slice e))(hi:P.info? e=some info)(hz:info.zero=some z)(hzs:z.cells.size=info.size)
  {m c k xc:Nat}{olds xs:List Value}{base xa:OA}
  (hbase:(∃b,base=some b/\olds.length=m*info.size/\∀j v,olds[j]?=some v->w.cell? (b.add j)=some v)\/base=none/\m=0/\c=0/\olds=[])
  (hx:Src w xa k info.size xs)(hc:c<m+k)(hb:(m+k)*info.bytes<=140737488355328)(hb0:info.bytes≠0)(hmc:m<=c) :
  ∃(c':Nat)(rest:List Value)(w':World),m+k<=c'/\(m+k)*info.size+rest.length=c'*info.size/\w'.heap=w.heap/\w'.os=w.os/\w'.tape=w.tape/\w'.output=w.output /\
   (Builtin.append_ #[t,t] ty #[.slice base m c,.slice xa k xc]).run P w=.ok (.slice (some ⟨w.heap.size,0,none⟩) (m+k) c') (w'.alloc (.cells (olds++xs++rest).toArray e)):=by
 obtain ⟨h,n,hx⟩:=hx
 have f:(m+k:Nat)<=140737488355328:=by
  have:(m+k)*1<=(m+k)*info.bytes:=Nat.mul_le_mul_left _ (by omega)
  omega
 have a:∀N,(m+k)<=N->(m+k)*info.size+(Builtin.zeroCells z.cells (N-(m+k))).toList.length=N*info.size:=by
  intro N o
  rw [Array.length_toList,size_zeroCells,hzs,←Nat.add_mul]
  congr 1;omega
 rcases hx with ⟨i,rfl,d⟩|⟨rfl,rfl⟩
 ·rcases hbase with ⟨b,rfl,l,hold⟩|⟨rfl,rfl,rfl,rfl⟩
  ·have g:=run_append_grow (P:=P) w t ty e info z ht hi hz b m c olds l hold i k xc xs h d hc (by omega) (growslice_fits hc hb)
   refine ⟨_,(Builtin.zeroCells z.cells (grownCap w (m+k) c e-(m+k))).toList,w.drew,grownCap_ge w (m+k) c e,a _ (grownCap_ge w (m+k) c e),rfl,rfl,rfl,rfl,?_⟩
   rw [g]
   congr 3
   apply Array.ext'
   simp
  ·simp only [Nat.zero_add] at hc hb f a ⊢
   have g:=run_append_nil (P:=P) w t ty e info z ht hi hz i k xc xs h d (by omega) (by omega) (by omega)
   refine ⟨_,(Builtin.zeroCells z.cells (grownCap w k 0 e-k)).toList,w.drew,grownCap_ge w k 0 e,a _ (grownCap_ge w k 0 e),rfl,rfl,rfl,rfl,?_⟩
   rw [g]
   congr 3
   apply Array.ext'
   simp
 ·omega
theorem Cf {s d n:Nat}(hd:d<n):oK s d<n\/200000<=oK s d:=by
 unfold oK
 cases Nat.blt s 100000 with
 | true=>exact .inl hd
 | false=>exact .inr (by rw [cond_false];exact Nat.le_add_left _ _)
theorem HU {s d:Nat}(hs:100000<=s):100000<=oK s d:=by
 unfold oK
 have:Nat.blt s 100000=false:=by
  cases h:Nat.blt s 100000 with
  | false=>rfl
  | true=>have:=Nat.le_of_ble_eq_true h;omega
 rw [this,cond_false]
 omega
theorem Dj (hM:Mod n V0 bH β0 st β a w V){d:Nat}(hd:d<n){t e ty:TypeId}{info:TypeInfo}{z:Value}
  (ht:P.underlying t=some (.slice e))(hi:P.info? e=some info)(hz:info.zero=some z)(hzs:z.cells.size=info.size)(hb0:info.bytes≠0)
  {s:Nat}{vs xs:List Value}{m c k xc:Nat}{base xa:OA}
  (hbase:(base=some ⟨β s,0,none⟩/\w.heap[β s]?=some (.cells vs.toArray e (0,0))/\∃b,st.boxes s=some b/\b.live)\/(base=none/\m=0/\c=0/\k≠0))
  (hx:Src w xa k info.size xs)(hb:(m+k)*info.bytes<=140737488355328)(hmc:m<=c)(hcv:c*info.size<=vs.length)(hxl:xs.length=k*info.size)(hnb:st.boxes (oK s d)=none) :
  ∃(spare:List Value)(c' g:Nat)(w':World),m+k<=c'/\c'*info.size<=(m+k)*info.size+spare.length/\((c≠0\/k≠0)->c'≠0) /\
   (Builtin.append_ #[t,t] ty #[.slice base m c,.slice xa k xc]).run P w=.ok (.slice (some ⟨g,0,none⟩) (m+k) c') w' /\
   ∀bx:aR,(bx=⟨.row (vs.take (m*info.size)++xs++spare),e⟩\/bx=⟨.aW (vs.take (m*info.size)++xs++spare),e⟩) ->
    Mod n V0 bH β0 ((st.box s ⟨.aW [],e⟩).box (oK s d) bx) (eC β (oK s d) g) a w' V:=by
 have A:Mod n V0 bH β0 (st.box s ⟨.aW [],e⟩) β a w V:=hM.void
 have E:∀bx:aR,∀l:List Value,(bx=⟨.row l,e⟩\/bx=⟨.aW l,e⟩)->bx.cs.ids=[]/\bx.obj β=.cells l.toArray e (0,0):=by
  rintro bx l (rfl|rfl)<;>exact ⟨rfl,rfl⟩
 have Z:∀t b,(st.box s ⟨.aW [],e⟩).boxes t=some b->b.live->st.boxes t=some b/\t≠s:=by
  intro t b hb l
  rw [aj] at hb
  split at hb
  ·cases hb;exact absurd l gO
  ·rename_i h;exact ⟨hb,h⟩
 have K:(∃b,st.boxes s=some b/\b.live)\/True->(s≠oK s d\/st.boxes s=none)->(st.box s ⟨.aW [],e⟩).boxes (oK s d)=none\/s=oK s d:=by
  intro _ _
  by_cases h:s=oK s d
  ·exact .inr h
  ·left;rw [aj,if_neg (Ne.symm h)];exact hnb
 have p:c<m+k->((∃b,base=some b/\(vs.take (m*info.size)).length=m*info.size/\∀j v,(vs.take (m*info.size))[j]?=some v->w.cell? (b.add j)=some v)\/base=none/\m=0/\c=0/\vs.take (m*info.size)=[]) ->
   (s=oK s d->st.boxes s=none) ->
   ∃(spare:List Value)(c' g:Nat)(w':World),m+k<=c'/\c'*info.size<=(m+k)*info.size+spare.length/\((c≠0\/k≠0)->c'≠0) /\
   (Builtin.append_ #[t,t] ty #[.slice base m c,.slice xa k xc]).run P w=.ok (.slice (some ⟨g,0,none⟩) (m+k) c') w' /\
   ∀bx:aR,(bx=⟨.row (vs.take (m*info.size)++xs++spare),e⟩\/bx=⟨.aW (vs.take (m*info.size)++xs++spare),e⟩) ->
    Mod n V0 bH β0 ((st.box s ⟨.aW [],e⟩).box (oK s d) bx) (eC β (oK s d) g) a w' V:=by
  intro F hold L
  obtain ⟨c',rest,w',y,M,B,G,q,r,N⟩:=Am (ty:=ty) (xc:=xc) ht hi hz hzs hold hx F hb hb0 hmc
  refine ⟨rest,c',w.heap.size,_,y,by rw [←M];exact Nat.le_refl _,by omega,N,?_⟩
  intro bx f
  obtain ⟨H,I⟩:=E bx _ f
  have u:w'.heap.size=w.heap.size:=by rw [B]
  by_cases W:s=oK s d
  ·
   have e1:(st.box s ⟨.aW [],e⟩).box (oK s d) bx=st.box (oK s d) bx:=by
    rw [←W]
    simp only [St.box]
    congr 1
    funext t
    cases Nat.beq t s<;>rfl
   rw [e1]
   refine hM.iQ (Cf hd) hnb H ?_ ?_ (.inl hM.ext.size) ?_ ?_ ?_ G q r
   ·intro C D f l he
    have:=aB (hM.boxes C D f l)
    omega
   ·intro o f;have:=aB (hM.pV _ o f).1;omega
   ·rw [I,←u];exact heap_alloc_new _ _
   ·intro i O _;rw [b_ _ _ (by omega),B]
   ·simp [u]
  ·refine A.iQ (Cf hd) (by rw [aj,if_neg (Ne.symm W)];exact hnb) H ?_ ?_ (.inl hM.ext.size) ?_ ?_ ?_ G q r
   ·intro C D f l he
    have:=aB (A.boxes C D f l)
    omega
   ·intro o f;have:=aB (hM.pV _ o f).1;omega
   ·rw [I,←u];exact heap_alloc_new _ _
   ·intro i O _;rw [b_ _ _ (by omega),B]
   ·simp [u]
 rcases hbase with ⟨rfl,Q,R,x,S⟩|⟨rfl,rfl,rfl,a0⟩
 ·have X:s≠oK s d:=fun e=>by rw [←e,x] at hnb;cases hnb
  by_cases F:m+k<=c
  ·obtain ⟨w',N,B,G,q,r⟩:=JO (ty:=ty) (xc:=xc) ht hi Q hx F hcv
   have Y:m*info.size+xs.length<=vs.length:=by
    rw [hxl,←Nat.add_mul]
    exact Nat.le_trans (Nat.mul_le_mul_right _ F) hcv
   have T:=aB Q
   refine ⟨vs.drop (m*info.size+xs.length),c,β s,w',F,by rw [List.length_drop,hxl,Nat.add_mul];omega,by omega,N,?_⟩
   intro bx f
   obtain ⟨H,I⟩:=E bx _ f
   refine A.iQ (Cf hd) (by rw [aj,if_neg (Ne.symm X)];exact hnb) H ?_ (hM.uP s R x S) ?_ ?_ ?_ (by rw [B];simp) G q r
   ·intro C D f l he
    obtain ⟨y,M⟩:=Z C D f l
    exact M (hM.inj C s D R y l x S he)
   ·rcases hM.own s R x S with y|y
    ·exact .inl y
    ·exact .inr ⟨HU y.1,y.2⟩
   ·rw [B,Array.getElem?_setIfInBounds,if_pos rfl,if_pos T,I]
   ·intro i _ U;rw [B,Array.getElem?_setIfInBounds,if_neg (Ne.symm U)]
  ·refine p (by omega) (.inl ⟨⟨β s,0,none⟩,rfl,?_,?_⟩) (fun e=>absurd e X)
   ·rw [List.length_take,Nat.min_eq_left]
    exact Nat.le_trans (Nat.mul_le_mul_right _ hmc) hcv
   ·intro j v J
    rw [gF,cell_of_row Q]
    rw [List.getElem?_take] at J
    split at J
    ·simpa using J
    ·cases J
 ·refine p (by omega) (.inr ⟨rfl,rfl,rfl,by simp⟩) (fun e=>by rw [e];exact hnb)
theorem vq (hM:Mod n V0 bH β0 st β a w V){K:St->View->Prop}{d:Nat}(hd:d<n){t e ty:TypeId}{info:TypeInfo}{z:Value}
  (ht:P.underlying t=some (.slice e))(hi:P.info? e=some info)(hz:info.zero=some z)(hzs:z.cells.size=info.size)(hb0:info.bytes≠0)
  {s:Nat}{vs xs:List Value}{m c k xc:Nat}{xa:OA}(hg:w.heap[β s]?=some (.cells vs.toArray e (0,0)))(hbb:∃b,st.boxes s=some b/\b.live)
  (hx:Src w xa k info.size xs)(h:Dh s vs m c info.size info.bytes e d st V K k xs) :
  ∃v w' st' β',(Builtin.append_ #[t,t] ty #[.slice (some ⟨β s,0,none⟩) m c,.slice xa k xc]).run P w=.ok v w'/\Mod n V0 bH β0 st' β' (a.put (some d) v) w' V/\K st' V:=by
 obtain ⟨q,i,j,l,r,h⟩:=h
 split at h
 ·exact h.elim
 ·rename_i o
  obtain ⟨spare,p,g,w',u,y,-,A,B⟩:=Dj (ty:=ty) (xc:=xc) hM hd ht hi hz hzs hb0 (.inl ⟨rfl,hg,hbb⟩) hx q i j l o
  refine ⟨_,w',_,_,A,(B _ (.inl rfl)).put (x:=.c (.mY (oK s d) 0 (m+k) p)) hd ?_ ?_,h 0 (fun _=>.bool true) spare p u y⟩
  ·simp [SV.den,C.den,aQ]
  ·intro D f
   simp [SV.ids,C.ids] at f
   subst f
   exact ⟨_,by rw [aj,if_pos rfl]⟩
theorem wI (hM:Mod n V0 bH β0 st β a w V){K:St->View->Prop}{d:Nat}(hd:d<n){t e ty:TypeId}{info:TypeInfo}{z:Value}
  (ht:P.underlying t=some (.slice e))(hi:P.info? e=some info)(hz:info.zero=some z)(hzs:z.cells.size=info.size)(hb0:info.bytes≠0)(hs0:info.size≠0)
  {s:Nat}{vs xs:List Value}{m c k xc:Nat}{xa:OA}(hbb:st.boxes s=some ⟨.aW vs,e⟩)
  (hx:Src w xa k info.size xs)(h:tK s vs m c info.size info.bytes e d st V K k xs) :
  ∃v w' st' β',(Builtin.append_ #[t,t] ty #[.slice (mA (β s) c) m c,.slice xa k xc]).run P w=.ok v w'/\Mod n V0 bH β0 st' β' (a.put (some d) v) w' V/\K st' V:=by
 obtain ⟨G,r,l,o,H,h⟩:=h
 split at h
 ·exact h.elim
 ·rename_i u
  have fin:((mA (β s) c=some ⟨β s,0,none⟩/\w.heap[β s]?=some (.cells vs.toArray e (0,0))/\∃b,st.boxes s=some b/\b.live)\/(mA (β s) c=none/\m=0/\c=0/\k≠0))->(c≠0\/k≠0) ->
    ∃v w' st' β',(Builtin.append_ #[t,t] ty #[.slice (mA (β s) c) m c,.slice xa k xc]).run P w=.ok v w'/\Mod n V0 bH β0 st' β' (a.put (some d) v) w' V/\K st' V:=by
   intro i y
   obtain ⟨spare,E,g,w',I,J,L,M,N⟩:=Dj (ty:=ty) (xc:=xc) hM hd ht hi hz hzs hb0 i hx G r l o u
   refine ⟨_,w',_,_,M,(N _ (.inr rfl)).put (x:=.c (.jX (oK s d) (m+k) E)) hd ?_ ?_,h spare E I J⟩
   ·simp [SV.den,C.den,aQ,mA,L y]
   ·intro O f
    simp [SV.ids,C.ids] at f
    subst f
    exact ⟨_,by rw [aj,if_pos rfl]⟩
  by_cases j:c=0
  ·have hm:m=0:=by omega
   by_cases A:k=0
   ·
    subst j hm A
    have F:=h [] 0 (by omega) (by simp)
    have B:xs=[]:=List.length_eq_zero_iff.1 (by simpa using o)
    subst B
    have Q:vs.take (0*info.size)++[]++[]=([]:List Value):=by simp
    rw [Q] at F
    have D:Mod n V0 bH β0 ((st.box s ⟨.aW [],e⟩).box (oK s d) ⟨.aW [],e⟩) β a w V:=hM.void.void
    refine ⟨.slice none 0 0,w,_,_,?_,D.put (x:=.c (.jX (oK s d) 0 0)) hd ?_ ?_,F⟩
    ·have R:mA (β s) 0=none:=rfl
     rw [R]
     cases xa with
     | none=>exact vo ht hi none 0 0 xc (by omega)
     | some ad=>simp [Builtin.append_,ao ht,aL hi,Builtin.lenOf,Builtin.firstCells,loadCells,loadCellsFrom]
    ·simp [SV.den,C.den,mA]
    ·intro O f
     simp [SV.ids,C.ids] at f
     subst f
     exact ⟨_,by rw [aj,if_pos rfl]⟩
   ·exact fin (.inr ⟨by rw [j];rfl,hm,j,A⟩) (.inr A)
  ·have p:aR.live ⟨.aW vs,e⟩:=fY fun S=>by
    subst S
    have q:c*info.size=0:=by simpa using l
    rcases Nat.mul_eq_zero.1 q with q|q
    ·exact j q
    ·exact hs0 q
   exact fin (.inl ⟨by simp [mA,j],hM.row hbb p,_,hbb,p⟩) (.inl j)
theorem vr (hM:Mod n V0 bH β0 st β a w V){K:St->View->Prop}{d:Nat}(hd:d<n){t e ty:TypeId}{info:TypeInfo}{z:Value}
  (ht:P.underlying t=some (.slice e))(hi:P.info? e=some info)(hz:info.zero=some z)(hzs:z.cells.size=info.size)(hb0:info.bytes≠0)
  {vs xs:List Value}{m c k xc:Nat}{xa ba:OA}(hsl:V.sl ba vs)(hvl:vs.length=m*info.size)(hmc:m<=c)(hn0:ba.isNone=true->c=0)(hs0:info.size≠0)
  (hx:Src w xa k info.size xs)(h:Di vs m c info.size info.bytes e d st V K k xs) :
  ∃v w' st' β',(Builtin.append_ #[t,t] ty #[.slice ba m c,.slice xa k xc]).run P w=.ok v w'/\Mod n V0 bH β0 st' β' (a.put (some d) v) w' V/\K st' V:=by
 obtain ⟨E,s,F,G,h⟩:=h
 have f:(∃b,ba=some b/\vs.length=m*info.size/\∀j v,vs[j]?=some v->w.cell? (b.add j)=some v)\/ba=none/\m=0/\c=0/\vs=[]:=by
  cases ba with
  | some b=>exact .inl ⟨b,rfl,hvl,xk hM hsl⟩
  | none=>
   have H:=hn0 rfl
   have hm:m=0:=by omega
   subst hm
   exact .inr ⟨rfl,rfl,H,List.length_eq_zero_iff.1 (by simpa using hvl)⟩
 obtain ⟨B,rest,w',I,J,D,L,u,y,M⟩:=Am (ty:=ty) (xc:=xc) (base:=ba) (olds:=vs) ht hi hz hzs f hx s E hb0 hmc
 split at h
 ·exact h.elim
 ·rename_i N
  have O:=h rest B I (by rw [←J];exact Nat.le_refl _)
  have q:w'.heap.size=w.heap.size:=by rw [D]
  have A:=Mod.iQ hM (d:=d) (g:=w.heap.size) (b:=⟨.row (vs++xs++rest),e⟩) (w':=w'.alloc (.cells (vs++xs++rest).toArray e)) (.inl hd) N rfl
   (by
    intro Q R p l he
    have:=aB (hM.boxes Q R p l)
    omega)
   (by intro o p;have:=aB (hM.pV _ o p).1;omega) (.inl hM.ext.size)
   (by rw [←q];exact heap_alloc_new _ _)
   (by intro i S _;rw [b_ _ _ (by omega),D])
   (by simp [q]) L u y
  refine ⟨_,_,_,_,M,A.put (x:=.c (.mY d 0 (m+k) B)) hd ?_ ?_,O⟩
  ·simp [SV.den,C.den,aQ]
  ·intro T r
   simp [SV.ids,C.ids] at r
   subst r
   exact ⟨_,by rw [aj,if_pos rfl]⟩
end Go.bM
namespace Go.bM
variable {P:Program} {T:dA} {n:Nat} {V0:View} {bH:Fw} {β0:Nat->Nat} {st:St} {β:Nat->Nat} {a:Act} {w:World} {V:View}
theorem EJ (ws:List Value)(o n:Nat):(cC ws o n).length=n:=by
 unfold cC
 cases h:Nat.ble (o+n) ws.length with
 | true=>
  have:=Nat.le_of_ble_eq_true h
  simp only [cond_true]
  rw [List.length_take,List.length_drop];omega
 | false=>simp
theorem EI {ws:List Value}{o n:Nat}(h1:∀v∈cC ws o n,v.oneCell'=true){j:Nat}{v:Value}(hj:(cC ws o n)[j]?=some v):ws[o+j]?=some v:=by
 unfold cC at h1 hj
 cases h:Nat.ble (o+n) ws.length with
 | true=>
  rw [h] at hj
  simp only [cond_true] at hj
  rw [List.getElem?_take] at hj
  split at hj
  ·simpa using hj
  ·cases hj
 | false=>
  rw [h] at hj h1
  simp only [cond_false] at hj h1
  have hm:=List.mem_of_getElem? hj
  have:=h1 v hm
  rw [List.eq_of_mem_replicate hm] at this
  cases this
theorem H_ (hM:Mod n V0 bH β0 st β a w V){ei:TI}{info:TypeInfo}(e5:ei.size=info.size){s o k xc:Nat}{src:OA×Nat ⊕ List Value}
  (hsrc:(match st.boxes s with
    | some ⟨.row ws,_⟩=>some (.inr (cC ws o (k*ei.size)))
    | _=>match eU st.boxes s with
     | some ws=>if Nat.ble (o+k*ei.size) ws.length then some (.inr ((ws.drop o).take (k*ei.size))) else none
     | none=>none)=some src) :
  ∃xa k' T8,(SV.c (.mY s o k xc)).den β=.slice xa k' T8/\((src=.inl (xa,k'))\/∃xs,src=.inr xs/\xs.length=k'*info.size/\∃ad,xa=some ad/\((∀v∈xs,v.oneCell'=true)->∀j v,xs[j]?=some v->w.cell? (ad.add j)=some v)):=by
 split at hsrc
 ·rename_i ws ty f
  simp only [Option.some.injEq] at hsrc
  subst hsrc
  have b:eU st.boxes s=some ws:=by unfold eU;rw [f]
  have d:kT st.boxes s=some ty:=by unfold kT;rw [f]
  obtain ⟨g,-⟩:=m_ hM b d
  refine ⟨_,k,xc,rfl,.inr ⟨_,rfl,?_,⟨β s,o,none⟩,rfl,?_⟩⟩
  ·rw [EJ,←e5]
  ·intro h j v e
   rw [gF,cell_of_row g]
   exact EI h e
 ·split at hsrc
  ·rename_i ws b
   split at hsrc
   ·rename_i hle
    have hle:=Nat.le_of_ble_eq_true hle
    simp only [Option.some.injEq] at hsrc
    subst hsrc
    obtain ⟨i,d⟩:=FF b
    obtain ⟨g,-⟩:=m_ hM b d
    refine ⟨_,k,xc,rfl,.inr ⟨_,rfl,?_,⟨β s,o,none⟩,rfl,?_⟩⟩
    ·rw [List.length_take,List.length_drop,←e5];omega
    ·intro _ j v e
     rw [gF,cell_of_row g]
     rw [List.getElem?_take] at e
     split at e
     ·simpa using e
     ·cases e
   ·cases hsrc
  ·cases hsrc
theorem Co (hM:Mod n V0 bH β0 st β a w V){e:TypeId}{ei:TI}{info:TypeInfo}{z:Value}(e5:ei.size=info.size)(e6:ei.bytes=info.bytes)(e7:ei.zero=z.cells.toList.map C.ofConst)
  {b x:SV}{old:Option Nat}{ba:OA}{vs:List Value}{m c:Nat}{src:OA×Nat ⊕ List Value}{size bytes:Nat}{ty:TypeId}
  (h:ch st.boxes e ei b x=.app old ba vs m c src size bytes ty) :
  size=info.size/\bytes=info.bytes/\ty=e/\info.bytes≠0/\info.size≠0/\z.cells.size=info.size /\
  (∃base,b.den β=.slice base m c/\((∃s,old=some s/\base=some ⟨β s,0,none⟩/\w.heap[β s]?=some (.cells vs.toArray e (0,0))/\∃b,st.boxes s=some b/\b.live)\/old=none/\base=ba)) /\
  ∃xa k xc,x.den β=.slice xa k xc/\((src=.inl (xa,k))\/∃xs,src=.inr xs/\xs.length=k*info.size/\∃ad,xa=some ad/\((∀v∈xs,v.oneCell'=true)->∀j v,xs[j]?=some v->w.cell? (ad.add j)=some v)):=by
 unfold ch at h
 split at h
 ·cases h
 ·rename_i r q
  split at h
  ·cases h
  ·rename_i f
   simp only [Bool.or_eq_true,beq_eq,Bool.not_eq_eq_eq_not,not_or] at f
   obtain ⟨⟨t,u⟩,p⟩:=f
   have p:ei.size=r.length:=by
    rcases g:Nat.beq ei.size r.length with _|_
    ·rw [g] at p;exact absurd rfl p
    ·exact beq_eq.1 g
   obtain ⟨y,-⟩:=eT (β:=β) e7
   obtain ⟨d1,-⟩:=gj (β:=β) q
   have i:z.cells.size=info.size:=by rw [←y,d1];simp [←p,e5]
   dsimp only at h
   split at h
   ·cases h
   ·rename_i l d
    have g:(l=src/\ei.size=size/\ei.bytes=bytes/\e=ty)/\∃base,b.den β=.slice base m c/\((∃s,old=some s/\base=some ⟨β s,0,none⟩/\w.heap[β s]?=some (.cells vs.toArray e (0,0))/\∃b,st.boxes s=some b/\b.live)\/old=none/\base=ba):=by
     split at h
     ·simp only [Q.app.injEq] at h
      obtain ⟨rfl,rfl,rfl,rfl,rfl,rfl,rfl,rfl,rfl⟩:=h
      exact ⟨⟨rfl,rfl,rfl,rfl⟩,_,rfl,.inr ⟨rfl,rfl⟩⟩
     ·rename_i s H I
      split at h
      ·rename_i A B D E
       split at h
       ·rename_i he
        obtain rfl:=beq_eq.1 he
        simp only [Q.app.injEq] at h
        obtain ⟨rfl,rfl,rfl,rfl,rfl,rfl,rfl,rfl,rfl⟩:=h
        obtain ⟨F,G⟩:=m_ hM D E
        exact ⟨⟨rfl,rfl,rfl,rfl⟩,_,rfl,.inl ⟨s,rfl,rfl,F,G⟩⟩
       ·cases h
      ·cases h
     ·split at h
      ·split at h<;>cases h
      ·cases h
     ·cases h
    obtain ⟨⟨rfl,rfl,rfl,rfl⟩,g⟩:=g
    refine ⟨e5,e6,rfl,by rw [←e6];exact t,by rw [←e5];exact u,i,g,?_⟩
    split at d
    ·rename_i xa k xc
     simp only [Option.some.injEq] at d
     subst d
     exact ⟨xa,k,xc,rfl,.inl rfl⟩
    ·rename_i s o k xc
     exact H_ hM e5 d
    ·cases d
theorem zd (hM:Mod n V0 bH β0 st β a w V){e:TypeId}{ei:TI}{info:TypeInfo}{z:Value}(e5:ei.size=info.size)(e6:ei.bytes=info.bytes)(e7:ei.zero=z.cells.toList.map C.ofConst)
  {b x:SV}{s:Nat}{vs:List Value}{m c:Nat}{src:OA×Nat ⊕ List Value}{size bytes:Nat}{ty:TypeId}
  (h:ch st.boxes e ei b x=.sH s vs m c src size bytes ty) :
  size=info.size/\bytes=info.bytes/\ty=e/\info.bytes≠0/\info.size≠0/\z.cells.size=info.size /\
  (b.den β=.slice (mA (β s) c) m c/\st.boxes s=some ⟨.aW vs,e⟩) /\
  ∃xa k xc,x.den β=.slice xa k xc/\((src=.inl (xa,k))\/∃xs,src=.inr xs/\xs.length=k*info.size/\∃ad,xa=some ad/\((∀v∈xs,v.oneCell'=true)->∀j v,xs[j]?=some v->w.cell? (ad.add j)=some v)):=by
 unfold ch at h
 split at h
 ·cases h
 ·rename_i r q
  split at h
  ·cases h
  ·rename_i f
   simp only [Bool.or_eq_true,beq_eq,Bool.not_eq_eq_eq_not,not_or] at f
   obtain ⟨⟨t,u⟩,p⟩:=f
   have p:ei.size=r.length:=by
    rcases g:Nat.beq ei.size r.length with _|_
    ·rw [g] at p;exact absurd rfl p
    ·exact beq_eq.1 g
   obtain ⟨y,-⟩:=eT (β:=β) e7
   obtain ⟨d1,-⟩:=gj (β:=β) q
   have i:z.cells.size=info.size:=by rw [←y,d1];simp [←p,e5]
   dsimp only at h
   split at h
   ·cases h
   ·rename_i l d
    have g:(l=src/\ei.size=size/\ei.bytes=bytes/\e=ty)/\b.den β=.slice (mA (β s) c) m c/\st.boxes s=some ⟨.aW vs,e⟩:=by
     split at h
     ·cases h
     ·split at h
      ·split at h<;>cases h
      ·cases h
     ·rename_i E F G
      split at h
      ·rename_i A B D
       split at h
       ·rename_i he
        obtain rfl:=beq_eq.1 he
        simp only [Q.sH.injEq] at h
        obtain ⟨rfl,rfl,rfl,rfl,rfl,rfl,rfl,rfl⟩:=h
        exact ⟨⟨rfl,rfl,rfl,rfl⟩,rfl,D⟩
       ·cases h
      ·cases h
     ·cases h
    obtain ⟨⟨rfl,rfl,rfl,rfl⟩,g⟩:=g
    refine ⟨e5,e6,rfl,by rw [←e6];exact t,by rw [←e5];exact u,i,g,?_⟩
    split at d
    ·rename_i xa k xc
     simp only [Option.some.injEq] at d
     subst d
     exact ⟨xa,k,xc,rfl,.inl rfl⟩
    ·rename_i s o k xc
     exact H_ hM e5 d
    ·cases d
theorem Jc (hT:dA.ok P T)(hM:Mod n V0 bH β0 st β a w V){o:Oper}{K:St->View->Prop}{d:Nat}(hd:d<n){old:Option Nat}{ba:OA}{vs:List Value}{m c:Nat}{src:OA×Nat ⊕ List Value}{size bytes:Nat}{ty:TypeId}
  (h:aJ T st.aZ st.boxes o.op=.app old ba vs m c src size bytes ty)(hv:uf (.app old ba vs m c src size bytes ty) (some d) st V K) :
  ∃v w' st' β',(execOp a.eval o).run P w=.ok (.value v) w'/\Mod n V0 bH β0 st' β' (a.put (some d) v) w' V/\K st' V:=by
 obtain ⟨cl,M,qv⟩:=(gg (T:=T) (ρ:=st.aZ) (bx:=st.boxes) (op:=o.op)).2.2 (by rw [h];rfl)
 rw [M] at h
 simp only [aJ,qv] at h
 split at h
 ·rename_i b x t t' D X
  split at h
  ·rename_i i i' hi Y
   split at h
   ·rename_i e e' hk N
    split at h
    ·rename_i ei DX
     obtain ⟨ON,d0,z0,h1,E,h3,h4,-⟩:=aC (hT _ _ hi)
     obtain ⟨P_,a5,a6,a7,Z,a8,a0,-⟩:=aC (hT _ _ Y)
     obtain ⟨info,de,z,L,e2,U,e4,e5,e6,e7⟩:=aC (hT _ _ DX)
     rw [h4] at hk
     rw [a0] at N
     obtain rfl:=aT hk
     obtain rfl:=aT N
     obtain ⟨rfl,rfl,rfl,l,F,p,⟨base,a1,hold⟩,G,k,xc,a2,C⟩:=Co hM e5 e6 e7 h
     obtain ⟨q1,q2⟩:=f_ hM _ _ D
     have f1:cl.argTypes=#[t,t']:=by apply Array.ext';exact X
     have f2:cl.args.map a.eval=#[.slice base m c,.slice G k xc]:=by
      apply Array.ext';rw [Array.toList_map,q1];simp [a1,a2]
     have O:∀{v w'},(Builtin.append_ #[t,t] o.type #[.slice base m c,.slice G k xc]).run P w=.ok v w'->(execOp a.eval o).run P w=.ok (.value v) w':=by
      intro v w' hr
      simp only [execOp,M,resolve,qv,pure_bind,invoke,f1,f2,builtin]
      refine ew ?_
      rw [An E Z]
      exact hr
     have fin:∀{v w' st' β'},(Builtin.append_ #[t,t] o.type #[.slice base m c,.slice G k xc]).run P w=.ok v w'->Mod n V0 bH β0 st' β' (a.put (some d) v) w' V->K st' V ->
       ∃v w' st' β',(execOp a.eval o).run P w=.ok (.value v) w'/\Mod n V0 bH β0 st' β' (a.put (some d) v) w' V/\K st' V:=fun q u A=>⟨_,_,_,_,O q,u,A⟩
     have Oa:∀xs,V.sl G xs->xs.length=k*info.size->(∀v∈xs,v.oneCell'=true)->Src w G k info.size xs:=by
      intro xs j f h1
      refine ⟨f,h1,?_⟩
      cases G with
      | some H=>exact .inl ⟨H,rfl,xk hM j⟩
      | none=>
       refine .inr ⟨rfl,?_⟩
       have:xs=[]:=by
        cases xs with
        | nil=>rfl
        | cons y r=>obtain ⟨H,e,-⟩:=j 0 y (by simp);cases e
       rw [this] at f
       rcases Nat.mul_eq_zero.1 f.symm with h|h
       ·exact h
       ·exact absurd h F
     rcases hold with ⟨s,rfl,rfl,hg,Q⟩|⟨rfl,rfl⟩
     ·rcases C with rfl|⟨xs,rfl,f,H,rfl,g⟩
      ·obtain ⟨xs,j,f,hv⟩:=hv
       obtain ⟨v,w',st',β',q,u,A⟩:=vq (ty:=o.type) (xc:=xc) hM hd E L U p l hg Q (Oa xs j f hv.2.2.2.2.1) hv
       exact fin q u A
      ·have I:xs.length / info.size=k:=by rw [f];exact Nat.mul_div_cancel _ (by omega)
       simp only [uf,I] at hv
       obtain ⟨v,w',st',β',q,u,A⟩:=vq (ty:=o.type) (xc:=xc) hM hd E L U p l hg Q ⟨f,hv.2.2.2.2.1,.inl ⟨H,rfl,g hv.2.2.2.2.1⟩⟩ hv
       exact fin q u A
     ·obtain ⟨vs,SD,R,B,S,hv⟩:=hv
      rcases C with rfl|⟨xs,rfl,f,H,rfl,g⟩
      ·obtain ⟨xs,j,f,a3,a4⟩:=hv
       by_cases J:k=0
       ·have W:=a3 J
        subst J
        refine fin (v:=.slice base m c) (w':=w) ?_ (hM.put (x:=.c (.v (.slice base m c))) hd rfl (fun s hs=>by cases hs)) W
        cases G with
        | none=>exact vo E L base m c xc B
        | some H=>cases base<;>simp [Builtin.append_,ao E,aL L,Builtin.lenOf,Builtin.firstCells,loadCells,loadCellsFrom,storeCells,B]
       ·have W:=a4 J
        obtain ⟨v,w',st',β',q,u,A⟩:=vr (ty:=o.type) (xc:=xc) hM hd E L U p l SD R B S F (Oa xs j f W.2.2.2.1) W
        exact fin q u A
      ·have I:xs.length / info.size=k:=by rw [f];exact Nat.mul_div_cancel _ (by omega)
       dsimp only at hv
       rw [I] at hv
       obtain ⟨v,w',st',β',q,u,A⟩:=vr (ty:=o.type) (xc:=xc) hM hd E L U p l SD R B S F ⟨f,hv.2.2.2.1,.inl ⟨H,rfl,g hv.2.2.2.1⟩⟩ hv
       exact fin q u A
    ·cases h
   ·cases h
  ·cases h
 ·cases h
theorem GG (hT:dA.ok P T)(hM:Mod n V0 bH β0 st β a w V){o:Oper}{K:St->View->Prop}{d:Nat}(hd:d<n){s:Nat}{vs:List Value}{m c:Nat}{src:OA×Nat ⊕ List Value}{size bytes:Nat}{ty:TypeId}
  (h:aJ T st.aZ st.boxes o.op=.sH s vs m c src size bytes ty)(hv:uf (.sH s vs m c src size bytes ty) (some d) st V K) :
  ∃v w' st' β',(execOp a.eval o).run P w=.ok (.value v) w'/\Mod n V0 bH β0 st' β' (a.put (some d) v) w' V/\K st' V:=by
 obtain ⟨W,u,X⟩:=(gg (T:=T) (ρ:=st.aZ) (bx:=st.boxes) (op:=o.op)).2.2 (by rw [h];rfl)
 rw [u] at h
 simp only [aJ,X] at h
 split at h
 ·rename_i b x t t' l L
  split at h
  ·rename_i i i' hi M
   split at h
   ·rename_i e e' Y A
    split at h
    ·rename_i ei DX
     obtain ⟨ON,d0,z0,Z,N,h3,h4,-⟩:=aC (hT _ _ hi)
     obtain ⟨P_,a0,a1,a2,O,a3,Q,-⟩:=aC (hT _ _ M)
     obtain ⟨info,de,z,e1,e2,e3,e4,e5,e6,e7⟩:=aC (hT _ _ DX)
     rw [h4] at Y
     rw [Q] at A
     obtain rfl:=aT Y
     obtain rfl:=aT A
     obtain ⟨rfl,rfl,rfl,B,p,C,⟨R,D⟩,q,k,xc,S,E⟩:=zd hM e5 e6 e7 h
     obtain ⟨q1,q2⟩:=f_ hM _ _ l
     have f1:W.argTypes=#[t,t']:=by apply Array.ext';exact L
     have f2:W.args.map a.eval=#[.slice (mA (β s) c) m c,.slice q k xc]:=by
      apply Array.ext';rw [Array.toList_map,q1];simp [R,S]
     have F:∀{v w'},(Builtin.append_ #[t,t] o.type #[.slice (mA (β s) c) m c,.slice q k xc]).run P w=.ok v w'->(execOp a.eval o).run P w=.ok (.value v) w':=by
      intro v w' hr
      simp only [execOp,u,resolve,X,pure_bind,invoke,f1,f2,builtin]
      refine ew ?_
      rw [An N O]
      exact hr
     have fin:∀{v w' st' β'},(Builtin.append_ #[t,t] o.type #[.slice (mA (β s) c) m c,.slice q k xc]).run P w=.ok v w'->Mod n V0 bH β0 st' β' (a.put (some d) v) w' V->K st' V ->
       ∃v w' st' β',(execOp a.eval o).run P w=.ok (.value v) w'/\Mod n V0 bH β0 st' β' (a.put (some d) v) w' V/\K st' V:=fun G H I=>⟨_,_,_,_,F G,H,I⟩
     have Oa:∀xs,V.sl q xs->xs.length=k*info.size->(∀v∈xs,v.oneCell'=true)->Src w q k info.size xs:=by
      intro xs g f Z
      refine ⟨f,Z,?_⟩
      cases q with
      | some J=>exact .inl ⟨J,rfl,xk hM g⟩
      | none=>
       refine .inr ⟨rfl,?_⟩
       have:xs=[]:=by
        cases xs with
        | nil=>rfl
        | cons y r=>obtain ⟨J,e,-⟩:=g 0 y (by simp);cases e
       rw [this] at f
       rcases Nat.mul_eq_zero.1 f.symm with h|h
       ·exact h
       ·exact absurd h p
     rcases E with rfl|⟨xs,rfl,f,J,rfl,j⟩
     ·obtain ⟨xs,g,f,hv⟩:=hv
      obtain ⟨v,w',st',β',G,H,I⟩:=wI (ty:=o.type) (xc:=xc) hM hd N e1 e3 C B p D (Oa xs g f hv.2.2.2.2.1) hv
      exact fin G H I
     ·have U:xs.length / info.size=k:=by rw [f];exact Nat.mul_div_cancel _ (by omega)
      simp only [uf,U] at hv
      obtain ⟨v,w',st',β',G,H,I⟩:=wI (ty:=o.type) (xc:=xc) hM hd N e1 e3 C B p D ⟨f,hv.2.2.2.2.1,.inl ⟨J,rfl,j hv.2.2.2.2.1⟩⟩ hv
      exact fin G H I
    ·cases h
   ·cases h
  ·cases h
 ·cases h
theorem EA (hT:dA.ok P T)(hM:Mod n V0 bH β0 st β a w V){o:Oper}{K:St->View->Prop}{next:Act->World->Prop}{Q:Exit->Act->World->Prop}
  (hd:∀d,o.dst=some d->d<n)(hv:uf (aJ T st.aZ st.boxes o.op) o.dst st V K)
  (hK:∀st' β' a' w' V',Mod n V0 bH β0 st' β' a' w' V'->K st' V'->next a' w'):o.wp P a w next Q:=by
 unfold Oper.wp
 generalize hq:aJ T st.aZ st.boxes o.op=q at hv
 cases q with
 | fail=>exact hv.elim
 | ret sc x=>
  obtain ⟨g,h⟩:=(dU sc _).1 hv
  obtain ⟨e,f⟩:=Je hT hM hq g
  rw [e]
  exact hK _ _ _ _ _ (hM.Gx hd rfl f) h
 | new sc b x=>
  simp only [uf] at hv
  cases hdst:o.dst with
  | none=>rw [hdst] at hv;exact hv.elim
  | some d=>
   rw [hdst] at hv
   dsimp only at hv
   split at hv
   ·rename_i u
    obtain ⟨g,h⟩:=(dU sc _).1 hv
    obtain ⟨v,e,f,i⟩:=Jd hT hM hq g
    rw [e]
    have j:=hM.new (hd d hdst) u i
    have:=j.put (x:=x d) (v:=v) (hd d hdst) (f d).1 (by
     intro s k
     rw [(f d).2] at k
     simp at k
     subst k
     exact ⟨b,by rw [aj,if_pos rfl]⟩)
    simp only [Oper.upon_value,hdst]
    exact hK _ _ _ _ _ this h
   ·exact hv.elim
 | ue sc s b=>
  simp only [uf] at hv
  cases hdst:o.dst with
  | some d=>rw [hdst] at hv;exact hv.elim
  | none=>
   rw [hdst] at hv
   dsimp only at hv
   obtain ⟨g,h⟩:=(dU sc _).1 hv
   obtain ⟨z,w',e,rx,f⟩:=Jf hT hM hq g
   rw [e]
   rcases rx with rfl|⟨v,rfl⟩
   ·simp only [Oper.upon_skip,hdst]
    exact hK _ _ _ _ _ f h
   ·simp only [Oper.upon_value,hdst]
    exact hK _ _ _ _ _ f h
 | rd p sh=>
  obtain ⟨x,g,h,r⟩:=ve.eX sh hv
  have t:(∃c,x=.c c/\∃s',sh=.one s')\/∃cs l,x=.agg cs/\sh=.agg l/\cs.length=l.length:=h
  obtain ⟨e,f⟩:=LC hT hM hq g t r
  rw [e]
  exact hK _ _ _ _ _ (hM.Gx hd rfl (bT g)) f
 | oT vs of size sh=>
  obtain ⟨x,g,h,r,y⟩:=ve.eX sh hv
  have e:=Ez hT hM hq g h r
  rw [e]
  exact hK _ _ _ _ _ (hM.Gx hd rfl (bT g)) y
 | sH s vs m c src size bytes ty=>
  cases hdst:o.dst with
  | none=>rw [hdst] at hv;exact hv.elim
  | some d=>
   rw [hdst] at hv
   obtain ⟨v,w',st',β',e,f,i⟩:=GG hT hM (hd d hdst) hq hv
   rw [e]
   simp only [Oper.upon_value,hdst]
   exact hK _ _ _ _ _ f i
 | app old ba vs m c src size bytes ty=>
  cases hdst:o.dst with
  | none=>rw [hdst] at hv;exact hv.elim
  | some d=>
   rw [hdst] at hv
   obtain ⟨v,w',st',β',e,f,i⟩:=Jc hT hM (hd d hdst) hq hv
   rw [e]
   simp only [Oper.upon_value,hdst]
   exact hK _ _ _ _ _ f i
end Go.bM
namespace Go.bM
variable {P:Program} {T:dA} {n:Nat} {V0:View} {bH:Fw} {β0:Nat->Nat} {st:St} {β:Nat->Nat} {a:Act} {w:World} {V:View}
def cX (V:View)(w:World):View:=⟨w,fun b=>b<w.heap.size/\∀o,¬V.bI b o,fun _=>False,fun _ h=>h.1,fun _ h=>h.elim⟩
theorem Jy (hM:Mod n V0 bH β0 st β a w V):V.Le (cX V w):=fun b o c=>⟨fun h=>h.2 o c,(hM.pV b o c).1⟩
theorem jm.run {f:FuncId}(h:jm P f)(xs:Array Value):(callFunc f xs).run P w=.ok (.enter f xs) w:=by
 obtain ⟨fn,a,b,c⟩:=h
 simp only [callFunc,Sem.run_bind,run_program,Result.andThen_ok,a,c,b,Bool.false_eq_true,if_false,Sem.run_pure]
theorem bQ {x:Nat}:∀{l:List Nat},x∈dedup l↔x∈l
 | []=>by simp [dedup]
 | y::r=>by
  simp only [dedup]
  cases h:fj y (dedup r) with
  | true=>
   simp only [cond_true,List.mem_cons]
   rw [bQ]
   constructor
   ·exact .inr
   ·rintro (rfl|h')
    ·exact bQ.1 (cA.1 h)
    ·exact h'
  | false=>simp only [cond_false,List.mem_cons];rw [bQ]
theorem e_ {bx:Nat->Option aR}:∀(k:Nat)(l:List Nat),∀x∈l,x∈reach bx k l
 | 0,_,x,hx=>hx
 | k+1,l,x,hx=>by simp only [reach];exact e_ k _ x (bQ.2 (List.mem_append_left _ hx))
theorem iA {bx:Nat->Option aR}{l:List Nat}(h:im bx l=true){s:Nat}(hs:s∈l){b:aR}(hb:bx s=some b):∀t∈b.cs.ids,t∈l:=by
 unfold im at h
 rw [List.all_eq_true] at h
 have:=h s hs
 unfold L1 lP at this
 rw [hb,List.all_eq_true] at this
 exact fun t a=>cA.1 (this t a)
theorem kP {L:List Nat}:∀{γ:Nat->Nat} {k:(Nat->Nat)->Prop},mT L γ k->∀β:Nat->Nat,k (fun t=>if t∈L then β t else γ t):=by
 induction L with
 | nil=>
  intro γ k h β
  have e:(fun t=>if t∈([]:List Nat) then β t else γ t)=γ:=by funext t;simp
  rw [e];exact h
 | cons s r ih=>
  intro γ k h β
  have:=ih (h (β s)) β
  have e:(fun t=>if t∈r then β t else eC γ s (β s) t)=fun t=>if t∈s::r then β t else γ t:=by
   funext t
   by_cases a:t∈r
   ·simp [a]
   ·by_cases b:t=s
    ·subst b;simp [a,aQ]
    ·simp [a,b,gR]
  rw [e] at this
  exact this
theorem wQ {bx:Nat->Option aR}{b:aR}{γ:Nat->Nat}{s:Nat}:∀{r:List Nat} {k:Prop},OY bx b γ s r k->(∀t∈r,∀b',bx t=some b'->b.live->b'.live->γ s=γ t->s=t)->(∀t∈r,∃b',bx t=some b')->k
 | [],_,h,_,_=>h
 | t::r,k,h,hi,hl=>by
  simp only [OY] at h
  cases hb:Nat.beq s t with
  | true=>rw [hb] at h;exact wQ h (fun t ht=>hi t (List.mem_cons_of_mem _ ht)) (fun t ht=>hl t (List.mem_cons_of_mem _ ht))
  | false=>
   rw [hb] at h
   obtain ⟨b',hb'⟩:=hl t (by simp)
   simp only [hb',cond_false] at h
   refine wQ (h ?_) (fun t ht=>hi t (List.mem_cons_of_mem _ ht)) (fun t ht=>hl t (List.mem_cons_of_mem _ ht))
   rw [tH,fM]
   intro l
   rw [fM]
   intro a e
   have:=hi t (by simp) b' hb' l a e
   rw [this,Nat.beq_refl] at hb;cases hb
theorem wF {bx:Nat->Option aR}{γ:Nat->Nat}{V':View}:∀{L:List Nat} {k:Prop},iS bx γ V' L k->(∀s∈L,∀b,bx s=some b->b.live->V'.w.heap[γ s]?=some (b.obj γ)/\V'.H (γ s)) ->
  (∀s∈L,∀t∈L,∀b b',bx s=some b->b.live->bx t=some b'->b'.live->γ s=γ t->s=t)->(∀s∈L,∃b,bx s=some b)/\k
 | [],k,h,_,_=>⟨fun s hs=>(nomatch hs),h⟩
 | s::r,k,h,hf,hi=>by
  simp only [iS] at h
  split at h
  ·rename_i b hb
   obtain ⟨h3,h5⟩:=wF (h (fM.2 fun l=>(hf s (by simp) b hb l).1) (fM.2 fun l=>(hf s (by simp) b hb l).2)) (fun c a=>hf c (List.mem_cons_of_mem _ a))
    (fun c a t d=>hi c (List.mem_cons_of_mem _ a) t (List.mem_cons_of_mem _ d))
   have f:=wQ h5 (fun t d b' e l g=>hi s (by simp) t (List.mem_cons_of_mem _ d) b b' hb l e g) h3
   exact ⟨fun c a=>by rcases List.mem_cons.1 a with rfl|a;exact ⟨b,hb⟩;exact h3 c a,f⟩
  ·exact h.elim
theorem lC {bx:Nat->Option aR}{γ:Nat->Nat}{V':View}:∀{L:List Nat} {k:Prop},zf bx γ V' L k->(∀s∈L,∀b,bx s=some b->b.live->V'.bI (γ s) (b.obj γ))->(∀s∈L,∃b,bx s=some b)/\k
 | [],k,h,_=>⟨fun s hs=>(nomatch hs),h⟩
 | s::r,k,h,hf=>by
  simp only [zf] at h
  split at h
  ·rename_i b hb
   obtain ⟨h3,h4⟩:=lC (h (fM.2 (hf s (by simp) b hb))) (fun c a=>hf c (List.mem_cons_of_mem _ a))
   exact ⟨fun c a=>by rcases List.mem_cons.1 a with rfl|a;exact ⟨b,hb⟩;exact h3 c a,h4⟩
  ·exact h.elim
theorem iC {mv:Option (Nat×Nat)}:∀(cs zs:List C) {K:List C->Prop},mi mv cs zs K->∃cs',K cs'/\∀s∈cs'.flatMap C.ids,s∈cs.flatMap C.ids\/∃m,mv=some (m,s)
 | [],_,_,h=>⟨[],h,fun s hs=>(nomatch hs)⟩
 | c::r,[],_,h=>h.elim
 | c::r,z::zr,K,h=>by
  simp only [mi] at h
  split at h
  ·split at h
   ·rename_i m nb
    split at h
    ·obtain ⟨n,c,h⟩:=h
     obtain ⟨cs',a,b⟩:=iC r zr h
     refine ⟨_,a,fun s hs=>?_⟩
     simp only [List.flatMap_cons,List.mem_append] at hs ⊢
     rcases hs with hs|hs
     ·simp only [C.ids,List.mem_singleton] at hs
      subst hs
      exact .inr ⟨m,rfl⟩
     ·exact (b s hs).imp .inr id
    ·exact h.elim
   ·exact h.elim
  ·split at h
   ·obtain ⟨v,d,e⟩:=yw.eX _ h
    obtain ⟨cs',a,b⟩:=iC r zr e
    exact ⟨v::cs',a,fun s hs=>by
     simp only [List.flatMap_cons,d,List.nil_append,List.mem_append] at hs ⊢
     exact (b s hs).imp .inr id⟩
   ·obtain ⟨cs',a,b⟩:=iC r zr h
    exact ⟨c::cs',a,fun s hs=>by
     simp only [List.flatMap_cons,List.mem_append] at hs ⊢
     rcases hs with hs|hs
     ·exact .inl (.inl hs)
     ·exact (b s hs).imp .inr id⟩
theorem Mod.fill (h:Mod n V0 bH β0 st β a w V){s:Nat}{b0 b:aR}(hs:st.boxes s=some b0)(gx:∀t∈b.cs.ids,∃b',st.boxes t=some b')
  (hg:∀t b',st.boxes t=some b'->b'.live->t≠s->β t≠β s)(hV:∀o,¬V.bI (β s) o)(hown:V0.w.heap.size<=β s\/(100000<=s/\bH.B (β s)))(hw:w.heap[β s]?=some (b.obj β)) :
  Mod n V0 bH β0 (st.box s b) β a w V:=by
 have j:∀t,(∃b',st.boxes t=some b')->∃b',(st.box s b).boxes t=some b':=by
  rintro t ⟨b',c⟩
  rw [aj]
  split
  ·exact ⟨_,rfl⟩
  ·exact ⟨b',c⟩
 refine ⟨h.defers,h.size,h.aw,fun t x q u hu=>j u (h.Ab t x q u hu),?_,?_,?_,h.pV,?_,h.ext,?_,h.mU,h.kS,h.small⟩
 ·intro t b' c u hu
  rw [aj] at c
  split at c
  ·simp only [Option.some.injEq] at c;exact j u (gx u (c▸hu))
  ·exact j u (h.Aa t b' c u hu)
 ·intro t b' c l
  rw [aj] at c
  split at c
  ·rename_i e;simp only [Option.some.injEq] at c;rw [e,←c];exact hw
  ·exact h.boxes t b' c l
 ·intro t k b1 b2 g m i p he
  rw [aj] at g i
  split at g<;>split at i
  ·rename_i d f;rw [d,f]
  ·rename_i d f;rw [d] at he;exact absurd he.symm (hg k b2 i p f)
  ·rename_i d f;rw [f] at he;exact absurd he (hg t b1 g m d)
  ·exact h.inj t k b1 b2 g m i p he
 ·intro t b' c l
  rw [aj] at c
  split at c
  ·rename_i e;rw [e];exact hV
  ·exact h.uP t b' c l
 ·intro t b' c l
  rw [aj] at c
  split at c
  ·rename_i e;rw [e];exact hown
  ·exact h.own t b' c l
theorem Mod.later (hM:Mod n V0 bH β0 st β a w V){X:Nat->Prop}{w':World}(hx:fq X w w')(hX:∀t b,st.boxes t=some b->b.live->¬X (β t))(hX0:∀i,i<V0.w.heap.size->X i->V0.X i){V1:View}
  (P6:∀b o,V1.bI b o->w'.heap[b]?=some o/\¬V0.H b)(sr:∀t b,st.boxes t=some b->b.live->∀o,¬V1.bI (β t) o):Mod n V0 bH β0 st β a w' V1:=by
 refine ⟨hM.defers,hM.size,hM.aw,hM.Ab,hM.Aa,?_,hM.inj,P6,sr,?_,hM.own,hM.mU,hM.kS,hM.small⟩
 ·intro t b d l
  have:=hM.boxes t b d l
  rw [hx.bI _ (aB this) (hX t b d l)]
  exact this
 ·refine ⟨Nat.le_trans hM.ext.size hx.size,fun i c e=>?_,hx.os.trans hM.ext.os,hx.tape.trans hM.ext.tape,hx.out.trans hM.ext.out⟩
  rw [hx.bI i (Nat.lt_of_lt_of_le c hM.ext.size) (fun h=>e (hX0 i c h))]
  exact hM.ext.bI i c e
theorem Mod.beta (hM:Mod n V0 bH β0 st β a w V){d g:Nat}(hd:d<n\/200000<=d)(hn:st.boxes d=none):Mod n V0 bH β0 st (eC β d g) a w V:=by
 have m:∀s f,st.boxes s=some f->s≠d:=fun s f j e=>by rw [e,hn] at j;cases j
 have hβ:∀s f,st.boxes s=some f->eC β d g s=β s:=fun s f j=>gR _ _ (m s f j)
 refine ⟨hM.defers,hM.size,?_,hM.Ab,hM.Aa,?_,?_,hM.pV,?_,hM.ext,?_,?_,hM.kS,hM.small⟩
 ·intro t x q
  rw [hM.aw t x q]
  exact SV.bR fun s j=>by obtain ⟨f,i⟩:=hM.Ab t x q s j;exact (hβ s f i).symm
 ·intro s b c l
  rw [hβ s b c,hM.boxes s b c l]
  congr 1
  exact aR.dG fun k o=>by obtain ⟨p,r⟩:=hM.Aa s b c k o;exact (hβ k p r).symm
 ·intro s k b f c l i u he
  rw [hβ s b c,hβ k f i] at he
  exact hM.inj s k b f c l i u he
 ·intro s b c l
  rw [hβ s b c]
  exact hM.uP s b c l
 ·intro s b c l
  rw [hβ s b c]
  exact hM.own s b c l
 ·intro s j
  obtain ⟨v,y⟩:=hM.mU s j
  exact ⟨v,by rw [gR _ _ (by have:=hM.small;omega)];exact y⟩
def kq (st:St)(L:List Nat)(ty:TypeId):St:=L.foldl (fun st s=>st.box s ⟨.aW [],ty⟩) st
theorem nZ {ty:TypeId}:∀{L:List Nat} {st:St},(kq st L ty).aw=st.aw
 | [],_=>rfl
 | s::r,st=>by unfold kq;rw [List.foldl_cons];exact nZ (L:=r)
theorem bF {ty:TypeId}:∀{L:List Nat} {st:St} (t:Nat),(kq st L ty).boxes t=if t∈L then some ⟨.aW [],ty⟩ else st.boxes t
 | [],st,t=>by simp [kq]
 | s::r,st,t=>by
  have:=bF (ty:=ty) (L:=r) (st:=st.box s ⟨.aW [],ty⟩) t
  unfold kq at this ⊢
  rw [List.foldl_cons,this,aj]
  by_cases a:t∈r
  ·simp [a]
  ·by_cases b:t=s
   ·simp [b]
   ·simp [a,b]
theorem Mod.Mj {ty:TypeId}:∀{L:List Nat} {st:St},Mod n V0 bH β0 st β a w V->Mod n V0 bH β0 (kq st L ty) β a w V
 | [],_,h=>h
 | s::r,st,h=>by unfold kq;rw [List.foldl_cons];exact Mod.Mj (L:=r) h.void
theorem mj {mv:Option (Nat×Nat)}{γ:Nat->Nat}{V2:View}{A:List Nat}(hV2:V2.w=w)(WU:∀s∈A,γ s=β s)(hinj:∀s∈A,∀s'∈A,β s=β s'->s=s')(sr:∀s∈A,∀o,¬V.bI (β s) o)
  (hown:∀s∈A,V0.w.heap.size<=β s\/(100000<=s/\bH.B (β s))) :
  ∀(L:List Nat) (LY zj:St) {k:St->Prop},(∀s∈L,s∈A)->Mod n V0 bH β0 zj β a w V->LY.aw=zj.aw->(∀t,t∉L->LY.boxes t=zj.boxes t)->(∀s∈L,∃b,zj.boxes s=some b) ->
   (∀t b,zj.boxes t=some b->b.live->t∉A->∀s∈A,β t≠β s)->(∀s∈L,∀b,LY.boxes s=some b->∀t∈b.cs.ids,(∃b',zj.boxes t=some b')/\γ t=β t)->(∀m nb,mv=some (m,nb)->(∃b',zj.boxes nb=some b')/\γ nb=β nb) ->
   eM T mv γ V2 L LY k->∃st',Mod n V0 bH β0 st' β a w V/\st'.aw=zj.aw/\(∀t,(∃b,zj.boxes t=some b)->∃b,st'.boxes t=some b)/\k st'
 | [],LY,zj,k,_,hM,hsl,hag,_,_,_,_,h=>by
  have:LY=zj:=by
   obtain ⟨s1,b1⟩:=LY
   obtain ⟨s2,b2⟩:=zj
   dsimp only at hsl hag
   subst hsl
   congr 1
   funext t
   exact hag t (by simp)
  exact ⟨zj,hM,rfl,fun _ h=>h,this▸h⟩
 | s::r,LY,zj,k,hA,hM,hsl,hag,hb,hd,hw,hmv,h=>by
  have g:=hA s (by simp)
  obtain ⟨P,z⟩:=hb s (by simp)
  have step:∀b1:aR,(∀t∈b1.cs.ids,(∃b',zj.boxes t=some b')/\γ t=β t)->w.heap[γ s]?=some (b1.obj γ)->eM T mv γ V2 r (LY.box s b1) k ->
    ∃st',Mod n V0 bH β0 st' β a w V/\st'.aw=zj.aw/\(∀t,(∃b,zj.boxes t=some b)->∃b,st'.boxes t=some b)/\k st':=by
   intro b1 u H h
   rw [WU s g,aR.dG fun t c=>(u t c).2] at H
   by_cases C:s∈r
   ·
    refine mj hV2 WU hinj sr hown r (LY.box s b1) zj (fun s' d=>hA s' (List.mem_cons_of_mem _ d)) hM hsl ?_ (fun s' d=>hb s' (List.mem_cons_of_mem _ d)) hd ?_ hmv h
    ·intro t c
     have:t≠s:=fun e=>c (e▸C)
     rw [aj,if_neg this]
     exact hag t (by simp [this,c])
    ·intro s' d b' f t c
     rw [aj] at f
     split at f
     ·cases f;exact u t c
     ·exact hw s' (List.mem_cons_of_mem _ d) b' f t c
   ·have D:=hM.fill (b:=b1) z (fun t c=>(u t c).1) (by
     intro t b' c l E he
     by_cases v:t∈A
     ·exact E (hinj t v s g he)
     ·exact hd t b' c l v s g he) (sr s g) (hown s g) H
    have x:∀t,(∃b,zj.boxes t=some b)->∃b,(zj.box s b1).boxes t=some b:=by
     rintro t ⟨b,c⟩
     rw [aj]
     split
     ·exact ⟨_,rfl⟩
     ·exact ⟨b,c⟩
    obtain ⟨st',I,J,K,M⟩:=mj hV2 WU hinj sr hown r (LY.box s b1) (zj.box s b1) (fun s' d=>hA s' (List.mem_cons_of_mem _ d)) D hsl
     (by
      intro t c
      rw [aj,aj]
      split
      ·rfl
      ·rename_i e;exact hag t (by simp [e,c]))
     (fun s' d=>x s' (hb s' (List.mem_cons_of_mem _ d)))
     (by
      intro t b' c l v
      rw [aj] at c
      split at c
      ·rename_i e;exact absurd (e▸g) v
      ·exact hd t b' c l v)
     (by
      intro s' d b' f t c
      rw [aj] at f
      split at f
      ·cases f;exact ⟨x t (u t c).1,(u t c).2⟩
      ·have:=hw s' (List.mem_cons_of_mem _ d) b' f t c;exact ⟨x t this.1,this.2⟩)
     (fun m nb e=>⟨x nb (hmv m nb e).1,(hmv m nb e).2⟩) h
    exact ⟨st',I,J,fun t c=>K t (x t c),M⟩
  simp only [eM] at h
  split at h
  ·rename_i cs ty p
   split at h
   ·rename_i i Q
    obtain ⟨F,⟨j,y⟩,N⟩:=iC _ _ h
    rw [hV2] at j
    refine step ⟨.lit F,ty⟩ (fun t c=>?_) j y
    rcases N t c with G|⟨m,G⟩
    ·exact hw s (by simp) _ p t G
    ·exact hmv m t G
   ·exact h.elim
  ·rename_i O ty p
   obtain ⟨q,j,y⟩:=h
   rw [hV2] at j
   exact step ⟨.row q,ty⟩ (fun t c=>(nomatch c)) j y
  ·rename_i O ty p
   obtain ⟨-,q,-,j,y⟩:=h
   rw [hV2] at j
   exact step ⟨.aW q,ty⟩ (fun t c=>(nomatch c)) j y
  ·exact h.elim
theorem wE {mv:Option (Nat×Nat)}{V2:View}:∀{L:List Nat} {st:St} {k:St->Prop},eM T mv β V2 L st k->∀s∈L,∃b,st.boxes s=some b/\b.live
 | [],_,_,_,s,hs=>nomatch hs
 | s::r,st,k,h,t,ht=>by
  have core:∀b1:aR,(∃b,st.boxes s=some b/\b.live)->eM T mv β V2 r (st.box s b1) k->∃b,st.boxes t=some b/\b.live:=by
   intro b1 hs h
   by_cases e:t=s
   ·rw [e];exact hs
   ·have:=wE h t (by simpa [e] using ht)
    rw [aj,if_neg e] at this
    exact this
  simp only [eM] at h
  split at h
  ·rename_i cs ty a
   split at h
   ·obtain ⟨i,⟨g,c⟩,l⟩:=iC _ _ h
    exact core _ ⟨_,a,df⟩ c
   ·exact h.elim
  ·rename_i j ty a
   obtain ⟨d,g,c⟩:=h
   exact core _ ⟨_,a,cz⟩ c
  ·rename_i j ty a
   obtain ⟨f,d,-,g,c⟩:=h
   exact core _ ⟨_,a,fun _ e=>by cases e;exact f⟩ c
  ·exact h.elim
theorem wD {bx:Nat->Option aR}{γ:Nat->Nat}{N b:Nat}{L:List Nat}(hl:∀s∈L,∃b,bx s=some b)(hb:b∈L.map (dW bx γ N))(hlt:b<N):∃s∈L,∃b0,bx s=some b0/\b0.live/\γ s=b:=by
 obtain ⟨s,c,he⟩:=List.mem_map.1 hb
 obtain ⟨b0,a⟩:=hl s c
 unfold dW at he
 rw [a] at he
 obtain ⟨cs,ty⟩:=b0
 cases cs with
 | lit cs=>exact ⟨s,c,_,a,df,he⟩
 | row cs=>exact ⟨s,c,_,a,cz,he⟩
 | aW vs=>
  cases vs with
  | nil=>simp only [vb] at he;omega
  | cons v r=>exact ⟨s,c,_,a,fY (by simp),he⟩
theorem tG {nb:Nat}:∀{xs:List (Bool×List C)},(xs.flatMap fun x=>x.2.flatMap C.ids)=[]->∀s∈((uO nb xs).flatMap fun x=>x.2.flatMap C.ids),s=nb
 | [],_,s,hs=>nomatch hs
 | x::r,h,s,hs=>by
  simp only [List.flatMap_cons,List.append_eq_nil_iff] at h
  unfold uO at hs
  split at hs
  ·rename_i heq;cases heq
  ·rename_i heq
   cases heq
   simp only [List.flatMap_cons,h.2,List.flatMap_nil,List.append_nil] at hs
   simpa [C.ids] using hs
  ·rename_i heq
   cases heq
   simp only [List.flatMap_cons,List.mem_append,h.1,List.not_mem_nil,false_or] at hs
   exact tG h.2 s hs
theorem wg {nb:Nat}:∀{cs:List C},(cs.flatMap C.ids)=[]->∀s∈(B6 nb cs).flatMap C.ids,s=nb
 | [],_,s,hs=>nomatch hs
 | x::r,h,s,hs=>by
  simp only [List.flatMap_cons,List.append_eq_nil_iff] at h
  unfold B6 at hs
  split at hs
  ·rename_i heq;cases heq
  ·rename_i heq
   cases heq
   simp only [List.flatMap_cons,h.2,List.append_nil] at hs
   simpa [C.ids] using hs
  ·rename_i heq
   cases heq
   simp only [List.flatMap_cons,List.mem_append,h.1,List.not_mem_nil,false_or] at hs
   exact wg h.2 s hs
theorem F6 {nb:Nat}{x:SV}(h:x.ids=[]):∀s∈(sn nb x).ids,s=nb:=by
 intro s a
 unfold sn at a
 split at a
 ·simpa [SV.ids,C.ids] using a
 ·exact wg h s a
 ·exact tG h s a
 ·rw [h] at a;cases a
theorem DJ {xs:List SV}(h:∀x∈xs,x.ids=[])(γ δ:Nat->Nat):aU γ xs=aU δ xs:=by
 unfold aU
 rw [List.map_congr_left fun x a=>kc (h x a) γ δ]
theorem Mod.Pq {w0:World}{V':View}(hM:Mod n V0 bH β0 st β a w V')(hlt:∀s b,st.boxes s=some b->b.live->β s<w0.heap.size)(hsz:V0.w.heap.size<=w0.heap.size){d b:Nat}{cs:List C}{e:TypeId}(hd:d<n)(hn:st.boxes d=none)
  (hb:w0.heap.size<=b)(hw:V'.w=w)(hblk:V'.bI b (.cells (cs.map (C.den fun _=>0)).toArray e (0,0)))(gx:cs.flatMap C.ids=[]) :
  Mod n V0 bH β0 ((st.box d ⟨.lit cs,e⟩).put (some d) (.c (.ptr d 0))) (eC β d b) (a.put (some d) (.pointer (some ⟨b,0,none⟩))) w (V'.Kt b):=by
 have r:∀s g,st.boxes s=some g->s≠d:=fun s g f e=>by rw [e,hn] at f;cases f
 have hβ:∀s g,st.boxes s=some g->eC β d b s=β s:=fun s g f=>gR _ _ (r s g f)
 have u:w.heap[b]?=some (.cells (cs.map (C.den fun _=>0)).toArray e (0,0)):=(hM.pV b _ hblk).1
 have F:(⟨.lit cs,e⟩:aR).obj (eC β d b)=.cells (cs.map (C.den fun _=>0)).toArray e (0,0):=by
  simp only [aR.obj,Cells.den]
  rw [mf (β':=fun _=>0) fun s f=>by rw [gx] at f;cases f]
 have G:Mod n V0 bH β0 (st.box d ⟨.lit cs,e⟩) (eC β d b) a w (V'.Kt b):=by
  refine ⟨hM.defers,hM.size,?_,?_,?_,?_,?_,?_,?_,hM.ext,?_,?_,hM.kS,hM.small⟩
  ·intro t x y
   rw [hM.aw t x y]
   exact SV.bR fun s f=>by obtain ⟨g,p⟩:=hM.Ab t x y s f;exact (hβ s g p).symm
  ·intro t x y s f
   obtain ⟨g,p⟩:=hM.Ab t x y s f
   exact ⟨g,by rw [aj,if_neg (r s g p)];exact p⟩
  ·intro s g f m i
   rw [aj] at f
   split at f
   ·simp only [Option.some.injEq] at f
    rw [←f] at i
    simp only [Cells.ids] at i
    rw [gx] at i;cases i
   ·obtain ⟨q,z⟩:=hM.Aa s g f m i
    exact ⟨q,by rw [aj,if_neg (r m q z)];exact z⟩
  ·intro s g f l
   rw [aj] at f
   split at f
   ·rename_i v
    simp only [Option.some.injEq] at f
    rw [v,aQ,←f,F]
    exact u
   ·rw [hβ s g f,hM.boxes s g f l]
    congr 1
    exact aR.dG fun m i=>by obtain ⟨q,z⟩:=hM.Aa s g f m i;exact (hβ m q z).symm
  ·intro s m b1 b2 j D k E he
   rw [aj] at j k
   split at j<;>split at k
   ·rename_i A B;rw [A,B]
   ·rename_i A B;rw [A,aQ,hβ m b2 k] at he;have:=hlt m b2 k E;omega
   ·rename_i A B;rw [B,aQ,hβ s b1 j] at he;have:=hlt s b1 j D;omega
   ·rw [hβ s b1 j,hβ m b2 k] at he;exact hM.inj s m b1 b2 j D k E he
  ·rintro x o ⟨j,k⟩
   exact hM.pV x o ⟨fun h=>j (.inl h),k⟩
  ·rintro s g f l o ⟨j,k⟩
   rw [aj] at f
   split at f
   ·rename_i v
    rw [v,aQ] at j
    exact j (.inr ⟨rfl,by rw [hw];exact aB u⟩)
   ·rw [hβ s g f] at j k
    exact hM.uP s g f l o ⟨fun h=>j (.inl h),k⟩
  ·intro s g f l
   rw [aj] at f
   split at f
   ·rename_i v;rw [v,aQ];exact .inl (Nat.le_trans hsz hb)
   ·rw [hβ s g f];exact hM.own s g f l
  ·intro s f
   obtain ⟨j,k⟩:=hM.mU s f
   exact ⟨j,by rw [gR _ _ (by have:=hM.small;omega)];exact k⟩
 refine G.put hd ?_ ?_
 ·simp only [SV.den,C.den,aQ]
 ·intro s f
  simp [SV.ids,C.ids] at f
  subst f
  exact ⟨_,by rw [aj,if_pos rfl]⟩
theorem wM {L:List Nat}{m s:Nat}:s∈(L.filter fun s=>!(Nat.beq s m))↔s∈L/\s≠m:=by
 rw [List.mem_filter]
 constructor
 ·rintro ⟨b,a⟩
  refine ⟨b,fun e=>?_⟩
  subst e
  rw [Nat.beq_refl] at a;cases a
 ·rintro ⟨b,a⟩
  refine ⟨b,?_⟩
  cases h:Nat.beq s m with
  | false=>rfl
  | true=>exact absurd (beq_eq.1 h) a
theorem tL (hM:Mod n V0 bH β0 st β a w V){L:List Nat}{γ:Nat->Nat}(jT:∀s∈L,γ s=β s)(hcl:∀s∈L,∀b,st.boxes s=some b->∀t∈b.cs.ids,t∈L)(hlive:∀s∈L,∃b,st.boxes s=some b)
  {give:Bool}{sh:Sh}{m:Option Nat}{d:Nat}(hd:d<n){ety:TypeId}{K:St->View->Prop}{w':World}{r:Value}(hm:∀k,m=some k->k∈L)(hfree:kC st m d=true)
  (hx:fq (fun b=>b∈L.map (dW st.boxes γ w.heap.size)/\(cX V w).H b) w w')
  (hr:cD T give sh L m d ety γ st (cX V w) K r (((cX V w).bz (L.map (dW st.boxes γ w.heap.size))).to w' hx.size)) :
  ∃st' β' V',Mod n V0 bH β0 st' β' (a.put (some d) r) w' V'/\K st' V':=by
 have a4:V0.w.heap.size<=w.heap.size:=hM.ext.size
 unfold cD at hr
 generalize hnb:fC m d=nb at hr
 obtain ⟨C,p,J,P7,M⟩:=hr
 obtain ⟨x,N,rfl,hr⟩:=Sh.eX sh M
 clear M
 have X:st.boxes nb=none:=by
  unfold kC at hfree
  rw [hnb] at hfree
  split at hfree
  ·cases hfree
  ·assumption
 have OH:nb<n\/200000<=nb:=by
  rw [←hnb]
  cases m with
  | none=>exact .inl hd
  | some m=>exact Cf hd
 generalize hV1:((((cX V w).bz (L.map (dW st.boxes γ w.heap.size))).to w' hx.size).shut.ke (p≠[]) C)=V1 at hr
 have Ws:V1.w=w':=by rw [←hV1];rfl
 have Y:∀b o,V1.bI b o->w'.heap[b]?=some o/\¬(b<w.heap.size/\∀o,¬V.bI b o)/\¬(p≠[]/\b=C/\b<w'.heap.size):=by
  rintro b o ⟨z,D⟩
  rw [Ws] at D
  rw [←hV1] at z
  refine ⟨D,fun h=>z (.inl h),fun h=>z (.inr ⟨h.1,h.2.1,by rw [←h.2.1];exact h.2.2⟩)⟩
 have P6:∀b o,V1.bI b o->w'.heap[b]?=some o/\¬V0.H b:=by
  intro b o h
  obtain ⟨z,D,-⟩:=Y b o h
  refine ⟨z,fun hH=>?_⟩
  by_cases Z:b<w.heap.size
  ·exact D ⟨Z,fun o' a0=>(hM.pV b o' a0).2 hH⟩
  ·have:=V0.hH b hH;omega
 have sr:∀s b,st.boxes s=some b->b.live->∀o,¬V1.bI (β s) o:=fun s b g l o ho=>
  (Y _ o ho).2.1 ⟨aB (hM.boxes s b g l),hM.uP s b g l⟩
 have Sg:∀b,(b∈L.map (dW st.boxes γ w.heap.size)/\(cX V w).H b)->∃s∈L,∃q,st.boxes s=some q/\q.live/\β s=b:=by
  rintro b ⟨z,D⟩
  obtain ⟨s,c,q,f,B,he⟩:=wD hlive z D.1
  exact ⟨s,c,q,f,B,by rw [←jT s c];exact he⟩
 have Ur:Mod n V0 bH β0 (kq st L ety) β a w' V1:=by
  refine (hM.Mj (L:=L) (ty:=ety)).later hx ?_ ?_ P6 ?_
  ·intro t b g l hX
   rw [bF] at g
   split at g
   ·cases g;exact gO l
   ·rename_i v
    obtain ⟨s,c,q,f,B,he⟩:=Sg _ hX
    exact v (hM.inj s t q b f B g l he▸c)
  ·intro i hi hX
   obtain ⟨s,c,q,f,B,rfl⟩:=Sg _ hX
   rcases hM.own s q f B with h|h
   ·omega
   ·exact hM.kS _ h.2
  ·intro t b g l
   rw [bF] at g
   split at g
   ·cases g;exact absurd l gO
   ·exact sr t b g l
 have So:(kq st L ety).boxes nb=none:=by
  rw [bF,if_neg]
  ·exact X
  ·intro h;obtain ⟨b,g⟩:=hlive nb h;rw [X] at g;cases g
 have Gb:p≠[]->w.heap.size<=C\/∃k q,m=some k/\st.boxes k=some q/\q.live/\C=β k:=by
  intro u
  rcases P7 u with h|h
  ·exact .inl h
  ·right
   cases m with
   | none=>exact h.elim
   | some k=>
    have U:=hm k rfl
    obtain ⟨q,f⟩:=hlive k U
    simp only [yl,f] at h
    obtain ⟨cs,ty⟩:=q
    cases cs with
    | lit cs=>exact ⟨k,_,rfl,f,df,by rw [←jT k U];exact h⟩
    | row cs=>exact ⟨k,_,rfl,f,cz,by rw [←jT k U];exact h⟩
    | aW cs=>exact ⟨k,_,rfl,f,fY h.1,by rw [←jT k U];exact h.2⟩
 have a1:Mod n V0 bH β0 ((kq st L ety).box nb ⟨.aW p,ety⟩) (eC β nb C) a w' V1:=by
  by_cases u:p=[]
  ·subst u
   exact (Ur.beta OH So).void
  ·have Si:w'.heap[C]?=some (.cells p.toArray ety (0,0)):=J u
   refine Ur.iQ OH So rfl ?_ ?_ ?_ Si (fun _ _ _=>rfl) (Nat.le_refl _) rfl rfl rfl
   ·intro s b g l he
    rw [bF] at g
    split at g
    ·cases g;exact gO l
    ·rename_i a2
     rcases Gb u with h|⟨k,q,O,f,B,h⟩
     ·have:=aB (hM.boxes s b g l);omega
     ·exact a2 (hM.inj k s q b f B g l (h▸he.symm)▸hm k O)
   ·intro o ho
    exact (Y _ o ho).2.2 ⟨u,rfl,aB Si⟩
   ·rcases Gb u with h|⟨k,q,O,f,B,h⟩
    ·left;omega
    ·rcases hM.own k q f B with W|W
     ·left;rw [h];exact W
     ·right
      refine ⟨?_,by rw [h];exact W.2⟩
      rw [←hnb,O]
      exact HU W.1
 have F_:∀s,(∃b,st.boxes s=some b)->s≠nb:=by rintro s ⟨b,g⟩ rfl;rw [X] at g;cases g
 generalize hA:HS m L=A at hr
 have E:∀s∈A,s∈L/\∀k,m=some k->s≠k:=by
  intro s c
  rw [←hA] at c
  cases m with
  | none=>exact ⟨c,fun k h=>nomatch h⟩
  | some k=>obtain ⟨z,D⟩:=wM.1 c;exact ⟨z,fun j hj=>by cases hj;exact D⟩
 have ZC:∀s∈L,(∀k,m=some k->s≠k)->s∈A:=by
  intro s c h
  rw [←hA]
  cases m with
  | none=>exact c
  | some k=>exact wM.2 ⟨c,h k rfl⟩
 have I:∀s,(∃b,st.boxes s=some b)->eC γ nb C s=γ s/\eC β nb C s=β s:=fun s c=>⟨gR _ _ (F_ s c),gR _ _ (F_ s c)⟩
 have Sx:∀s∈A,((qt m ety st).box nb ⟨.aW p,ety⟩).boxes s=st.boxes s:=by
  intro s c
  obtain ⟨z,D⟩:=E s c
  rw [aj,if_neg (F_ s (hlive s z))]
  cases m with
  | none=>rfl
  | some k=>simp only [qt];rw [aj,if_neg (D k rfl)]
 have P:∀s∈A,∃b,st.boxes s=some b/\b.live:=by
  intro s c
  have:=wE hr s c
  rw [Sx s c] at this
  exact this
 obtain ⟨st',g1,g2,g3,g4⟩:=mj (a:=a) (w:=w') (V:=V1) (γ:=eC γ nb C) (β:=eC β nb C) (by rfl) (fun s c=>by
   have:=I s (hlive s (E s c).1);rw [this.1,this.2];exact jT s (E s c).1)
  (by
   intro s c Q R he
   rw [(I s (hlive s (E s c).1)).2,(I Q (hlive Q (E Q R).1)).2] at he
   obtain ⟨b1,y,F⟩:=P s c
   obtain ⟨b2,e2,l2⟩:=P Q R
   exact hM.inj s Q b1 b2 y F e2 l2 he)
  (by
   intro s c
   obtain ⟨b1,y,F⟩:=P s c
   rw [(I s ⟨b1,y⟩).2]
   exact sr s b1 y F)
  (by
   intro s c
   obtain ⟨b1,y,F⟩:=P s c
   rw [(I s ⟨b1,y⟩).2]
   exact hM.own s b1 y F)
  A _ ((kq st L ety).box nb ⟨.aW p,ety⟩) (fun _ h=>h) a1
  (by
   show _=(kq st L ety).aw
   rw [nZ]
   cases m<;>rfl)
  (by
   intro t v
   rw [aj,aj]
   split
   ·rfl
   ·rw [bF]
    cases m with
    | none=>
     simp only [qt]
     rw [if_neg fun h=>v (ZC t h fun k e=>nomatch e)]
    | some k=>
     simp only [qt]
     rw [aj]
     split
     ·rename_i e;rw [if_pos (e▸hm k rfl)]
     ·rename_i e;rw [if_neg fun h=>v (ZC t h fun j hj=>by cases hj;exact e)])
  (by
   intro s c
   rw [aj]
   split
   ·exact ⟨_,rfl⟩
   ·rw [bF,if_pos (E s c).1];exact ⟨_,rfl⟩)
  (by
   intro t b v l Nk s c
   obtain ⟨b1,y,F⟩:=P s c
   rw [(I s ⟨b1,y⟩).2]
   rw [aj] at v
   split at v
   ·rename_i e
    simp only [Option.some.injEq] at v
    rw [e,aQ]
    have u:p≠[]:=fun e0=>by rw [←v,e0] at l;exact gO l
    rcases Gb u with h|⟨k,q,O,f,B,h⟩
    ·have:=aB (hM.boxes s b1 y F);omega
    ·intro he
     exact (E s c).2 k O (hM.inj k s q b1 f B y F (h▸he)).symm
   ·rw [bF] at v
    split at v
    ·cases v;exact absurd l gO
    ·rename_i S
     intro he
     rw [(I t ⟨b,v⟩).2] at he
     exact S (hM.inj t s b b1 v l y F he▸(E s c).1))
  (by
   intro s c b g t v
   rw [Sx s c] at g
   have S:=hcl s (E s c).1 b g t v
   have G:=I t (hlive t S)
   refine ⟨?_,by rw [G.1,G.2];exact jT t S⟩
   rw [aj]
   split
   ·exact ⟨_,rfl⟩
   ·rw [bF,if_pos S];exact ⟨_,rfl⟩)
  (by
   intro k a3 e
   have:a3=nb:=by
    cases m with
    | none=>cases e
    | some m=>cases e;rfl
   subst this
   exact ⟨⟨_,by rw [aj,if_pos rfl]⟩,by rw [aQ,aQ]⟩)
  hr
 obtain ⟨b2,G⟩:=g3 nb ⟨_,by rw [aj,if_pos rfl]⟩
 have gx:∀s∈(cond give (sn nb x) x).ids,s=nb:=by
  cases give with
  | true=>exact F6 N
  | false=>intro s c;rw [cond_false,N] at c;cases c
 refine ⟨_,_,_,g1.put (x:=cond give (sn nb x) x) hd ?_ ?_,g4⟩
 ·exact SV.bR fun s c=>by rw [gx s c,aQ,aQ]
 ·intro s c
  rw [gx s c]
  exact ⟨b2,G⟩
theorem ka (hM:Mod n V0 bH β0 st β a w V){m:CM}{f:FuncId}{xs:List SV}{ty:TypeId}{dst:Option Nat}{K:St->View->Prop}{next:Act->World->Prop}{Q:Exit->Act->World->Prop}
  (hd:∀d,dst=some d->d<n)(hv:fQ P T m f xs ty dst st V K)
  (hK:∀st' β' a' w' V',Mod n V0 bH β0 st' β' a' w' V'->K st' V'->next a' w') :
  jm P f/\Calls P f (aU β xs) w fun
   | .returned v,w''=>next (a.put dst v) w''
   | .panicked chain,w''=>Q (.panic chain) a w''
   | .outgrown,_=>LetsOut Q:=by
 have hle:=Jy hM
 have a5:V0.w.heap.size<=w.heap.size:=hM.ext.size
 unfold fQ at hv
 split at hv
 ·exact hv.elim
 ·rename_i sh c2
  split at hv
  ·
   rename_i gx
   have a6:∀x∈xs,x.ids=[]:=by
    intro x u
    rcases hx':x.ids with _|⟨s,r⟩
    ·rfl
    ·exfalso
     have:s∈reach st.boxes 3 (dedup (xs.flatMap SV.ids)):=e_ 3 _ s (bQ.2 (List.mem_flatMap.2 ⟨x,u,by rw [hx'];simp⟩))
     rw [gx] at this
     cases this
   have ZD:∀(w':World)(u:fq (fun _=>False) w w'),Mod n V0 bH β0 st β a w' ((cX V w).to w' u.size):=by
    intro w' u
    refine hM.later u (fun _ _ _ _ h=>h) (fun _ _ h=>h.elim) ?_ ?_
    ·rintro b o ⟨B,F⟩
     refine ⟨F,fun hH=>?_⟩
     by_cases Z:b<w.heap.size
     ·apply B
      refine ⟨Z,fun o' a0=>(hM.pV b o' a0).2 hH⟩
     ·have:=V0.hH b hH;omega
    ·rintro s b p l o ⟨B,-⟩
     exact B ⟨aB (hM.boxes s b p l),hM.uP s b p l⟩
   rw [DJ a6 β fun _=>0]
   split at hv
   ·
    split at hv
    ·rename_i d G c3
     split at hv
     ·exact hv.elim
     ·rename_i q
      obtain ⟨hc,X⟩:=hv (cX V w) hle
      refine ⟨hc,Calls.mono X ?_⟩
      rintro e' w' ⟨r,rfl,u,Y⟩
      have A:fq (fun b=>b∈([]:List Nat).map (dW st.boxes (fun _=>0) w.heap.size)/\(cX V w).H b) w w':=u.mono fun _ h=>h.elim
      have a9:cD T true sh [] Option.none d G (fun _=>0) st (cX V w) K r (((cX V w).bz (([]:List Nat).map (dW st.boxes (fun _=>0) w.heap.size))).to w' A.size):=by
       unfold cD HS at Y ⊢
       exact Y
      obtain ⟨st',β',V',B,F⟩:=tL (T:=T) (give:=true) (m:=Option.none) hM (fun s g=>absurd g (by simp)) (fun s g=>absurd g (by simp)) (fun s g=>absurd g (by simp)) (hd d rfl) (fun k E=>by cases E) q A a9
      exact hK _ _ _ _ _ B F
    ·exact hv.elim
   ·split at hv
    ·rename_i d
     split at hv
     ·exact hv.elim
     ·rename_i hn
      split at hv
      ·rename_i ti c4
       split at hv
       ·rename_i e he
        split at hv
        ·rename_i ei DX
         obtain ⟨hc,X⟩:=hv (cX V w) hle
         refine ⟨hc,Calls.mono X ?_⟩
         rintro e' w' ⟨r,rfl,u,b,Y⟩
         obtain ⟨cs,B,F,rfl,h4,h5,h6⟩:=qo _ Y
         exact hK _ _ _ _ _ ((ZD w' u).Pq (w0:=w) (fun s b p l=>aB (hM.boxes s b p l)) a5 (hd d rfl) hn h4 rfl h5 B) h6
        ·exact hv.elim
       ·exact hv.elim
      ·exact hv.elim
    ·exact hv.elim
   ·obtain ⟨hc,X⟩:=hv (cX V w) hle
    refine ⟨hc,Calls.mono X ?_⟩
    rintro e w' ⟨r,rfl,u,Y⟩
    obtain ⟨x,A,rfl,I⟩:=Sh.eX sh Y
    have u:fq (fun _=>False) w w':=u
    exact hK (st.put dst x) β _ _ _ ((ZD w' u).Gx hd (kc A _ _) (bT A)) I
  ·rename_i s0 r0 gx
   split at hv
   ·exact hv.elim
   ·rename_i a3
    generalize hL:s0::r0=L at hv gx a3
    have Wq:∀x∈xs,∀s∈x.ids,s∈L:=by
     intro x u s g
     rw [←gx]
     exact e_ 3 _ s (bQ.2 (List.mem_flatMap.2 ⟨x,u,g⟩))
    have O:∀s∈L,∀b,st.boxes s=some b->∀t∈b.cs.ids,t∈L:=fun s g b p=>iA a3 g p
    have S3:∀{R:(Nat->Nat)->Value->View->Prop},(mT L (fun _=>0) fun γ=>iS st.boxes γ (cX V w) L (ab P f (aU γ xs) ((cX V w).bz (L.map (dW st.boxes γ w.heap.size))) (R γ))) ->
      ∃γ,(∀s∈L,γ s=β s)/\(∀s∈L,∃b,st.boxes s=some b)/\ab P f (aU β xs) ((cX V w).bz (L.map (dW st.boxes γ w.heap.size))) (R γ):=by
     intro R hv
     have a1:=kP hv β
     generalize hγ:(fun t=>if t∈L then β t else (fun _=>0) t)=γ at a1
     have D:∀s∈L,γ s=β s:=fun s g=>by rw [←hγ];simp [g]
     have wh:∀s∈L,∀b,st.boxes s=some b->b.obj γ=b.obj β:=fun s g b p=>aR.dG fun t S=>D t (O s g b p t S)
     obtain ⟨z,a7⟩:=wF a1 (by
      intro s g b p l
      rw [D s g,wh s g b p]
      exact ⟨hM.boxes s b p l,aB (hM.boxes s b p l),hM.uP s b p l⟩) (by
      intro s g t S b b' p l b5 l' e
      rw [D s g,D t S] at e
      exact hM.inj s t b b' p l b5 l' e)
     refine ⟨γ,D,z,?_⟩
     have J:aU γ xs=aU β xs:=by
      unfold aU
      rw [List.map_congr_left fun x u=>SV.bR fun s g=>D s (Wq x u s g)]
     rw [←J]
     exact a7
    have M:∀{give:Bool} {mm:Option Nat} {d:Nat} {G:TypeId},dst=some d->(∀k,mm=some k->k∈L)->kC st mm d=true ->
      (∀V':View,V.Le V'->mT L (fun _=>0) fun γ=>iS st.boxes γ V' L (ab P f (aU γ xs) (V'.bz (L.map (dW st.boxes γ V'.w.heap.size))) (cD T give sh L mm d G γ st V' K))) ->
      jm P f/\Calls P f (aU β xs) w fun
       | .returned v,w''=>next (a.put dst v) w''
       | .panicked chain,w''=>Q (.panic chain) a w''
       | .outgrown,_=>LetsOut Q:=by
     intro give mm d G a2 b6 q hv
     obtain ⟨γ,D,z,hc,X⟩:=S3 (R:=fun γ=>cD T give sh L mm d G γ st (cX V w) K) (hv (cX V w) hle)
     refine ⟨hc,Calls.mono X ?_⟩
     rintro e w' ⟨r,rfl,u,Y⟩
     obtain ⟨st',β',V',B,F⟩:=tL hM D O z (hd d a2) b6 q u Y
     rw [a2]
     exact hK _ _ _ _ _ B F
    have Xi:∀k,k∈qH st.boxes L->k∈L:=by
     intro k E
     unfold qH at E
     obtain ⟨s,g,E⟩:=List.mem_flatMap.1 (bQ.1 E)
     split at E
     ·rename_i cs ty p
      refine O s g _ p k ?_
      have:∀cs:List C,k∈pB cs->k∈cs.flatMap C.ids:=by
       intro cs
       induction cs with
       | nil=>exact fun h=>nomatch h
       | cons c r ih=>
        intro h
        rw [List.flatMap_cons,List.mem_append]
        cases c<;>simp only [pB,List.mem_cons] at h<;>first
         | exact .inr (ih h)
         | (rcases h with h|h
            ·left;simp [C.ids,h]
            ·exact .inr (ih h))
      exact this cs E
     ·cases E
    have Vp:∀k,k∈ml xs->k∈L:=by
     intro k E
     have:∀xs:List SV,k∈ml xs->∃x∈xs,k∈x.ids:=by
      intro xs
      induction xs with
      | nil=>exact fun h=>nomatch h
      | cons x r ih=>
       intro h
       unfold ml at h
       split at h
       ·rename_i heq;cases heq
       ·rename_i s n c r' heq;cases heq;exact ⟨.c (.jX s n c),List.mem_cons_self,h⟩
       ·rename_i s n c r' heq;cases heq;exact ⟨.c (.mY s 0 n c),List.mem_cons_self,h⟩
       ·cases h
       ·rename_i heq;cases heq
        obtain ⟨y,hy,E⟩:=ih h
        exact ⟨y,by simp [hy],E⟩
     obtain ⟨x,u,E⟩:=this xs E
     exact Wq x u k E
    split at hv
    ·exact hv.elim
    ·exact hv.elim
    ·
     split at hv
     ·split at hv
      ·exact hv.elim
      ·rename_i q;exact M rfl (fun k E=>by cases E) q hv
     ·rename_i d G k _ b7 _
      split at hv
      ·exact hv.elim
      ·rename_i q;exact M rfl (fun j hj=>by cases hj;exact Vp k (by rw [b7];simp)) q hv
     ·exact hv.elim
    ·
     split at hv
     ·obtain ⟨γ,D,z,hc,X⟩:=S3 (R:=fun γ r' fr=>sh.ex fun x=>r'=x.den (fun _=>0)/\eM T Option.none γ fr L st fun st'=>K (st'.put dst x) fr.shut) (hv (cX V w) hle)
      refine ⟨hc,Calls.mono X ?_⟩
      rintro e w' ⟨r,rfl,u,Y⟩
      obtain ⟨x,A,rfl,I⟩:=Sh.eX sh Y
      have u:fq (fun b=>b∈L.map (dW st.boxes γ w.heap.size)/\(cX V w).H b) w w':=u
      generalize hV1:(((cX V w).bz (L.map (dW st.boxes γ w.heap.size))).to w' u.size)=V2 at I
      have Wt:V2.w=w':=by rw [←hV1];rfl
      have Sg:∀b,(b∈L.map (dW st.boxes γ w.heap.size)/\(cX V w).H b)->∃s∈L,∃W,st.boxes s=some W/\W.live/\β s=b:=by
       rintro b ⟨B,F⟩
       obtain ⟨s,g,W,N,l0,he⟩:=wD z B F.1
       exact ⟨s,g,W,N,l0,by rw [←D s g];exact he⟩
      have IW:∀b o,V2.shut.bI b o->w'.heap[b]?=some o/\¬(b<w.heap.size/\∀o,¬V.bI b o):=by
       rintro b o ⟨B,F⟩
       rw [←hV1] at B F
       exact ⟨F,B⟩
      have sr:∀s b,st.boxes s=some b->b.live->∀o,¬V2.shut.bI (β s) o:=fun s b p l o ho=>
       (IW _ o ho).2 ⟨aB (hM.boxes s b p l),hM.uP s b p l⟩
      have Ur:Mod n V0 bH β0 (kq st L 0) β a w' V2.shut:=by
       refine (hM.Mj (L:=L) (ty:=0)).later u ?_ ?_ ?_ ?_
       ·intro t b p l hX
        rw [bF] at p
        split at p
        ·cases p;exact gO l
        ·rename_i S
         obtain ⟨s,g,W,N,l0,he⟩:=Sg _ hX
         exact S (hM.inj s t W b N l0 p l he▸g)
       ·intro i hi hX
        obtain ⟨s,g,W,N,l0,rfl⟩:=Sg _ hX
        rcases hM.own s W N l0 with h|h
        ·omega
        ·exact hM.kS _ h.2
       ·intro b o h
        obtain ⟨B,F⟩:=IW b o h
        refine ⟨B,fun hH=>?_⟩
        by_cases Z:b<w.heap.size
        ·exact F ⟨Z,fun o' a0=>(hM.pV b o' a0).2 hH⟩
        ·have:=V0.hH b hH;omega
       ·intro t b p l
        rw [bF] at p
        split at p
        ·cases p;exact absurd l gO
        ·exact sr t b p l
      have jD:=wE I
      obtain ⟨st',g1,g2,g3,g4⟩:=mj (a:=a) (w:=w') (V:=V2.shut) (γ:=γ) (β:=β) Wt D
       (by
        intro s g s' a4 he
        obtain ⟨b1,e1,l1⟩:=jD s g
        obtain ⟨b2,e2,l2⟩:=jD s' a4
        exact hM.inj s s' b1 b2 e1 l1 e2 l2 he)
       (by intro s g;obtain ⟨b1,e1,l1⟩:=jD s g;exact sr s b1 e1 l1)
       (by intro s g;obtain ⟨b1,e1,l1⟩:=jD s g;exact hM.own s b1 e1 l1)
       L st (kq st L 0) (fun _ h=>h) Ur nZ.symm (by intro t S;rw [bF,if_neg S])
       (by intro s g;rw [bF,if_pos g];exact ⟨_,rfl⟩)
       (by
        intro t b S l Nk s g he
        rw [bF,if_neg Nk] at S
        obtain ⟨b1,e1,l1⟩:=jD s g
        exact Nk (hM.inj t s b b1 S l e1 l1 he▸g))
       (by
        intro s g b p t S
        have OL:=O s g b p t S
        exact ⟨by rw [bF,if_pos OL];exact ⟨_,rfl⟩,D t OL⟩)
       (fun m nb e=>by cases e) I
      exact hK _ _ _ _ _ (g1.Gx hd (kc A _ _) (bT A)) g4
     ·rename_i k b8
      split at hv
      ·rename_i d G _
       split at hv
       ·exact hv.elim
       ·rename_i q;exact M rfl (fun j hj=>by cases hj;exact Xi k (by rw [b8];simp)) q hv
      ·exact hv.elim
     ·exact hv.elim
    ·
     split at hv
     ·exact hv.elim
     ·rename_i U
      rw [List.all_eq_true] at U
      let Vr:View:=⟨w,fun b=>(b<w.heap.size/\∀o,¬V.bI b o)/\¬∃s∈L,∃W,st.boxes s=some W/\W.live/\β s=b,fun _=>False,fun _ h=>h.1.1,fun _ h=>h.elim⟩
      have a8:V.Le Vr:=fun b o p=>⟨fun h=>h.1.2 o p,(hM.pV b o p).1⟩
      have a1:=kP (hv Vr a8) β
      generalize hγ:(fun t=>if t∈L then β t else (fun _=>0) t)=γ at a1
      have D:∀s∈L,γ s=β s:=fun s g=>by rw [←hγ];simp [g]
      obtain ⟨z,hc,X⟩:=lC a1 (by
       intro s g b p l
       rw [D s g,aR.dG fun t S=>D t (iA a3 g p t S)]
       exact ⟨fun h=>h.2 ⟨s,g,b,p,l,rfl⟩,hM.boxes s b p l⟩)
      refine ⟨hc,?_⟩
      have J:aU γ xs=aU β xs:=by
       unfold aU
       rw [List.map_congr_left fun x u=>SV.bR fun s g=>D s (Wq x u s g)]
      rw [J] at X
      refine Calls.mono X ?_
      rintro e w' ⟨r,rfl,u,Y⟩
      obtain ⟨x,A,rfl,I⟩:=Sh.eX sh Y
      have u:fq (fun _=>False) w w':=u
      refine hK ((st.rel L γ (C.den β)).put dst x) β _ _ _ ?_ (I (C.den β))
      have IV:=hM.rel (L:=L) (β':=γ) D
      have b9:Mod n V0 bH β0 (st.rel L γ (C.den β)) β a w' (Vr.to w' u.size):=by
       refine IV.later u (fun _ _ _ _ h=>h) (fun _ _ h=>h.elim) ?_ ?_
       ·rintro b o ⟨B,F⟩
        refine ⟨F,fun hH=>?_⟩
        by_cases Z:b<w.heap.size
        ·apply B
         refine ⟨⟨Z,fun o' a0=>(hM.pV b o' a0).2 hH⟩,fun hm=>?_⟩
         obtain ⟨s,g,W,N,l0,rfl⟩:=hm
         rcases hM.own s W N l0 with h|h
         ·have:=V0.hH _ hH;omega
         ·have:=Nat.le_of_ble_eq_true (U s g);omega
        ·have:=V0.hH b hH;omega
       ·rintro s b p l o ⟨B,-⟩
        obtain ⟨c0,y,hy,rfl⟩:=gi p
        have ly:=aR.fF l
        refine B ⟨⟨aB (hM.boxes s y hy ly),hM.uP s y hy ly⟩,fun hm=>?_⟩
        obtain ⟨s',a4,bs,c1,ls,he⟩:=hm
        exact c0 (hM.inj s' s bs y c1 ls hy ly he▸a4)
      exact b9.Gx hd (kc A _ _) (bT A)
theorem Mod.release (hM:Mod n V0 bH β0 st β a w V){l:List Nat}{K:St->View->Prop}(hv:Ig l st V K):∃st' V',Mod n V0 bH β0 st' β a w V'/\V.Le V'/\K st' V':=by
 unfold Ig at hv
 split at hv
 ·exact ⟨st,V,hM,fun _ _ h=>h,hv⟩
 ·rename_i G H
  split at hv
  ·exact hv.elim
  ·rename_i k
   generalize hL:G::H=L at hv k
   rw [Bool.and_eq_true,List.all_eq_true] at k
   obtain ⟨m,d⟩:=k
   let Vr:View:=⟨w,fun b=>(b<w.heap.size/\∀o,¬V.bI b o)/\¬∃s∈L,∃j,st.boxes s=some j/\j.live/\β s=b,fun _=>False,fun _ h=>h.1.1,fun _ h=>h.elim⟩
   have e:V.Le Vr:=fun b o f=>⟨fun h=>h.1.2 o f,(hM.pV b o f).1⟩
   have i:=kP (hv Vr e) β
   generalize hγ:(fun t=>if t∈L then β t else (fun _=>0) t)=γ at i
   have p:∀s∈L,γ s=β s:=fun s g=>by rw [←hγ];simp [g]
   obtain ⟨q,I⟩:=lC i (by
    intro s g b f l
    rw [p s g,aR.dG fun t J=>p t (iA m g f t J)]
    exact ⟨fun h=>h.2 ⟨s,g,b,f,l,rfl⟩,hM.boxes s b f l⟩)
   have c:=hM.rel (L:=L) (β':=γ) p
   refine ⟨_,Vr,?_,e,I (C.den β)⟩
   refine ⟨c.defers,c.size,c.aw,c.Ab,c.Aa,c.boxes,c.inj,?_,?_,c.ext,c.own,c.mU,c.kS,hM.small⟩
   ·rintro b o ⟨r,F⟩
    refine ⟨F,fun hH=>?_⟩
    have u:=aB F
    apply r
    refine ⟨⟨u,fun M v=>(hM.pV b M v).2 hH⟩,fun hm=>?_⟩
    obtain ⟨s,g,j,x,N,rfl⟩:=hm
    rcases hM.own s j x N with h|h
    ·have:=V0.hH _ hH;omega
    ·have:=Nat.le_of_ble_eq_true (d s g);omega
   ·rintro s b f l o ⟨r,-⟩
    obtain ⟨z,y,A,rfl⟩:=gi f
    have B:=aR.fF l
    refine r ⟨⟨aB (hM.boxes s y A B),hM.uP s y A B⟩,fun hm=>?_⟩
    obtain ⟨O,D,P,E,ls,he⟩:=hm
    exact z (hM.inj O s P y E ls A B he▸D)
theorem xl {bx:Nat->Option aR}{β:Nat->Nat}:∀{xs xs':List SV} {vs:List Value} {c:Nat},mH bx xs=some (vs,c,xs')->c=0->xs'.map (SV.den β)=xs.map (SV.den β)
 | [],_,_,_,h,_=>nomatch h
 | x::r,xs',vs,c,h,hc=>by
  simp only [mH] at h
  split at h
  ·split at h
   ·cases h
    subst hc
    simp [SV.den,C.den,mA]
   ·cases h
  ·split at h
   ·rename_i e
    cases h
    rw [List.map_cons,List.map_cons,xl e hc]
   ·cases h
theorem xo {bx:Nat->Option aR}:∀{xs xs':List SV} {vs:List Value} {c:Nat},mH bx xs=some (vs,c,xs')->∀t∈xs'.flatMap SV.ids,t∈xs.flatMap SV.ids
 | [],_,_,_,h=>nomatch h
 | x::r,xs',vs,c,h=>by
  simp only [mH] at h
  split at h
  ·split at h
   ·cases h
    intro t ht
    simp only [List.flatMap_cons,SV.ids,C.ids,List.mem_append] at ht ⊢
    right
    simpa using ht
   ·cases h
  ·split at h
   ·rename_i e
    cases h
    intro t ht
    rw [List.flatMap_cons,List.mem_append] at ht ⊢
    exact ht.imp_right (xo e t)
   ·cases h
theorem qS {bx bx':Nat->Option aR}:∀{xs:List SV},(∀s∈xs.flatMap SV.ids,bx' s=bx s)->mH bx' xs=mH bx xs
 | [],_=>rfl
 | x::r,h=>by
  have ih:=qS (xs:=r) fun s a=>h s (by rw [List.flatMap_cons];exact List.mem_append_right _ a)
  simp only [mH]
  rw [ih]
  split
  ·rename_i s n c
   rw [h s (by rw [List.flatMap_cons];exact List.mem_append_left _ (by simp [SV.ids,C.ids]))]
  ·rfl
theorem vK (hM:Mod n V0 bH β0 st β a w V){m:CM}{f:FuncId}{xs:List SV}{ty:TypeId}{dst:Option Nat}{K:St->View->Prop}{next:Act->World->Prop}{Q:Exit->Act->World->Prop}
  (hd:∀d,dst=some d->d<n)(hv:kJ P T m f xs ty dst st V K)
  (hK:∀st' β' a' w' V',Mod n V0 bH β0 st' β' a' w' V'->K st' V'->next a' w') :
  jm P f/\Calls P f (aU β xs) w fun
   | .returned v,w''=>next (a.put dst v) w''
   | .panicked chain,w''=>Q (.panic chain) a w''
   | .outgrown,_=>LetsOut Q:=by
 unfold kJ at hv
 split at hv
 ·split at hv
  ·rename_i b c g e
   by_cases h:b=[]
   ·obtain ⟨i,j⟩:=hv.1 h
    have:=ka (Q:=Q) hM hd j hK
    unfold aU at this ⊢
    rw [xl e i] at this
    exact this
   ·exact ka hM hd (hv.2 h) hK
  ·exact ka hM hd hv hK
 ·exact ka hM hd hv hK
end Go.bM
