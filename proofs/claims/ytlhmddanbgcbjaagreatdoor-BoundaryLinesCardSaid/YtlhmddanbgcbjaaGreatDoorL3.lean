import Derived.Test.YtlhmddanbgcbjaaGreatDoorL2
set_option linter.all false
open Go.IntKind (i64 u64 u32)
namespace Go.Eng
variable {P:Program} {T:eu} {n:Nat} {V0:View} {bQ:J8} {β0:Nat->Nat} {st:St} {β:Nat->Nat} {a:Act} {w:World} {V:View}
def dW {x:Nat}{l:pz Nat}:iQ x l=true↔x∈l:=by
 induction l with
 | nil=>simp [iQ]
 | cons y r ih=>
  simp only [iQ,Qq5];grind [beq_eq.1,Nat.beq_refl]
theorem oA {x:Nat}{l:pz Nat}:iQ x l=false↔x∉l:=by rw [←dW];cases iQ x l<;>simp
def H0 {l m:pz Nat}:Db l m=true↔∀x∈l,x∉m:=by unfold Db;grind [oA]
theorem C.jy {L:pz Nat}{β':Nat->Nat}(hβ:∀s∈L,β' s=β s)(c:C):(c.rel L β' (C.den β)).den β=c.den β/\∀s∈(c.rel L β' (C.den β)).ids,s∈c.ids/\s∉L:=by cases c<;>grind [C.rel,C.den,dW.1,C.ids,oA.1,H0.1]
def uN {L:pz Nat}{β':Nat->Nat}(hβ:∀s∈L,β' s=β s)(cs:pz C) :
  (cs.map (C.rel L β' (C.den β))).map (C.den β)=cs.map (C.den β)/\∀s∈(cs.map (C.rel L β' (C.den β))).flatMap C.ids,s∈cs.flatMap C.ids/\s∉L:=by refine ⟨?_,λs a=>?_⟩;{rw [List.map_map];exact Qv2 λc _=>(C.jy hβ c).1};{grind [C.jy]}
theorem SV.jy {L:pz Nat}{β':Nat->Nat}(hβ:∀s∈L,β' s=β s)(x:SV):(x.rel L β' (C.den β)).den β=x.den β/\∀s∈(x.rel L β' (C.den β)).ids,s∈x.ids/\s∉L:=by
 cases x with
 | c c=>exact C.jy hβ c
 | agg cs=>
  have ⟨a,d⟩:=uN hβ cs;exact ⟨by simp only [SV.rel,SV.den,a],d⟩
 | vL xs=>
  refine ⟨?_,λs e=>?_⟩
  ·simp only [SV.rel,SV.den,List.map_map];congr 2;apply Qv2;rintro ⟨b,cs⟩ -
   have a:=(uN hβ cs).1
   cases b with
   | true=>simp only [Function.comp,j8,a]
   | false=>
    match cs with
    | []=>rfl
    | [x]=>simp only [Function.comp,Qn3,List.map_nil,j8];exact (C.jy hβ x).1
    | _::_::_=>rfl
  ·have ⟨i,f,e⟩:=Qy1.1 e;obtain ⟨y,g,rfl⟩:=Qz1.1 f;obtain ⟨a,d⟩:=(uN hβ y.2).2 s e;exact ⟨Qy1.2 ⟨y,g,a⟩,d⟩
theorem aW.jy {L:pz Nat}{β':Nat->Nat}(hβ:∀s∈L,β' s=β s)(b:aW):(b.rel L β' (C.den β)).obj β=b.obj β/\∀s∈(b.rel L β' (C.den β)).cs.ids,s∈b.cs.ids/\s∉L:=by obtain ⟨cs,ty⟩:=b;(cases cs with|lit cs=>{have ⟨c,d⟩:=uN hβ cs;exact ⟨by simp only [aW.rel,aW.obj,Cells.den,c],d⟩}|row vs=>{exact ⟨rfl,λs a=>by cases a⟩}|aB vs=>{exact ⟨rfl,λs a=>by cases a⟩})
theorem aW.iJ {L:pz Nat}{β':Nat->Nat}{J:C->un}{b:aW}(h:(b.rel L β' J).live):b.live:=by obtain ⟨cs,ty⟩:=b;(cases cs with|aB vs=>exact h|_=>grind [dM,dN])
theorem EU {L:pz Nat}{β':Nat->Nat}{J:C->un}{t:Nat}{x:SV}(h:(st.rel L β' J).ax t=some x):∃y,st.ax t=some y/\x=y.rel L β' J:=by grind [St.rel]
theorem jg {L:pz Nat}{β':Nat->Nat}{J:C->un}{t:Nat}{x:aW}(h:(st.rel L β' J).boxes t=some x):t∉L/\∃y,st.boxes t=some y/\x=y.rel L β' J:=by grind [St.rel,oA.1]
theorem iJ {L:pz Nat}{β':Nat->Nat}{J:C->un}{t:Nat}(h:∃b,st.boxes t=some b)(hn:t∉L):∃b,(st.rel L β' J).boxes t=some b:=by obtain ⟨b,a⟩:=h;refine ⟨b.rel L β' J,?_⟩<;>grind [St.rel,oA.2]
theorem Mod.rel (h:Mod n V0 bQ β0 st β a w V){L:pz Nat}{β':Nat->Nat}(hβ:∀s∈L,β' s=β s):Mod n V0 bQ β0 (st.rel L β' (C.den β)) β a w V where
 defers:=h.defers
 size:=h.size
 ax:=by grind [EU,h.ax,SV.jy]
 CL:=by
  intro t x i s d;obtain ⟨y,c,rfl⟩:=EU i;obtain ⟨e,f⟩:=(SV.jy hβ y).2 s d;exact iJ (h.CL t y c s e) f
 CK:=by intro t b g s d;obtain ⟨-,y,c,rfl⟩:=jg g;obtain ⟨e,f⟩:=(aW.jy hβ y).2 s d;exact iJ (h.CK t y c s e) f
 boxes:=by grind [jg,h.boxes,aW.iJ,aW.jy]
 inj:=by grind [jg,h.inj,aW.iJ]
 qZ:=h.qZ
 yg:=by grind [jg,h.yg,aW.iJ]
 ext:=h.ext
 own:=by intro t b g l;obtain ⟨-,y,c,rfl⟩:=jg g;exact h.own t y c (aW.iJ l)
 nJ:=h.nJ
 my:=h.my
 small:=h.small
def Mod.jW (h:Mod n V0 bQ β0 st β a w V){d g:Nat}{b:aW}(hd:d<n\/200000<=d)(hn:st.boxes d=none)(lf:b.cs.ids=[])
  (hg:∀s b',st.boxes s=some b'->b'.live->β s≠g)(hV:∀o,¬V.bg g o)(hown:V0.w.heap.size<=g\/(100000<=d/\bQ.B g)){w':World}
  (hw:w'.heap[g]?=some (b.obj β))(hk:∀i,i<w.heap.size->i≠g->w'.heap[i]?=w.heap[i]?)(hsz:w.heap.size<=w'.heap.size)(hos:w'.os=w.os)(ht:w'.tape=w.tape)(hout:w'.output=w.output)(hdr:w.drawn<=w'.drawn:=by first|exact Qq2 _|exact Wk6 _) :
  Mod n V0 bQ β0 (st.box d b) (dq β d g) a w' V:=by have u:∀s b',st.boxes s=some b'->s≠d:=λs b' c e=>by{rw [e,hn] at c;cases c};have hβ:∀s b',st.boxes s=some b'->dq β d g s=β s:=λs b' c=>iM _ _ (u s b' c);have v:∀s b',st.boxes s=some b'->b'.live->β s<w.heap.size:=λs b' c l=>aG (h.boxes s b' c l);have C:∀b' o,V.bg b' o->b'<w.heap.size:=λb' o D=>aG (h.qZ b' o D).1;refine ⟨h.defers,h.size,?_,?_,?_,?_,?_,?_,?_,?_,?_,?_,h.my,h.small⟩;{intro t x p;rw [h.ax t x p];exact SV.bZ λs c=>by{have ⟨b',f⟩:=h.CL t x p s c;exact (hβ s b' f).symm}};{intro t x p s c;have ⟨b',f⟩:=h.CL t x p s c;grind [aj]};{grind [aj,h.CK]};{intro s b' c l;rw [aj] at c;split at c;{rename_i e;simp only [Qw1] at c;rw [e,aZ,hw,←c];grind [aW.dG]};{rw [hβ s b' c,hk _ (v s b' c l) (hg s b' c l),h.boxes s b' c l];grind [aW.dG,h.CK]}};{intro s y z A j E k F he;rw [aj] at j k;split at j<;>split at k;{rename_i q r;rw [q,r]};{rename_i q r;rw [q,aZ,hβ y A k] at he;exact absurd he.symm (hg y A k F)};{rename_i q r;rw [r,aZ,hβ s z j] at he;exact absurd he (hg s z j E)};grind [h.inj]};{grind [h.qZ]};{intro s b' c l o m;rw [aj] at c;split at c;{rename_i e;rw [e,aZ] at m;exact hV o m};grind [h.yg]};{refine ⟨Qw7 h.ext.size hsz,λi G H=>?_,hos.m h.ext.os,ht.m h.ext.tape,hout.m h.ext.out,Qw7 h.ext.dr hdr⟩<;>grind [h.my,h.ext.bg]};{intro s b' c l;rw [aj] at c;split at c;{rename_i e;rw [e,aZ];exact hown};{rw [hβ s b' c];exact h.own s b' c l}};{intro s c;have ⟨j,k⟩:=h.nJ s c;grind [iM,h.small]}
theorem D7 {t t' e e':TypeId}{ty:TypeId}(ht:P.underlying t=some (.slice e))(Ie:P.underlying t'=some (.slice e'))(b xa:OA)(m c k xc:Nat) :
  (Builtin.append_ #[t,t'] ty #[.slice b m c,.slice xa k xc]).run P w=(Builtin.append_ #[t,t] ty #[.slice b m c,.slice xa k xc]).run P w:=by simp [Builtin.append_,ai ht,ai Ie]
theorem zO {t e:TypeId}{ty:TypeId}{info:TypeInfo}(ht:P.underlying t=some (.slice e))(hi:P.info? e=some info)(base:OA)(m c c':Nat)(hc:m<=c) :
  (Builtin.append_ #[t,t] ty #[.slice base m c,.slice none 0 c']).run P w=.ok (.slice base m c) w:=by cases base<;>simp [Builtin.append_,ai ht,aR hi,Builtin.lenOf,Builtin.firstCells,storeCells,hc]
def pk (hM:Mod n V0 bQ β0 st β a w V){s:Nat}{vs:pz un}{ty:TypeId}(h:fV st.boxes s=some vs)(ht:mR st.boxes s=some ty):w.heap[β s]?=some (.cells vs.toArray ty (0,0))/\∃b,st.boxes s=some b/\b.live:=by unfold fV at h;unfold mR at ht;split at h;{rename_i cs d c;rw [c] at ht;simp only [Qw1] at ht;subst ht;have:=hM.row c dM;grind [Cells.den,gj,dM]};{rename_i ws d c;rw [c] at ht;simp only [Qw1,Qw1] at ht h;subst ht;subst h;exact ⟨hM.row c dN,_,c,dN⟩};{cases h}
def Kd {bx:Nat->Option aW}{s:Nat}{vs:pz un}(h:fV bx s=some vs):∃ty,mR bx s=some ty:=by unfold fV at h;unfold mR;split at h;{rename_i a;rw [a];exact ⟨_,rfl⟩};{rename_i a;rw [a];exact ⟨_,rfl⟩};{cases h}
theorem BF (hM:Mod n V0 bQ β0 st β a w V){ad:Addr}{xs:pz un}(h:V.sl (some ad) xs):∀j v,xs[j]?=some v->w.cell? (ad.add j)=some v:=by intro j v b;have ⟨d,e,c⟩:=h j v b;grind [hM.atV]
def Src (w:World)(xa:OA)(k size:Nat)(xs:List Value):Prop:=
 xs.length=k*size/\(∀v∈xs,v.oneCell'=true)/\((∃ad,xa=some ad/\∀j v,xs[j]?=some v->w.cell? (ad.add j)=some v)\/xa=none/\k=0)
def PC {t e ty:TypeId}{info:TypeInfo}(ht:P.underlying t=some (.slice e))(hi:P.info? e=some info){g m c k xc:Nat}{vs xs:pz un}{xa:OA}
  (hg:w.heap[g]?=some (.cells vs.toArray e (0,0)))(hx:Src w xa k info.size xs)(hc:m+k<=c)(hv:c*info.size<=vs.length) :
  ∃w',(Builtin.append_ #[t,t] ty #[.slice (some ⟨g,0,none⟩) m c,.slice xa k xc]).run P w=.ok (.slice (some ⟨g,0,none⟩) (m+k) c) w' /\
   w'.heap=w.heap.setIfInBounds g (.cells (vs.take (m*info.size)++xs++vs.drop (m*info.size+xs.length)).toArray e (0,0))/\w'.os=w.os/\w'.tape=w.tape/\w'.output=w.output/\w.drawn<=w'.drawn:=by obtain ⟨d,f,hx⟩:=hx;rcases hx with ⟨h,rfl,a⟩|⟨rfl,rfl⟩;{have b:m*info.size+xs.length<=vs.length:=by{rw [d,←Qk1];exact Qw7 (Qw0 _ hc) hv};have i:=run_append_room (P:=P) w t ty e info ht hi g m c vs.toArray hg h k xc xs d a f hc (by simpa using b);exact ⟨_,i,by rw [lH hg],rfl,rfl,rfl,Qq2 _⟩};{grind [zO,List.take_append_drop]}
def D6 {t e ty:TypeId}{info:TypeInfo}{z:un}(ht:P.underlying t=some (.slice e))(hi:P.info? e=some info)(hz:info.zero=some z)(hzs:z.cells.size=info.size)
  {m c k xc:Nat}{olds xs:pz un}{base xa:OA}
  (hbase:(∃b,base=some b/\olds.length=m*info.size/\∀j v,olds[j]?=some v->w.cell? (b.add j)=some v)\/base=none/\m=0/\c=0/\olds=[])
  (hx:Src w xa k info.size xs)(hc:c<m+k)(hb:(m+k)*info.bytes<=140737488355328)(hb0:info.bytes≠0)(hmc:m<=c) :
  ∃(c':Nat)(rest:pz un)(w':World),m+k<=c'/\(m+k)*info.size+rest.length=c'*info.size/\w'.heap=w.heap/\w'.os=w.os/\w'.tape=w.tape/\w'.output=w.output/\w.drawn<=w'.drawn /\
   (Builtin.append_ #[t,t] ty #[.slice base m c,.slice xa k xc]).run P w=.ok (.slice (some ⟨w.heap.size,0,none⟩) (m+k) c') (w'.alloc (.cells (olds++xs++rest).toArray e)):=by obtain ⟨h,n,hx⟩:=hx;have f:(m+k:Nat)<=140737488355328:=by{have:(m+k)*1<=(m+k)*info.bytes:=Qz8 _ (by omega);omega};have a:∀N,(m+k)<=N->(m+k)*info.size+(Builtin.zeroCells z.cells (N-(m+k))).toList.length=N*info.size:=by{intro N o;rw [Wq7,size_zeroCells,hzs,←Qk1];congr 1;omega};rcases hx with ⟨i,rfl,d⟩|⟨rfl,rfl⟩;{rcases hbase with ⟨b,rfl,l,hold⟩|⟨rfl,rfl,rfl,rfl⟩;{have g:=run_append_grow (P:=P) w t ty e info z ht hi hz b m c olds l hold i k xc xs h d hc (by omega) (growslice_fits hc hb);refine ⟨_,(Builtin.zeroCells z.cells (grownCap w (m+k) c e-(m+k))).toList,w.drew,grownCap_ge w (m+k) c e,a _ (grownCap_ge w (m+k) c e),rfl,rfl,rfl,rfl,Wk6 _,?_⟩;rw [g];congr 3;apply Qd7;simp};{simp only [Qz2] at hc hb f a ⊢;have g:=run_append_nil (P:=P) w t ty e info z ht hi hz i k xc xs h d (by omega) (by omega) (by omega);refine ⟨_,(Builtin.zeroCells z.cells (grownCap w k 0 e-k)).toList,w.drew,grownCap_ge w k 0 e,a _ (grownCap_ge w k 0 e),rfl,rfl,rfl,rfl,Wk6 _,?_⟩;rw [g];congr 3;apply Qd7;simp}};{omega}
def FY {s d n:Nat}(hd:d<n):rK s d<n\/200000<=rK s d:=by unfold rK;grind
theorem MI {s d:Nat}(hs:100000<=s):100000<=rK s d:=by unfold rK;have:Nat.blt s 100000=false:=by{(cases h:Nat.blt s 100000 with|false=>rfl|true=>{have:=Qk0 h;omega})};grind
def Hm (hM:Mod n V0 bQ β0 st β a w V){d:Nat}(hd:d<n){t e ty:TypeId}{info:TypeInfo}{z:un}
  (ht:P.underlying t=some (.slice e))(hi:P.info? e=some info)(hz:info.zero=some z)(hzs:z.cells.size=info.size)(hb0:info.bytes≠0)
  {s:Nat}{vs xs:pz un}{m c k xc:Nat}{base xa:OA}
  (hbase:(base=some ⟨β s,0,none⟩/\w.heap[β s]?=some (.cells vs.toArray e (0,0))/\∃b,st.boxes s=some b/\b.live)\/(base=none/\m=0/\c=0/\k≠0))
  (hx:Src w xa k info.size xs)(hb:(m+k)*info.bytes<=140737488355328)(hmc:m<=c)(hcv:c*info.size<=vs.length)(hxl:xs.length=k*info.size)(hnb:st.boxes (rK s d)=none) :
  ∃(spare:pz un)(c' g:Nat)(w':World),m+k<=c'/\c'*info.size<=(m+k)*info.size+spare.length/\((c≠0\/k≠0)->c'≠0) /\
   (Builtin.append_ #[t,t] ty #[.slice base m c,.slice xa k xc]).run P w=.ok (.slice (some ⟨g,0,none⟩) (m+k) c') w' /\
   ∀bx:aW,(bx=⟨.row (vs.take (m*info.size)++xs++spare),e⟩\/bx=⟨.aB (vs.take (m*info.size)++xs++spare),e⟩) ->
    Mod n V0 bQ β0 ((st.box s ⟨.aB [],e⟩).box (rK s d) bx) (dq β (rK s d) g) a w' V:=by
 have y:Mod n V0 bQ β0 (st.box s ⟨.aB [],e⟩) β a w V:=hM.void
 have C:∀bx:aW,∀l:pz un,(bx=⟨.row l,e⟩\/bx=⟨.aB l,e⟩)->bx.cs.ids=[]/\bx.obj β=.cells l.toArray e (0,0):=by rintro bx l (rfl|rfl)<;>exact ⟨rfl,rfl⟩
 have I:∀t b,(st.box s ⟨.aB [],e⟩).boxes t=some b->b.live->st.boxes t=some b/\t≠s:=by grind [aj,fQ]
 have J:(∃b,st.boxes s=some b/\b.live)\/True->(s≠rK s d\/st.boxes s=none)->(st.box s ⟨.aB [],e⟩).boxes (rK s d)=none\/s=rK s d:=by grind [aj]
 have h:c<m+k->((∃b,base=some b/\(vs.take (m*info.size)).length=m*info.size/\∀j v,(vs.take (m*info.size))[j]?=some v->w.cell? (b.add j)=some v)\/base=none/\m=0/\c=0/\vs.take (m*info.size)=[]) ->
   (s=rK s d->st.boxes s=none) ->
   ∃(spare:pz un)(c' g:Nat)(w':World),m+k<=c'/\c'*info.size<=(m+k)*info.size+spare.length/\((c≠0\/k≠0)->c'≠0) /\
   (Builtin.append_ #[t,t] ty #[.slice base m c,.slice xa k xc]).run P w=.ok (.slice (some ⟨g,0,none⟩) (m+k) c') w' /\
   ∀bx:aW,(bx=⟨.row (vs.take (m*info.size)++xs++spare),e⟩\/bx=⟨.aB (vs.take (m*info.size)++xs++spare),e⟩) ->
    Mod n V0 bQ β0 ((st.box s ⟨.aB [],e⟩).box (rK s d) bx) (dq β (rK s d) g) a w' V:=by
  intro D hold K;have ⟨c',rest,w',L,W,B,F,p,q,r,M⟩:=D6 (ty:=ty) (xc:=xc) ht hi hz hzs hold hx D hb hb0 hmc;refine ⟨rest,c',w.heap.size,_,L,by rw [←W];exact Qq2 _,by omega,M,?_⟩;intro bx f;have ⟨G,H⟩:=C bx _ f;have u:w'.heap.size=w.heap.size:=by rw [B]
  by_cases X:s=rK s d
  ·have Y:(st.box s ⟨.aB [],e⟩).box (rK s d) bx=st.box (rK s d) bx:=by{grind [St.box]};rw [Y];refine hM.jW (FY hd) hnb G ?_ ?_ (.inl hM.ext.size) ?_ ?_ ?_ F p q r;{intro N O f l he;have:=aG (hM.boxes N O f l);omega};{intro o f;have:=aG (hM.qZ _ o f).1;omega};{rw [H,←u];exact heap_alloc_new _ _};{intro i Q _;rw [fo _ _ (by omega),B]};{simp [u]}
  ·refine y.jW (FY hd) (by rw [aj,if_neg (Ne.symm X)];exact hnb) G ?_ ?_ (.inl hM.ext.size) ?_ ?_ ?_ F p q r;{intro N O f l he;have:=aG (y.boxes N O f l);omega};{intro o f;have:=aG (hM.qZ _ o f).1;omega};{rw [H,←u];exact heap_alloc_new _ _};{intro i Q _;rw [fo _ _ (by omega),B]};{simp [u]}
 rcases hbase with ⟨rfl,S,T,A,E⟩|⟨rfl,rfl,rfl,Z⟩
 ·have x:s≠rK s d:=λe=>by{rw [←e,A] at hnb;cases hnb};by_cases D:m+k<=c;{have ⟨w',M,B,F,p,q,r⟩:=PC (ty:=ty) (xc:=xc) ht hi S hx D hcv;have U:m*info.size+xs.length<=vs.length:=by{rw [hxl,←Qk1];exact Qw7 (Qw0 _ D) hcv};have R:=aG S;refine ⟨vs.drop (m*info.size+xs.length),c,β s,w',D,by rw [Qb5,hxl,Qk1];omega,by omega,M,?_⟩;intro bx f;have ⟨G,H⟩:=C bx _ f;refine y.jW (FY hd) (by rw [aj,if_neg (Ne.symm x)];exact hnb) G ?_ (hM.yg s T A E) ?_ ?_ ?_ (by rw [B];simp) F p q r;{grind [hM.inj]};{rcases hM.own s T A E with L|L<;>grind [MI]};{rw [B,Array.getElem?_setIfInBounds,if_pos rfl,if_pos R,H]};grind};{refine h (by omega) (.inl ⟨⟨β s,0,none⟩,rfl,?_,?_⟩) (λe=>absurd e x);{rw [Qq7,Qj3];exact Qw7 (Qw0 _ hmc) hcv};grind [gJ,cell_of_row]}
 ·refine h (by omega) (.inr ⟨rfl,rfl,rfl,by simp⟩) (λe=>by rw [e];exact hnb)
def zP (hM:Mod n V0 bQ β0 st β a w V){K:St->ut->Prop}{d:Nat}(hd:d<n){t e ty:TypeId}{info:TypeInfo}{z:un}
  (ht:P.underlying t=some (.slice e))(hi:P.info? e=some info)(hz:info.zero=some z)(hzs:z.cells.size=info.size)(hb0:info.bytes≠0)
  {s:Nat}{vs xs:pz un}{m c k xc:Nat}{xa:OA}(hg:w.heap[β s]?=some (.cells vs.toArray e (0,0)))(hbb:∃b,st.boxes s=some b/\b.live)
  (hx:Src w xa k info.size xs)(h:Hk s vs m c info.size info.bytes e d st V K k xs) :
  ∃v w' st' β',(Builtin.append_ #[t,t] ty #[.slice (some ⟨β s,0,none⟩) m c,.slice xa k xc]).run P w=.ok v w'/\Mod n V0 bQ β0 st' β' (a.put (some d) v) w' V/\K st' V:=by obtain ⟨q,f,i,j,r,h⟩:=h;split at h;{exact h.elim};{rename_i l;obtain ⟨spare,p,g,w',u,y,-,A,o⟩:=Hm (ty:=ty) (xc:=xc) hM hd ht hi hz hzs hb0 (.inl ⟨rfl,hg,hbb⟩) hx q f i j l;refine ⟨_,w',_,_,A,(o _ (.inl rfl)).put (x:=.c (.oI (rK s d) 0 (m+k) p)) hd ?_ ?_,h 0 (λ_=>.bool true) spare p u y⟩<;>grind [SV.den,C.den,aZ,SV.ids,C.ids,aj]}
def AY (hM:Mod n V0 bQ β0 st β a w V){K:St->ut->Prop}{d:Nat}(hd:d<n){t e ty:TypeId}{info:TypeInfo}{z:un}
  (ht:P.underlying t=some (.slice e))(hi:P.info? e=some info)(hz:info.zero=some z)(hzs:z.cells.size=info.size)(hb0:info.bytes≠0)(hs0:info.size≠0)
  {s:Nat}{vs xs:pz un}{m c k xc:Nat}{xa:OA}(hbb:st.boxes s=some ⟨.aB vs,e⟩)
  (hx:Src w xa k info.size xs)(h:xE s vs m c info.size info.bytes e d st V K k xs) :
  ∃v w' st' β',(Builtin.append_ #[t,t] ty #[.slice (mA (β s) c) m c,.slice xa k xc]).run P w=.ok v w'/\Mod n V0 bQ β0 st' β' (a.put (some d) v) w' V/\K st' V:=by
 obtain ⟨F,o,p,i,G,h⟩:=h;split at h
 ·exact h.elim
 ·rename_i q
  have fin:((mA (β s) c=some ⟨β s,0,none⟩/\w.heap[β s]?=some (.cells vs.toArray e (0,0))/\∃b,st.boxes s=some b/\b.live)\/(mA (β s) c=none/\m=0/\c=0/\k≠0))->(c≠0\/k≠0) ->
    ∃v w' st' β',(Builtin.append_ #[t,t] ty #[.slice (mA (β s) c) m c,.slice xa k xc]).run P w=.ok v w'/\Mod n V0 bQ β0 st' β' (a.put (some d) v) w' V/\K st' V:=by
   intro f r;have ⟨spare,D,g,w',H,I,J,L,u⟩:=Hm (ty:=ty) (xc:=xc) hM hd ht hi hz hzs hb0 f hx F o p i q;refine ⟨_,w',_,_,L,(u _ (.inr rfl)).put (x:=.c (.eJ (rK s d) (m+k) D)) hd ?_ ?_,h spare D H I⟩
   ·simp [SV.den,C.den,aZ,mA,J r]
   ·grind [SV.ids,C.ids,aj]
  by_cases j:c=0
  ·have hm:m=0:=by{omega};by_cases y:k=0;{subst j hm y;have E:=h [] 0 (by omega) (by simp);have A:xs=[]:=Qw8.1 (by simpa using i);subst A;have M:vs.take (0*info.size)++[]++[]=([]:pz un):=by{simp};rw [M] at E;have B:Mod n V0 bQ β0 ((st.box s ⟨.aB [],e⟩).box (rK s d) ⟨.aB [],e⟩) β a w V:=hM.void.void;refine ⟨.slice none 0 0,w,_,_,?_,B.put (x:=.c (.eJ (rK s d) 0 0)) hd ?_ ?_,E⟩;{have N:mA (β s) 0=none:=rfl;rw [N];(cases xa with|none=>{exact zO ht hi none 0 0 xc (by omega)}|some ad=>simp [Builtin.append_,ai ht,aR hi,Builtin.lenOf,Builtin.firstCells,loadCells,loadCellsFrom])};{simp [SV.den,C.den,mA]};grind [SV.ids,C.ids,aj]};{exact fin (.inr ⟨by rw [j];rfl,hm,j,y⟩) (.inr y)}
  ·have l:aW.live ⟨.aB vs,e⟩:=fZ λO=>by{grind [Nat.mul_eq_zero.1]};exact fin (.inl ⟨by simp [mA,j],hM.row hbb l,_,hbb,l⟩) (.inl j)
def zQ (hM:Mod n V0 bQ β0 st β a w V){K:St->ut->Prop}{d:Nat}(hd:d<n){t e ty:TypeId}{info:TypeInfo}{z:un}
  (ht:P.underlying t=some (.slice e))(hi:P.info? e=some info)(hz:info.zero=some z)(hzs:z.cells.size=info.size)(hb0:info.bytes≠0)
  {vs xs:pz un}{m c k xc:Nat}{xa ba:OA}(hsl:V.sl ba vs)(hvl:vs.length=m*info.size)(hmc:m<=c)(hn0:ba.isNone=true->c=0)(hs0:info.size≠0)
  (hx:Src w xa k info.size xs)(h:Hl vs m c info.size info.bytes e d st V K k xs) :
  ∃v w' st' β',(Builtin.append_ #[t,t] ty #[.slice ba m c,.slice xa k xc]).run P w=.ok v w'/\Mod n V0 bQ β0 st' β' (a.put (some d) v) w' V/\K st' V:=by
 obtain ⟨F,s,G,H,h⟩:=h;have f:(∃b,ba=some b/\vs.length=m*info.size/\∀j v,vs[j]?=some v->w.cell? (b.add j)=some v)\/ba=none/\m=0/\c=0/\vs=[]:=by cases ba<;>grind [BF,List.length_eq_zero_iff.1]
 have ⟨D,rest,w',I,J,E,L,u,y,A,M⟩:=D6 (ty:=ty) (xc:=xc) (base:=ba) (olds:=vs) ht hi hz hzs f hx s F hb0 hmc;split at h
 ·exact h.elim
 ·rename_i N;have O:=h rest D I (by rw [←J];exact Qq2 _);have q:w'.heap.size=w.heap.size:=by rw [E]
  have B:=Mod.jW hM (d:=d) (g:=w.heap.size) (b:=⟨.row (vs++xs++rest),e⟩) (w':=w'.alloc (.cells (vs++xs++rest).toArray e)) (.inl hd) N rfl
   (by
    intro Q R p l he;have:=aG (hM.boxes Q R p l);omega)
   (by intro o p;have:=aG (hM.qZ _ o p).1;omega) (.inl hM.ext.size)
   (by rw [←q];exact heap_alloc_new _ _)
   (by intro i S _;rw [fo _ _ (by omega),E])
   (by simp [q]) L u y A
  refine ⟨_,_,_,_,M,B.put (x:=.c (.oI d 0 (m+k) D)) hd ?_ ?_,O⟩
  ·simp [SV.den,C.den,aZ]
  ·intro T r;simp [SV.ids,C.ids] at r;subst r;exact ⟨_,by rw [aj,if_pos rfl]⟩
end Go.Eng
namespace Go.Eng
variable {P:Program} {T:eu} {n:Nat} {V0:View} {bQ:J8} {β0:Nat->Nat} {st:St} {β:Nat->Nat} {a:Act} {w:World} {V:View}
theorem xJ (ws:pz un)(o n:Nat):(aA ws o n).length=n:=by unfold aA;(cases h:Nat.ble (o+n) ws.length with|true=>{have:=Qk0 h;grind}|false=>simp)
def xI {ws:pz un}{o n:Nat}(h1:∀v∈aA ws o n,v.oneCell'=true){j:Nat}{v:un}(hj:(aA ws o n)[j]?=some v):ws[o+j]?=some v:=by unfold aA at h1 hj;(cases h:Nat.ble (o+n) ws.length with|true=>grind|false=>{rw [h] at hj h1;simp only [cond_false] at hj h1;have hm:=Qv6 hj;have:=h1 v hm;rw [Qr3 hm] at this;cases this})
def Nf (hM:Mod n V0 bQ β0 st β a w V){ei:TI}{info:TypeInfo}(e5:ei.size=info.size){s o k xc:Nat}{src:OA×Nat ⊕ pz un}
  (hsrc:(match st.boxes s with
    | some ⟨.row ws,_⟩=>some (.inr (aA ws o (k*ei.size)))
    | _=>match fV st.boxes s with
     | some ws=>if Nat.ble (o+k*ei.size) ws.length then some (.inr ((ws.drop o).take (k*ei.size))) else none
     | none=>none)=some src) :
  ∃xa k' xc',(SV.c (.oI s o k xc)).den β=.slice xa k' xc'/\((src=.inl (xa,k'))\/∃xs,src=.inr xs/\xs.length=k'*info.size/\∃ad,xa=some ad/\((∀v∈xs,v.oneCell'=true)->∀j v,xs[j]?=some v->w.cell? (ad.add j)=some v)):=by split at hsrc;{rename_i ws ty e;simp only [Qw1] at hsrc;subst hsrc;have b:fV st.boxes s=some ws:=by{unfold fV;rw [e]};have d:mR st.boxes s=some ty:=by{unfold mR;rw [e]};obtain ⟨f,-⟩:=pk hM b d;refine ⟨_,k,xc,rfl,.inr ⟨_,rfl,?_,⟨β s,o,none⟩,rfl,?_⟩⟩;{rw [xJ,←e5]};{intro g j v h;rw [gJ,cell_of_row f];exact xI g h}};{split at hsrc;{rename_i ws b;split at hsrc;{rename_i hle;have hle:=Qk0 hle;simp only [Qw1] at hsrc;subst hsrc;have ⟨i,d⟩:=Kd b;obtain ⟨f,-⟩:=pk hM b d;refine ⟨_,k,xc,rfl,.inr ⟨_,rfl,?_,⟨β s,o,none⟩,rfl,?_⟩⟩<;>grind [gJ,cell_of_row]};{cases hsrc}};{cases hsrc}}
def Jn {xv:un}{src:OA×Nat ⊕ pz un}{sz:Nat}(h:∃xa k' xc',xv=.slice xa k' xc'/\((src=.inl (xa,k'))\/∃xs,src=.inr xs/\xs.length=k'*sz/\∃ad,xa=some ad/\((∀v∈xs,v.oneCell'=true)->∀j v,xs[j]?=some v->w.cell? (ad.add j)=some v))) :
  ∃xa k xc,xv=.slice xa k xc/\((src=.inl (xa,k))\/∃xs,src=.inr xs/\xs.length=k*sz/\((∀v∈xs,v.oneCell'=true)->(∃ad,xa=some ad/\∀j v,xs[j]?=some v->w.cell? (ad.add j)=some v)\/(xa=none/\k=0))):=by obtain ⟨xa,k,xc,e,h⟩:=h;refine ⟨xa,k,xc,e,h.imp id ?_⟩;rintro ⟨xs,a,b,ad,c,d⟩;exact ⟨xs,a,b,λf=>.inl ⟨ad,c,d f⟩⟩
def Jm (hM:Mod n V0 bQ β0 st β a w V){ei:TI}{info:TypeInfo}(e5:ei.size=info.size)(hz:¬ei.size=0){s k xc:Nat}{src:OA×Nat ⊕ pz un}
  (hsrc:(match st.boxes s with
    | some ⟨.aB ws,_⟩=>some (.inr (qg ws k xc ei.size))
    | _=>none)=some src) :
  ∃xa k' xc',(SV.c (.eJ s k xc)).den β=.slice xa k' xc'/\((src=.inl (xa,k'))\/∃xs,src=.inr xs/\xs.length=k'*info.size/\((∀v∈xs,v.oneCell'=true)->(∃ad,xa=some ad/\∀j v,xs[j]?=some v->w.cell? (ad.add j)=some v)\/(xa=none/\k'=0))):=by split at hsrc;{rename_i ws ty g;simp only [Qw1] at hsrc;subst hsrc;refine ⟨_,k,xc,rfl,.inr ⟨_,rfl,?_,λb=>?_⟩⟩;{unfold qg;grind [xJ]};{unfold qg at b ⊢;by_cases m:xc=0;{subst m;(cases k with|zero=>exact .inr ⟨rfl,rfl⟩|succ k=>{have d:Nat.ble (k+1) 0=false:=rfl;rw [d,cond_false] at b;have:(Value.agg #[])∈List.replicate ((k+1)*ei.size) (Value.agg #[]):=List.mem_replicate.2 ⟨Qb6 (by omega) hz,rfl⟩;have:=b _ this;cases this})};{left;obtain ⟨h,rfl⟩:∃h,xc=h+1:=⟨xc-1,by omega⟩;refine ⟨⟨β s,0,none⟩,rfl,λj v f=>?_⟩;(cases d:Nat.ble k (h+1) with|false=>{rw [d,cond_false] at b f;have hm:=Qv6 f;have:=b v hm;rw [Qr3 hm] at this;cases this}|true=>{rw [d,cond_true] at b f;have i:=xI b f;have l:ws≠[]:=λe=>by{rw [e] at i;simp at i};rw [gJ,cell_of_row (hM.boxes s _ g (fZ l))];exact i})}}};{cases hsrc}
def Gd (hM:Mod n V0 bQ β0 st β a w V){e:TypeId}{ei:TI}{info:TypeInfo}{z:un}(e5:ei.size=info.size)(e6:ei.bytes=info.bytes)(e7:ei.zero=z.cells.toList.map C.ofConst)
  {b x:SV}{old:Option Nat}{ba:OA}{vs:pz un}{m c:Nat}{src:OA×Nat ⊕ pz un}{size bytes:Nat}{ty:TypeId}
  (h:df st.boxes e ei b x=.app old ba vs m c src size bytes ty) :
  size=info.size/\bytes=info.bytes/\ty=e/\info.bytes≠0/\info.size≠0/\z.cells.size=info.size /\
  (∃base,b.den β=.slice base m c/\((∃s,old=some s/\base=some ⟨β s,0,none⟩/\w.heap[β s]?=some (.cells vs.toArray e (0,0))/\∃b,st.boxes s=some b/\b.live)\/old=none/\base=ba)) /\
  ∃xa k xc,x.den β=.slice xa k xc/\((src=.inl (xa,k))\/∃xs,src=.inr xs/\xs.length=k*info.size/\((∀v∈xs,v.oneCell'=true)->(∃ad,xa=some ad/\∀j v,xs[j]?=some v->w.cell? (ad.add j)=some v)\/(xa=none/\k=0))):=by unfold df at h;split at h;{cases h};{rename_i t l;split at h;{cases h};{rename_i f;simp only [Qh7,beq_eq,Qc3,not_or] at f;obtain ⟨⟨u,q⟩,r⟩:=f;have r:ei.size=t.length:=by{grind [beq_eq.1]};obtain ⟨y,-⟩:=fS (β:=β) e7;obtain ⟨d1,-⟩:=gj (β:=β) l;have g:z.cells.size=info.size:=by{rw [←y,d1];simp [←r,e5]};dsimp only at h;split at h;{cases h};{rename_i i d;have p:(i=src/\ei.size=size/\ei.bytes=bytes/\e=ty)/\∃base,b.den β=.slice base m c/\((∃s,old=some s/\base=some ⟨β s,0,none⟩/\w.heap[β s]?=some (.cells vs.toArray e (0,0))/\∃b,st.boxes s=some b/\b.live)\/old=none/\base=ba):=by{split at h;{simp only [Q.app.injEq] at h;obtain ⟨rfl,rfl,rfl,rfl,rfl,rfl,rfl,rfl,rfl⟩:=h;exact ⟨⟨rfl,rfl,rfl,rfl⟩,_,rfl,.inr ⟨rfl,rfl⟩⟩};{rename_i s H I;split at h;{rename_i A B D E;split at h;{rename_i he;obtain rfl:=beq_eq.1 he;simp only [Q.app.injEq] at h;obtain ⟨rfl,rfl,rfl,rfl,rfl,rfl,rfl,rfl,rfl⟩:=h;have ⟨F,G⟩:=pk hM D E;exact ⟨⟨rfl,rfl,rfl,rfl⟩,_,rfl,.inl ⟨s,rfl,rfl,F,G⟩⟩};{cases h}};{cases h}};{split at h<;>grind};{cases h}};obtain ⟨⟨rfl,rfl,rfl,rfl⟩,p⟩:=p;refine ⟨e5,e6,rfl,by rw [←e6];exact u,by rw [←e5];exact q,g,p,?_⟩;split at d;{rename_i xa k xc;simp only [Qw1] at d;subst d;exact ⟨xa,k,xc,rfl,.inl rfl⟩};{rename_i s o k xc;exact Jn (Nf hM e5 d)};{rename_i s k xc;exact Jm hM e5 q d};{cases d}}}}
def Dg (hM:Mod n V0 bQ β0 st β a w V){e:TypeId}{ei:TI}{info:TypeInfo}{z:un}(e5:ei.size=info.size)(e6:ei.bytes=info.bytes)(e7:ei.zero=z.cells.toList.map C.ofConst)
  {b x:SV}{s:Nat}{vs:pz un}{m c:Nat}{src:OA×Nat ⊕ pz un}{size bytes:Nat}{ty:TypeId}
  (h:df st.boxes e ei b x=.wH s vs m c src size bytes ty) :
  size=info.size/\bytes=info.bytes/\ty=e/\info.bytes≠0/\info.size≠0/\z.cells.size=info.size /\
  (b.den β=.slice (mA (β s) c) m c/\st.boxes s=some ⟨.aB vs,e⟩) /\
  ∃xa k xc,x.den β=.slice xa k xc/\((src=.inl (xa,k))\/∃xs,src=.inr xs/\xs.length=k*info.size/\((∀v∈xs,v.oneCell'=true)->(∃ad,xa=some ad/\∀j v,xs[j]?=some v->w.cell? (ad.add j)=some v)\/(xa=none/\k=0))):=by unfold df at h;split at h;{cases h};{rename_i t l;split at h;{cases h};{rename_i f;simp only [Qh7,beq_eq,Qc3,not_or] at f;obtain ⟨⟨u,q⟩,r⟩:=f;have r:ei.size=t.length:=by{grind [beq_eq.1]};obtain ⟨y,-⟩:=fS (β:=β) e7;obtain ⟨d1,-⟩:=gj (β:=β) l;have g:z.cells.size=info.size:=by{rw [←y,d1];simp [←r,e5]};dsimp only at h;split at h;{cases h};{rename_i i d;have p:(i=src/\ei.size=size/\ei.bytes=bytes/\e=ty)/\b.den β=.slice (mA (β s) c) m c/\st.boxes s=some ⟨.aB vs,e⟩:=by{split at h;{cases h};{split at h<;>grind};{rename_i E F G;split at h;{rename_i A B D;split at h;{rename_i he;obtain rfl:=beq_eq.1 he;simp only [Q.wH.injEq] at h;obtain ⟨rfl,rfl,rfl,rfl,rfl,rfl,rfl,rfl⟩:=h;exact ⟨⟨rfl,rfl,rfl,rfl⟩,rfl,D⟩};{cases h}};{cases h}};{cases h}};obtain ⟨⟨rfl,rfl,rfl,rfl⟩,p⟩:=p;refine ⟨e5,e6,rfl,by rw [←e6];exact u,by rw [←e5];exact q,g,p,?_⟩;split at d;{rename_i xa k xc;simp only [Qw1] at d;subst d;exact ⟨xa,k,xc,rfl,.inl rfl⟩};{rename_i s o k xc;exact Jn (Nf hM e5 d)};{rename_i s k xc;exact Jm hM e5 q d};{cases d}}}}
theorem OM (hT:eu.ok P T)(hM:Mod n V0 bQ β0 st β a w V){o:Oper}{K:St->ut->Prop}{d:Nat}(hd:d<n){old:Option Nat}{ba:OA}{vs:pz un}{m c:Nat}{src:OA×Nat ⊕ pz un}{size bytes:Nat}{ty:TypeId}
  (h:aS T st.bC st.boxes o.op=.app old ba vs m c src size bytes ty)(hv:yx (.app old ba vs m c src size bytes ty) (some d) st V K) :
  ∃v w' st' β',(execOp a.eval o).run P w=.ok (.value v) w'/\Mod n V0 bQ β0 st' β' (a.put (some d) v) w' V/\K st' V:=by
 obtain ⟨cl,L,uo⟩:=(ir (T:=T) (ρ:=st.bC) (bx:=st.boxes) (op:=o.op)).2.2 (by rw [h];rfl);rw [L] at h;simp only [aS,uo] at h;split at h
 ·rename_i b x t t' E X;split at h
  ·rename_i i i' hi Y;split at h
   ·rename_i e e' hk M;split at h
    ·rename_i ei Ia;obtain ⟨Ws,d0,z0,h1,I,h3,h4,-⟩:=aI (hT _ _ hi);obtain ⟨Yl,a2,a3,a4,a5,a6,Z,-⟩:=aI (hT _ _ Y);have ⟨info,de,z,J,e2,U,e4,e5,e6,e7⟩:=aI (hT _ _ Ia);rw [h4] at hk;rw [Z] at M;obtain rfl:=bh hk;obtain rfl:=bh M;obtain ⟨rfl,rfl,rfl,l,N,p,⟨base,a7,hold⟩,F,k,xc,a8,C⟩:=Gd hM e5 e6 e7 h;have ⟨q1,q2⟩:=iq hM _ _ E;have f1:cl.argTypes=#[t,t']:=by apply Qd7;exact X
     have f2:cl.args.map a.eval=#[.slice base m c,.slice F k xc]:=by grind
     have O:∀{v w'},(Builtin.append_ #[t,t] o.type #[.slice base m c,.slice F k xc]).run P w=.ok v w'->(execOp a.eval o).run P w=.ok (.value v) w':=by intro v w' hr;simp only [execOp,L,resolve,uo,pure_bind,invoke,f1,f2,builtin];grind [fB,D7]
     have fin:∀{v w' st' β'},(Builtin.append_ #[t,t] o.type #[.slice base m c,.slice F k xc]).run P w=.ok v w'->Mod n V0 bQ β0 st' β' (a.put (some d) v) w' V->K st' V ->
       ∃v w' st' β',(execOp a.eval o).run P w=.ok (.value v) w'/\Mod n V0 bQ β0 st' β' (a.put (some d) v) w' V/\K st' V:=λq u A=>⟨_,_,_,_,O q,u,A⟩
     have Vh:∀xs,V.sl F xs->xs.length=k*info.size->(∀v∈xs,v.oneCell'=true)->Src w F k info.size xs:=by intro xs j f h1;refine ⟨f,h1,?_⟩;(cases F with|some ad=>exact .inl ⟨ad,rfl,BF hM j⟩|none=>{refine .inr ⟨rfl,?_⟩;have:xs=[]:=by{(cases xs with|nil=>rfl|cons y r=>{obtain ⟨ad,e,-⟩:=j 0 y (by simp);cases e})};grind [Nat.mul_eq_zero.1]})
     rcases hold with ⟨s,rfl,rfl,hg,Q⟩|⟨rfl,rfl⟩
     ·rcases C with rfl|⟨xs,rfl,f,g⟩;{obtain ⟨xs,j,f,hv⟩:=hv;have ⟨v,w',st',β',q,u,A⟩:=zP (ty:=o.type) (xc:=xc) hM hd I J U p l hg Q (Vh xs j f hv.2.2.2.2.1) hv;exact fin q u A};{have G:xs.length / info.size=k:=by{rw [f];exact Qf3 _ (by omega)};simp only [yx,G] at hv;have ⟨v,w',st',β',q,u,A⟩:=zP (ty:=o.type) (xc:=xc) hM hd I J U p l hg Q ⟨f,hv.2.2.2.2.1,g hv.2.2.2.2.1⟩ hv;exact fin q u A}
     ·obtain ⟨vs,D,R,B,S,hv⟩:=hv;rcases C with rfl|⟨xs,rfl,f,g⟩;{obtain ⟨xs,j,f,a0,a1⟩:=hv;by_cases H:k=0;{have W:=a0 H;subst H;refine fin (v:=.slice base m c) (w':=w) ?_ (hM.put (x:=.c (.v (.slice base m c))) hd rfl (λs hs=>by cases hs)) W;(cases F with|none=>exact zO I J base m c xc B|some ad=>{cases base<;>simp [Builtin.append_,ai I,aR J,Builtin.lenOf,Builtin.firstCells,loadCells,loadCellsFrom,storeCells,B]})};{have W:=a1 H;have ⟨v,w',st',β',q,u,A⟩:=zQ (ty:=o.type) (xc:=xc) hM hd I J U p l D R B S N (Vh xs j f W.2.2.2.1) W;exact fin q u A}};{have G:xs.length / info.size=k:=by{rw [f];exact Qf3 _ (by omega)};dsimp only at hv;rw [G] at hv;have ⟨v,w',st',β',q,u,A⟩:=zQ (ty:=o.type) (xc:=xc) hM hd I J U p l D R B S N ⟨f,hv.2.2.2.1,g hv.2.2.2.1⟩ hv;exact fin q u A}
    ·cases h
   ·cases h
  ·cases h
 ·cases h
theorem K7 (hT:eu.ok P T)(hM:Mod n V0 bQ β0 st β a w V){o:Oper}{K:St->ut->Prop}{d:Nat}(hd:d<n){s:Nat}{vs:pz un}{m c:Nat}{src:OA×Nat ⊕ pz un}{size bytes:Nat}{ty:TypeId}
  (h:aS T st.bC st.boxes o.op=.wH s vs m c src size bytes ty)(hv:yx (.wH s vs m c src size bytes ty) (some d) st V K) :
  ∃v w' st' β',(execOp a.eval o).run P w=.ok (.value v) w'/\Mod n V0 bQ β0 st' β' (a.put (some d) v) w' V/\K st' V:=by
 obtain ⟨O,q,Q⟩:=(ir (T:=T) (ρ:=st.bC) (bx:=st.boxes) (op:=o.op)).2.2 (by rw [h];rfl);rw [q] at h;simp only [aS,Q] at h;split at h
 ·rename_i b x t Z l J;split at h
  ·rename_i i i' hi L;split at h
   ·rename_i e e' R u;split at h
    ·rename_i ei Ia;obtain ⟨Ws,d0,z0,S,U,h3,h4,-⟩:=aI (hT _ _ hi);obtain ⟨Yl,a0,a1,a2,a3,a4,M,-⟩:=aI (hT _ _ L);have ⟨info,de,z,W,e2,X,e4,e5,e6,e7⟩:=aI (hT _ _ Ia);rw [h4] at R;rw [M] at u;obtain rfl:=bh R;obtain rfl:=bh u;obtain ⟨rfl,rfl,rfl,A,B,C,⟨a5,D⟩,p,k,xc,a6,E⟩:=Dg hM e5 e6 e7 h;have ⟨q1,q2⟩:=iq hM _ _ l;have f1:O.argTypes=#[t,Z]:=by apply Qd7;exact J
     have f2:O.args.map a.eval=#[.slice (mA (β s) c) m c,.slice p k xc]:=by grind
     have F:∀{v w'},(Builtin.append_ #[t,t] o.type #[.slice (mA (β s) c) m c,.slice p k xc]).run P w=.ok v w'->(execOp a.eval o).run P w=.ok (.value v) w':=by intro v w' hr;simp only [execOp,q,resolve,Q,pure_bind,invoke,f1,f2,builtin];grind [fB,D7]
     have fin:∀{v w' st' β'},(Builtin.append_ #[t,t] o.type #[.slice (mA (β s) c) m c,.slice p k xc]).run P w=.ok v w'->Mod n V0 bQ β0 st' β' (a.put (some d) v) w' V->K st' V ->
       ∃v w' st' β',(execOp a.eval o).run P w=.ok (.value v) w'/\Mod n V0 bQ β0 st' β' (a.put (some d) v) w' V/\K st' V:=λG H I=>⟨_,_,_,_,F G,H,I⟩
     have Vh:∀xs,V.sl p xs->xs.length=k*info.size->(∀v∈xs,v.oneCell'=true)->Src w p k info.size xs:=by intro xs g f S;refine ⟨f,S,?_⟩;(cases p with|some Y=>exact .inl ⟨Y,rfl,BF hM g⟩|none=>{refine .inr ⟨rfl,?_⟩;have:xs=[]:=by{(cases xs with|nil=>rfl|cons y r=>{obtain ⟨Y,e,-⟩:=g 0 y (by simp);cases e})};grind [Nat.mul_eq_zero.1]})
     rcases E with rfl|⟨xs,rfl,f,j⟩
     ·obtain ⟨xs,g,f,hv⟩:=hv;have ⟨v,w',st',β',G,H,I⟩:=AY (ty:=o.type) (xc:=xc) hM hd U W X C A B D (Vh xs g f hv.2.2.2.2.1) hv;exact fin G H I
     ·have N:xs.length / info.size=k:=by{rw [f];exact Qf3 _ (by omega)};simp only [yx,N] at hv;have ⟨v,w',st',β',G,H,I⟩:=AY (ty:=o.type) (xc:=xc) hM hd U W X C A B D ⟨f,hv.2.2.2.2.1,j hv.2.2.2.2.1⟩ hv;exact fin G H I
    ·cases h
   ·cases h
  ·cases h
 ·cases h
theorem I2 (hT:eu.ok P T)(hM:Mod n V0 bQ β0 st β a w V){o:Oper}{K:St->ut->Prop}{next:Act->World->Prop}{Q:Exit->Act->World->Prop}
  (hd:∀d,o.dst=some d->d<n)(hv:yx (aS T st.bC st.boxes o.op) o.dst st V K)
  (hK:∀st' β' a' w' V',Mod n V0 bQ β0 st' β' a' w' V'->K st' V'->next a' w'):o.wp P a w next Q:=by
 unfold Oper.wp;generalize hq:aS T st.bC st.boxes o.op=q at hv
 cases q with
 | fail=>exact hv.elim
 | ret sc x=>
  obtain ⟨e,f⟩:=(fG sc _).1 hv;have ⟨g,h⟩:=OO hT hM hq e;rw [g];exact hK _ _ _ _ _ (hM.IY hd rfl h) f
 | new sc b x=>
  simp only [yx] at hv
  cases hdst:o.dst with
  | none=>rw [hdst] at hv;exact hv.elim
  | some d=>
   rw [hdst] at hv;dsimp only at hv;split at hv
   ·rename_i t;obtain ⟨e,f⟩:=(fG sc _).1 hv;have ⟨v,g,h,u⟩:=ON hT hM hq e;rw [g];have i:=hM.new (hd d hdst) t u
    have:=i.put (x:=x d) (v:=v) (hd d hdst) (h d).1 (by
     intro s j;rw [(h d).2] at j;simp at j;subst j;exact ⟨b,by rw [aj,if_pos rfl]⟩)
    grind [Oper.upon_value]
   ·exact hv.elim
 | yw sc s b=>
  simp only [yx] at hv
  cases hdst:o.dst with
  | some d=>rw [hdst] at hv;exact hv.elim
  | none=>
   rw [hdst] at hv;dsimp only at hv;obtain ⟨e,f⟩:=(fG sc _).1 hv;have ⟨z,w',g,rx,h⟩:=OP hT hM hq e;rw [g];rcases rx with rfl|⟨v,rfl⟩
   ·simp only [Oper.upon_skip,hdst];exact hK _ _ _ _ _ h f
   ·simp only [Oper.upon_value,hdst];exact hK _ _ _ _ _ h f
 | rd p sh=>
  have ⟨x,e,f,k⟩:=zJ.fA sh hv;have r:(∃c,x=.c c/\∃s',sh=.one s')\/∃cs l,x=.agg cs/\sh=.agg l/\cs.length=l.length:=f;have ⟨g,h⟩:=So hT hM hq e r k;rw [g];exact hK _ _ _ _ _ (hM.IY hd rfl (ct e)) h
 | rM vs of size sh=>
  have ⟨x,e,f,k,y⟩:=zJ.fA sh hv;have g:=I1 hT hM hq e f k;rw [g];exact hK _ _ _ _ _ (hM.IY hd rfl (ct e)) y
 | wH s vs m c src size bytes ty=>
  cases hdst:o.dst with
  | none=>rw [hdst] at hv;exact hv.elim
  | some d=>grind [K7,Oper.upon_value]
 | app old ba vs m c src size bytes ty=>
  cases hdst:o.dst with
  | none=>rw [hdst] at hv;exact hv.elim
  | some d=>grind [OM,Oper.upon_value]
end Go.Eng
namespace Go.Eng
variable {P:Program} {T:eu} {n:Nat} {V0:View} {bQ:J8} {β0:Nat->Nat} {st:St} {β:Nat->Nat} {a:Act} {w:World} {V:View}
def cX (V:View)(w:World):View:=⟨w,λb=>b<w.heap.size/\∀o,¬V.bg b o,λ_=>False,λ_ h=>h.1,λ_ h=>h.elim⟩
def wZ (hM:Mod n V0 bQ β0 st β a w V):V.Le (cX V w):=λb o c=>⟨λh=>h.2 o c,(hM.qZ b o c).1⟩
def iC.run {f:FuncId}(h:iC P f)(xs:Array un):(callFunc f xs).run P w=.ok (.enter f xs) w:=by obtain ⟨fn,a,b,c⟩:=h;simp only [callFunc,Sem.run_bind,run_program,Result.andThen_ok,a,c,b,Qj0,if_false,Sem.run_pure]
theorem cA {x:Nat}:∀{l:pz Nat},x∈dedup l↔x∈l
 | []=>by simp [dedup]
 | y::r=>by
  simp only [dedup]
  cases h:iQ y (dedup r) with
  | true=>
   simp only [cond_true,Qq5];rw [cA];constructor
   ·exact .inr
   ·rintro (rfl|h')
    ·exact cA.1 (dW.1 h)
    ·exact h'
  | false=>simp only [cond_false,Qq5];rw [cA]
theorem f_ {bx:Nat->Option aW}:∀(k:Nat)(l:pz Nat),∀x∈l,x∈reach bx k l
 | 0,_,x,hx=>hx
 | k+1,l,x,hx=>by simp only [reach];exact f_ k _ x (cA.2 (Qz5 _ hx))
def fM {bx:Nat->Option aW}{l:pz Nat}(h:ju bx l=true){s:Nat}(hs:s∈l){b:aW}(hb:bx s=some b):∀t∈b.cs.ids,t∈l:=by unfold ju at h;rw [Qz4] at h;have:=h s hs;unfold SS nK at this;grind [dW.1]
def iU {L:pz Nat}:∀{γ:Nat->Nat} {k:(Nat->Nat)->Prop},mP L γ k->∀β:Nat->Nat,k (λt=>if t∈L then β t else γ t):=by
 induction L with
 | nil=>
  intro γ k h β;have e:(λt=>if t∈([]:pz Nat) then β t else γ t)=γ:=by funext t;simp
  rw [e];exact h
 | cons s r ih=>
  intro γ k h β;have:=ih (h (β s)) β;grind [aZ,iM]
def Be {bx:Nat->Option aW}{b:aW}{γ:Nat->Nat}{s:Nat}:∀{r:pz Nat} {k:Prop},WK bx b γ s r k->(∀t∈r,∀b',bx t=some b'->b.live->b'.live->γ s=γ t->s=t)->(∀t∈r,∃b',bx t=some b')->k
 | [],_,h,_,_=>h
 | t::r,k,h,hi,hl=>by
  simp only [WK] at h
  cases hb:Nat.beq s t with
  | true=>rw [hb] at h;exact Be h (λt ht=>hi t (Qq8 _ ht)) (λt ht=>hl t (Qq8 _ ht))
  | false=>
   rw [hb] at h;have ⟨b',hb'⟩:=hl t (by simp);simp only [hb',cond_false] at h;refine Be (h ?_) (λt ht=>hi t (Qq8 _ ht)) (λt ht=>hl t (Qq8 _ ht))<;>grind [xw,kd,Nat.beq_refl]
def AV {bx:Nat->Option aW}{γ:Nat->Nat}{V':ut}:∀{L:pz Nat} {k:Prop},jY bx γ V' L k->(∀s∈L,∀b,bx s=some b->b.live->V'.w.heap[γ s]?=some (b.obj γ)/\V'.H (γ s)) ->
  (∀s∈L,∀t∈L,∀b b',bx s=some b->b.live->bx t=some b'->b'.live->γ s=γ t->s=t)->(∀s∈L,∃b,bx s=some b)/\k
 | [],k,h,_,_=>⟨λs hs=>(nomatch hs),h⟩
 | s::r,k,h,hf,hi=>by
  simp only [jY] at h;split at h
  ·rename_i b hb
   have ⟨h3,h5⟩:=AV (h (kd.2 λl=>(hf s (by simp) b hb l).1) (kd.2 λl=>(hf s (by simp) b hb l).2)) (λc a=>hf c (Qq8 _ a))
    (λc a t d=>hi c (Qq8 _ a) t (Qq8 _ d))
   have g:=Be h5 (λt d b' e l f=>hi s (by simp) t (Qq8 _ d) b b' hb l e f) h3;grind
  ·exact h.elim
def jf {bx:Nat->Option aW}{γ:Nat->Nat}{V':ut}:∀{L:pz Nat} {k:Prop},sZ bx γ V' L k->(∀s∈L,∀b,bx s=some b->b.live->V'.bg (γ s) (b.obj γ))->(∀s∈L,∃b,bx s=some b)/\k
 | [],k,h,_=>⟨λs hs=>(nomatch hs),h⟩
 | s::r,k,h,hf=>by
  simp only [sZ] at h;split at h
  ·rename_i b hb;have ⟨h3,h4⟩:=jf (h (kd.2 (hf s (by simp) b hb))) (λc a=>hf c (Qq8 _ a));grind
  ·exact h.elim
def jG {mv:Option (Nat×Nat)}:∀(cs zs:pz C) {K:pz C->Prop},nZ mv cs zs K->∃cs',K cs'/\∀s∈cs'.flatMap C.ids,s∈cs.flatMap C.ids\/∃m,mv=some (m,s)
 | [],_,_,h=>⟨[],h,λs hs=>(nomatch hs)⟩
 | c::r,[],_,h=>h.elim
 | c::r,z::zr,K,h=>by
  simp only [nZ] at h;split at h
  ·split at h
   ·rename_i m nb;split at h
    ·obtain ⟨n,c,h⟩:=h;have ⟨cs',a,b⟩:=jG r zr h;grind [C.ids]
    ·exact h.elim
   ·exact h.elim
  ·split at h
   ·have ⟨v,e,d⟩:=CF.fA _ h;have ⟨cs',a,b⟩:=jG r zr d;grind
   ·have ⟨cs',a,b⟩:=jG r zr h;grind
def Mod.fill (h:Mod n V0 bQ β0 st β a w V){s:Nat}{b0 b:aW}(hs:st.boxes s=some b0)(lf:∀t∈b.cs.ids,∃b',st.boxes t=some b')
  (hg:∀t b',st.boxes t=some b'->b'.live->t≠s->β t≠β s)(hV:∀o,¬V.bg (β s) o)(hown:V0.w.heap.size<=β s\/(100000<=s/\bQ.B (β s)))(hw:w.heap[β s]?=some (b.obj β)) :
  Mod n V0 bQ β0 (st.box s b) β a w V:=by have d:∀t,(∃b',st.boxes t=some b')->∃b',(st.box s b).boxes t=some b':=by{grind [aj]};refine ⟨h.defers,h.size,h.ax,λt x f u hu=>d u (h.CL t x f u hu),?_,?_,?_,h.qZ,?_,h.ext,?_,h.nJ,h.my,h.small⟩;{grind [aj,h.CK]};{grind [aj,h.boxes]};{grind [aj,h.inj]};{grind [aj,h.yg]};{intro t b' c l;rw [aj] at c;split at c;{rename_i e;rw [e];exact hown};{exact h.own t b' c l}}
def Mod.later (hM:Mod n V0 bQ β0 st β a w V){X:Nat->Prop}{w':World}(hx:iP X w w')(hX:∀t b,st.boxes t=some b->b.live->¬X (β t))(hX0:∀i,i<V0.w.heap.size->X i->V0.X i){V1:ut}
  (Yi:∀b o,V1.bg b o->w'.heap[b]?=some o/\¬V0.H b)(yf:∀t b,st.boxes t=some b->b.live->∀o,¬V1.bg (β t) o):Mod n V0 bQ β0 st β a w' V1:=by refine ⟨hM.defers,hM.size,hM.ax,hM.CL,hM.CK,?_,hM.inj,Yi,yf,?_,hM.own,hM.nJ,hM.my,hM.small⟩;{grind [hM.boxes,hx.bg]};{refine ⟨Qw7 hM.ext.size hx.size,λi d c=>?_,hx.os.m hM.ext.os,hx.tape.m hM.ext.tape,hx.out.m hM.ext.out,Qw7 hM.ext.dr hx.dr⟩<;>grind [hx.bg,hM.ext.bg]}
def Mod.beta (hM:Mod n V0 bQ β0 st β a w V){d g:Nat}(hd:d<n\/200000<=d)(hn:st.boxes d=none):Mod n V0 bQ β0 st (dq β d g) a w V:=by have j:∀s c,st.boxes s=some c->s≠d:=λs c f e=>by{rw [e,hn] at f;cases f};have hβ:∀s c,st.boxes s=some c->dq β d g s=β s:=λs c f=>iM _ _ (j s c f);refine ⟨hM.defers,hM.size,?_,hM.CL,hM.CK,?_,?_,hM.qZ,?_,hM.ext,?_,?_,hM.my,hM.small⟩;{intro t x k;rw [hM.ax t x k];grind [SV.bZ,hM.CL]};{intro s b i l;rw [hβ s b i,hM.boxes s b i l];grind [aW.dG,hM.CK]};{grind [hM.inj]};{grind [hM.yg]};{intro s b i l;rw [hβ s b i];exact hM.own s b i l};{intro s f;have ⟨m,o⟩:=hM.nJ s f;grind [iM,hM.small]}
def jI {ty:TypeId}:∀{L:pz Nat} {st:St},(eG st L ty).ax=st.ax
 | [],_=>rfl
 | s::r,st=>by unfold eG;rw [Qm5];exact jI (L:=r)
def br {ty:TypeId}:∀{L:pz Nat} {st:St} (t:Nat),(eG st L ty).boxes t=if t∈L then some ⟨.aB [],ty⟩ else st.boxes t
 | [],st,t=>by simp [eG]
 | s::r,st,t=>by
  have:=br (ty:=ty) (L:=r) (st:=st.box s ⟨.aB [],ty⟩) t;unfold eG at this ⊢;grind [aj]
def Mod.J1 {ty:TypeId}:∀{L:pz Nat} {st:St},Mod n V0 bQ β0 st β a w V->Mod n V0 bQ β0 (eG st L ty) β a w V
 | [],_,h=>h
 | s::r,st,h=>by unfold eG;rw [Qm5];exact Mod.J1 (L:=r) h.void
def n_ {mv:Option (Nat×Nat)}{γ:Nat->Nat}{V2:ut}{A:pz Nat}(hV2:V2.w=w)(hγA:∀s∈A,γ s=β s)(hinj:∀s∈A,∀s'∈A,β s=β s'->s=s')(yf:∀s∈A,∀o,¬V.bg (β s) o)
  (hown:∀s∈A,V0.w.heap.size<=β s\/(100000<=s/\bQ.B (β s))) :
  ∀(L:pz Nat) (SP Dh:St) {k:St->Prop},(∀s∈L,s∈A)->Mod n V0 bQ β0 Dh β a w V->SP.ax=Dh.ax->(∀t,t∉L->SP.boxes t=Dh.boxes t)->(∀s∈L,∃b,Dh.boxes s=some b) ->
   (∀t b,Dh.boxes t=some b->b.live->t∉A->∀s∈A,β t≠β s)->(∀s∈L,∀b,SP.boxes s=some b->∀t∈b.cs.ids,(∃b',Dh.boxes t=some b')/\γ t=β t)->(∀m nb,mv=some (m,nb)->(∃b',Dh.boxes nb=some b')/\γ nb=β nb) ->
   fP T mv γ V2 L SP k->∃st',Mod n V0 bQ β0 st' β a w V/\st'.ax=Dh.ax/\(∀t,(∃b,Dh.boxes t=some b)->∃b,st'.boxes t=some b)/\k st'
 | [],SP,Dh,k,_,hM,hsl,hag,_,_,_,_,h=>by
  have:SP=Dh:=by
   obtain ⟨s1,g⟩:=SP;obtain ⟨s2,Q⟩:=Dh;dsimp only at hsl hag;subst hsl;congr 1;grind
  exact ⟨Dh,hM,rfl,λ_ h=>h,this▸h⟩
 | s::r,SP,Dh,k,hA,hM,hsl,hag,hb,hd,hw,hmv,h=>by
  have f:=hA s (by simp);obtain ⟨R,C⟩:=hb s (by simp)
  have step:∀g:aW,(∀t∈g.cs.ids,(∃b',Dh.boxes t=some b')/\γ t=β t)->w.heap[γ s]?=some (g.obj γ)->fP T mv γ V2 r (SP.box s g) k ->
    ∃st',Mod n V0 bQ β0 st' β a w V/\st'.ax=Dh.ax/\(∀t,(∃b,Dh.boxes t=some b)->∃b,st'.boxes t=some b)/\k st':=by
   intro g z H h;rw [hγA s f,aW.dG λt c=>(z t c).2] at H;by_cases I:s∈r
   ·refine n_ hV2 hγA hinj yf hown r (SP.box s g) Dh (λs' d=>hA s' (Qq8 _ d)) hM hsl ?_ (λs' d=>hb s' (Qq8 _ d)) hd ?_ hmv h<;>grind [aj]
   ·have D:=hM.fill (b:=g) C (λt c=>(z t c).1) (by
     intro t b' c l E he;by_cases v:t∈A
     ·exact E (hinj t v s f he)
     ·exact hd t b' c l v s f he) (yf s f) (hown s f) H
    have x:∀t,(∃b,Dh.boxes t=some b)->∃b,(Dh.box s g).boxes t=some b:=by grind [aj]
    have ⟨st',J,K,M,N⟩:=n_ hV2 hγA hinj yf hown r (SP.box s g) (Dh.box s g) (λs' d=>hA s' (Qq8 _ d)) D hsl
     (by
      intro t c;rw [aj,aj];split
      ·rfl
      ·rename_i e;exact hag t (by simp [e,c]))
     (λs' d=>x s' (hb s' (Qq8 _ d)))
     (by
      intro t b' c l v;rw [aj] at c;split at c
      ·rename_i e;exact absurd (e▸f) v
      ·exact hd t b' c l v)
     (by
      intro s' d b' j t c;rw [aj] at j;split at j
      ·cases j;exact ⟨x t (z t c).1,(z t c).2⟩
      ·have:=hw s' (Qq8 _ d) b' j t c;exact ⟨x t this.1,this.2⟩)
     (λm nb e=>⟨x nb (hmv m nb e).1,(hmv m nb e).2⟩) h
    exact ⟨st',J,K,λt c=>M t (x t c),N⟩
  simp only [fP] at h;split at h
  ·rename_i cs ty q;split at h;{rename_i i S;have ⟨F,⟨p,y⟩,O⟩:=jG _ _ h;rw [hV2] at p;refine step ⟨.lit F,ty⟩ (λt c=>?_) p y;rcases O t c with G|⟨m,G⟩;{exact hw s (by simp) _ q t G};{exact hmv m t G}};{exact h.elim}
  ·rename_i P ty q;obtain ⟨u,p,y⟩:=h;rw [hV2] at p;exact step ⟨.row u,ty⟩ (λt c=>(nomatch c)) p y
  ·rename_i P ty q;obtain ⟨-,u,-,p,y⟩:=h;rw [hV2] at p;exact step ⟨.aB u,ty⟩ (λt c=>(nomatch c)) p y
  ·exact h.elim
def AU {mv:Option (Nat×Nat)}{V2:ut}:∀{L:pz Nat} {st:St} {k:St->Prop},fP T mv β V2 L st k->∀s∈L,∃b,st.boxes s=some b/\b.live
 | [],_,_,_,s,hs=>nomatch hs
 | s::r,st,k,h,t,ht=>by
  have core:∀b1:aW,(∃b,st.boxes s=some b/\b.live)->fP T mv β V2 r (st.box s b1) k->∃b,st.boxes t=some b/\b.live:=by
   intro b1 hs h;by_cases e:t=s
   ·rw [e];exact hs
   ·have:=AU h t (by simpa [e] using ht);grind [aj]
  simp only [fP] at h;split at h
  ·rename_i cs ty a;split at h;{have ⟨i,⟨g,c⟩,l⟩:=jG _ _ h;exact core _ ⟨_,a,dM⟩ c};{exact h.elim}
  ·rename_i j ty a;obtain ⟨d,g,c⟩:=h;exact core _ ⟨_,a,dN⟩ c
  ·rename_i j ty a;obtain ⟨f,d,-,g,c⟩:=h;exact core _ ⟨_,a,λ_ e=>by cases e;exact f⟩ c
  ·exact h.elim
def AR {bx:Nat->Option aW}{γ:Nat->Nat}{N b:Nat}{L:pz Nat}(hl:∀s∈L,∃b,bx s=some b)(hb:b∈L.map (eN bx γ N))(hlt:b<N):∃s∈L,∃b0,bx s=some b0/\b0.live/\γ s=b:=by have ⟨s,c,he⟩:=Qz1.1 hb;have ⟨b0,a⟩:=hl s c;unfold eN at he;rw [a] at he;obtain ⟨cs,ty⟩:=b0;(cases cs with|aB vs=>{(cases vs with|nil=>{simp only [vb] at he;omega}|cons v r=>{exact ⟨s,c,_,a,fZ (by simp),he⟩})}|_=>grind [dM,dN])
def xr {nb:Nat}:∀{xs:pz (md×pz C)},(xs.flatMap λx=>x.2.flatMap C.ids)=[]->∀s∈((yZ nb xs).flatMap λx=>x.2.flatMap C.ids),s=nb
 | [],_,s,hs=>nomatch hs
 | x::r,h,s,hs=>by
  simp only [Qy0,List.append_eq_nil_iff] at h;unfold yZ at hs;split at hs
  ·rename_i heq;cases heq
  ·grind [C.ids]
  ·rename_i heq;cases heq;simp only [Qy0,Qw3,h.1,Qx7,false_or] at hs;exact xr h.2 s hs
def Az {nb:Nat}:∀{cs:pz C},(cs.flatMap C.ids)=[]->∀s∈(FN nb cs).flatMap C.ids,s=nb
 | [],_,s,hs=>nomatch hs
 | x::r,h,s,hs=>by
  simp only [Qy0,List.append_eq_nil_iff] at h;unfold FN at hs;split at hs
  ·rename_i heq;cases heq
  ·grind [C.ids]
  ·rename_i heq;cases heq;simp only [Qy0,Qw3,h.1,Qx7,false_or] at hs;exact Az h.2 s hs
def KC {nb:Nat}{x:SV}(h:x.ids=[]):∀s∈(wB nb x).ids,s=nb:=by intro s a;unfold wB at a;split at a;{simpa [SV.ids,C.ids] using a};{exact Az h s a};{exact xr h s a};{rw [h] at a;cases a}
def HV {xs:pz SV}(h:∀x∈xs,x.ids=[])(γ δ:Nat->Nat):aH γ xs=aH δ xs:=by unfold aH;grind [j9]
def Mod.Xk {w0:World}{V':ut}(hM:Mod n V0 bQ β0 st β a w V')(hlt:∀s b,st.boxes s=some b->b.live->β s<w0.heap.size)(hsz:V0.w.heap.size<=w0.heap.size){d b:Nat}{cs:pz C}{e:TypeId}(hd:d<n)(hn:st.boxes d=none)
  (hb:w0.heap.size<=b)(hw:V'.w=w)(hblk:V'.bg b (.cells (cs.map (C.den λ_=>0)).toArray e (0,0)))(lf:cs.flatMap C.ids=[]) :
  Mod n V0 bQ β0 ((st.box d ⟨.lit cs,e⟩).put (some d) (.c (.ptr d 0))) (dq β d b) (a.put (some d) (.pointer (some ⟨b,0,none⟩))) w (V'.QJ b):=by have v:∀s g,st.boxes s=some g->s≠d:=λs g f e=>by{rw [e,hn] at f;cases f};have hβ:∀s g,st.boxes s=some g->dq β d b s=β s:=λs g f=>iM _ _ (v s g f);have k:w.heap[b]?=some (.cells (cs.map (C.den λ_=>0)).toArray e (0,0)):=(hM.qZ b _ hblk).1;have D:(⟨.lit cs,e⟩:aW).obj (dq β d b)=.cells (cs.map (C.den λ_=>0)).toArray e (0,0):=by{grind [aW.obj,Cells.den,nX]};have y:Mod n V0 bQ β0 (st.box d ⟨.lit cs,e⟩) (dq β d b) a w (V'.QJ b):=by{refine ⟨hM.defers,hM.size,?_,?_,?_,?_,?_,?_,?_,hM.ext,?_,?_,hM.my,hM.small⟩;{intro t x q;rw [hM.ax t x q];exact SV.bZ λs f=>by{have ⟨g,m⟩:=hM.CL t x q s f;exact (hβ s g m).symm}};{intro t x q s f;have ⟨g,m⟩:=hM.CL t x q s f;grind [aj]};{grind [aj,Cells.ids,hM.CK]};{intro s g f l;rw [aj] at f;split at f;{rename_i p;simp only [Qw1] at f;rw [p,aZ,←f,D];exact k};{rw [hβ s g f,hM.boxes s g f l];grind [aW.dG,hM.CK]}};{intro s z A B i E j F he;rw [aj] at i j;split at i<;>split at j;{rename_i r u;rw [r,u]};{rename_i r u;rw [r,aZ,hβ z B j] at he;have:=hlt z B j F;omega};{rename_i r u;rw [u,aZ,hβ s A i] at he;have:=hlt s A i E;omega};grind [hM.inj]};{rintro x o ⟨i,j⟩;exact hM.qZ x o ⟨λh=>i (.inl h),j⟩};{rintro s g f l o ⟨i,j⟩;rw [aj] at f;split at f;{rename_i p;rw [p,aZ] at i;exact i (.inr ⟨rfl,by rw [hw];exact aG k⟩)};{rw [hβ s g f] at i j;exact hM.yg s g f l o ⟨λh=>i (.inl h),j⟩}};{intro s g f l;rw [aj] at f;split at f;{rename_i p;rw [p,aZ];exact .inl (Qw7 hsz hb)};{rw [hβ s g f];exact hM.own s g f l}};{intro s f;have ⟨i,j⟩:=hM.nJ s f;grind [iM,hM.small]}};refine y.put hd ?_ ?_;{simp only [SV.den,C.den,aZ]};{intro s f;simp [SV.ids,C.ids] at f;subst f;exact ⟨_,by rw [aj,if_pos rfl]⟩}
def A8 {L:pz Nat}{m s:Nat}:s∈(L.filter λs=>!(Nat.beq s m))↔s∈L/\s≠m:=by grind [Nat.beq_refl,beq_eq.1]
def pU (hM:Mod n V0 bQ β0 st β a w V){L:pz Nat}{γ:Nat->Nat}(jP:∀s∈L,γ s=β s)(hcl:∀s∈L,∀b,st.boxes s=some b->∀t∈b.cs.ids,t∈L)(hlive:∀s∈L,∃b,st.boxes s=some b)
  {give:md}{sh:Sh}{m:Option Nat}{d:Nat}(hd:d<n){ety:TypeId}{K:St->ut->Prop}{w':World}{r:un}(hm:∀k,m=some k->k∈L)(hfree:lr st m d=true)
  (hx:iP (λb=>b∈L.map (eN st.boxes γ w.heap.size)/\(cX V w).H b) w w')
  (hr:cI T give sh L m d ety γ st (cX V w) K r (((cX V w).ar (L.map (eN st.boxes γ w.heap.size))).to w' hx.size)) :
  ∃st' β' V',Mod n V0 bQ β0 st' β' (a.put (some d) r) w' V'/\K st' V':=by
 have a7:V0.w.heap.size<=w.heap.size:=hM.ext.size;unfold cI at hr;generalize hnb:gT m d=nb at hr;obtain ⟨C,p,P,Yj,Q⟩:=hr;obtain ⟨x,R,rfl,hr⟩:=Sh.fA sh Q;clear Q
 have Yb:st.boxes nb=none:=by unfold lr at hfree;grind
 have Wm:nb<n\/200000<=nb:=by rw [←hnb];(cases m with|none=>exact .inl hd|some m=>exact FY hd)
 generalize hV1:((((cX V w).ar (L.map (eN st.boxes γ w.heap.size))).to w' hx.size).shut.bu (p≠[]) C)=V1 at hr;have S:V1.w=w':=by rw [←hV1];rfl
 have Of:∀b o,V1.bg b o->w'.heap[b]?=some o/\¬(b<w.heap.size/\∀o,¬V.bg b o)/\¬(p≠[]/\b=C/\b<w'.heap.size):=by rintro b o ⟨y,D⟩;rw [S] at D;rw [←hV1] at y;refine ⟨D,λh=>y (.inl h),λh=>y (.inr ⟨h.1,h.2.1,by rw [←h.2.1];exact h.2.2⟩)⟩
 have Yi:∀b o,V1.bg b o->w'.heap[b]?=some o/\¬V0.H b:=by intro b o h;obtain ⟨y,D,-⟩:=Of b o h;refine ⟨y,λhH=>?_⟩;by_cases a0:b<w.heap.size;{exact D ⟨a0,λo' a1=>(hM.qZ b o' a1).2 hH⟩};{have:=V0.hH b hH;omega}
 have yf:∀s b,st.boxes s=some b->b.live->∀o,¬V1.bg (β s) o:=λs b f l o ho=>
  (Of _ o ho).2.1 ⟨aG (hM.boxes s b f l),hM.yg s b f l⟩
 have a2:∀b,(b∈L.map (eN st.boxes γ w.heap.size)/\(cX V w).H b)->∃s∈L,∃u,st.boxes s=some u/\u.live/\β s=b:=by rintro b ⟨y,D⟩;have ⟨s,c,u,g,F,he⟩:=AR hlive y D.1;exact ⟨s,c,u,g,F,by rw [←jP s c];exact he⟩
 have J6:Mod n V0 bQ β0 (eG st L ety) β a w' V1:=by refine (hM.J1 (L:=L) (ty:=ety)).later hx ?_ ?_ Yi ?_;{intro t b f l hX;rw [br] at f;grind [fQ,hM.inj]};{intro i hi hX;obtain ⟨s,c,u,g,F,rfl⟩:=a2 _ hX;rcases hM.own s u g F with h|h<;>grind [hM.my]};{intro t b f l;rw [br] at f;grind [fQ]}
 have G:(eG st L ety).boxes nb=none:=by rw [br,if_neg];{exact Yb};{intro h;have ⟨b,f⟩:=hlive nb h;rw [Yb] at f;cases f}
 have KK:p≠[]->w.heap.size<=C\/∃k u,m=some k/\st.boxes k=some u/\u.live/\C=β k:=by intro q;rcases Yj q with h|h;{exact .inl h};{right;(cases m with|none=>exact h.elim|some k=>{have a3:=hm k rfl;have ⟨u,g⟩:=hlive k a3;simp only [Cz,g] at h;obtain ⟨cs,ty⟩:=u;cases cs<;>grind [dM,dN,fZ]})}
 have a4:Mod n V0 bQ β0 ((eG st L ety).box nb ⟨.aB p,ety⟩) (dq β nb C) a w' V1:=by by_cases q:p=[];{subst q;exact (J6.beta Wm G).void};{have I:w'.heap[C]?=some (.cells p.toArray ety (0,0)):=P q;refine J6.jW Wm G rfl ?_ ?_ ?_ I (λ_ _ _=>rfl) (Qq2 _) rfl rfl rfl;{intro s b f l he;rw [br] at f;split at f;{cases f;exact fQ l};{rename_i a5;rcases KK q with h|⟨k,u,hk,g,F,h⟩;{have:=aG (hM.boxes s b f l);omega};{exact a5 (hM.inj k s u b g F f l (h▸he.symm)▸hm k hk)}}};{intro o ho;exact (Of _ o ho).2.2 ⟨q,rfl,aG I⟩};{rcases KK q with h|⟨k,u,hk,g,F,h⟩;{left;omega};{rcases hM.own k u g F with h'|h';{left;rw [h];exact h'};{right;refine ⟨?_,by rw [h];exact h'.2⟩;rw [←hnb,hk];exact MI h'.1}}}}
 have KI:∀s,(∃b,st.boxes s=some b)->s≠nb:=by rintro s ⟨b,f⟩ rfl;rw [Yb] at f;cases f
 generalize hA:Ix m L=A at hr
 have J:∀s∈A,s∈L/\∀k,m=some k->s≠k:=by intro s c;rw [←hA] at c;(cases m with|none=>exact ⟨c,λk h=>nomatch h⟩|some k=>{have ⟨y,D⟩:=A8.1 c;exact ⟨y,λj hj=>by cases hj;exact D⟩})
 have U:∀s∈L,(∀k,m=some k->s≠k)->s∈A:=by intro s c h;rw [←hA];(cases m with|none=>exact c|some k=>exact A8.2 ⟨c,h k rfl⟩)
 have M:∀s,(∃b,st.boxes s=some b)->dq γ nb C s=γ s/\dq β nb C s=β s:=λs c=>⟨iM _ _ (KI s c),iM _ _ (KI s c)⟩
 have N:∀s∈A,((um m ety st).box nb ⟨.aB p,ety⟩).boxes s=st.boxes s:=by intro s c;have ⟨y,D⟩:=J s c;rw [aj,if_neg (KI s (hlive s y))];(cases m with|none=>rfl|some k=>{simp only [um];rw [aj,if_neg (D k rfl)]})
 have W:∀s∈A,∃b,st.boxes s=some b/\b.live:=by intro s c;have:=AU hr s c;rw [N s c] at this;exact this
 have ⟨st',g1,g2,g3,g4⟩:=n_ (a:=a) (w:=w') (V:=V1) (γ:=dq γ nb C) (β:=dq β nb C) (by rfl) (λs c=>by
   have:=M s (hlive s (J s c).1);rw [this.1,this.2];exact jP s (J s c).1)
  (by
   intro s c X Y he;rw [(M s (hlive s (J s c).1)).2,(M X (hlive X (J X Y).1)).2] at he;have ⟨z,B,O⟩:=W s c;have ⟨b2,e2,l2⟩:=W X Y;exact hM.inj s X z b2 B O e2 l2 he)
  (by
   intro s c;have ⟨z,B,O⟩:=W s c;rw [(M s ⟨z,B⟩).2];exact yf s z B O)
  (by
   intro s c;have ⟨z,B,O⟩:=W s c;rw [(M s ⟨z,B⟩).2];exact hM.own s z B O)
  A _ ((eG st L ety).box nb ⟨.aB p,ety⟩) (λ_ h=>h) a4
  (by
   show _=(eG st L ety).ax;rw [jI];cases m<;>rfl)
  (by
   intro t v;rw [aj,aj];split
   ·rfl
   ·rw [br]
    cases m with
    | none=>
     simp only [um];rw [if_neg λh=>v (U t h λk e=>nomatch e)]
    | some k=>
     simp only [um];rw [aj];split
     ·rename_i e;rw [if_pos (e▸hm k rfl)]
     ·rename_i e;rw [if_neg λh=>v (U t h λj hj=>by cases hj;exact e)])
  (by
   intro s c;rw [aj];split
   ·exact ⟨_,rfl⟩
   ·rw [br,if_pos (J s c).1];exact ⟨_,rfl⟩)
  (by
   intro t b v l Un s c;have ⟨z,B,O⟩:=W s c;rw [(M s ⟨z,B⟩).2];rw [aj] at v;split at v
   ·rename_i e;simp only [Qw1] at v;rw [e,aZ];have q:p≠[]:=λe0=>by{rw [←v,e0] at l;exact fQ l};rcases KK q with h|⟨k,u,hk,g,F,h⟩;{have:=aG (hM.boxes s z B O);omega};grind [hM.inj]
   ·rw [br] at v;split at v
    ·cases v;exact absurd l fQ
    ·rename_i Z;intro he;rw [(M t ⟨b,v⟩).2] at he;exact Z (hM.inj t s b z v l B O he▸(J s c).1))
  (by
   intro s c b f t v;rw [N s c] at f;have Z:=hcl s (J s c).1 b f t v;have E:=M t (hlive t Z);refine ⟨?_,by rw [E.1,E.2];exact jP t Z⟩;rw [aj];split
   ·exact ⟨_,rfl⟩
   ·rw [br,if_pos Z];exact ⟨_,rfl⟩)
  (by
   intro k a6 e
   have:a6=nb:=by (cases m with|none=>{cases e}|some m=>{cases e;rfl})
   subst this;exact ⟨⟨_,by rw [aj,if_pos rfl]⟩,by rw [aZ,aZ]⟩)
  hr
 have ⟨b2,E⟩:=g3 nb ⟨_,by rw [aj,if_pos rfl]⟩
 have lf:∀s∈(cond give (wB nb x) x).ids,s=nb:=by (cases give with|true=>exact KC R|false=>{intro s c;rw [cond_false,R] at c;cases c})
 refine ⟨_,_,_,g1.put (x:=cond give (wB nb x) x) hd ?_ ?_,g4⟩
 ·exact SV.bZ λs c=>by rw [lf s c,aZ,aZ]
 ·intro s c;rw [lf s c];exact ⟨b2,E⟩
def mg (hM:Mod n V0 bQ β0 st β a w V){m:CM}{f:FuncId}{xs:pz SV}{ty:TypeId}{dst:Option Nat}{K:St->ut->Prop}{next:Act->World->Prop}{Q:Exit->Act->World->Prop}
  (hd:∀d,dst=some d->d<n)(hv:hZ P T m f xs ty dst st V K)
  (hK:∀st' β' a' w' V',Mod n V0 bQ β0 st' β' a' w' V'->K st' V'->next a' w') :
  iC P f/\Calls P f (aH β xs) w λ
   | .returned v,w''=>next (a.put dst v) w''
   | .panicked chain,w''=>Q (.panic chain) a w''
   | .outgrown,_=>LetsOut Q:=by
 have hle:=wZ hM;have b5:V0.w.heap.size<=w.heap.size:=hM.ext.size;unfold hZ at hv;split at hv
 ·exact hv.elim
 ·rename_i sh c7;split at hv
  ·
   rename_i lf
   have b6:∀x∈xs,x.ids=[]:=by intro x u;rcases hx':x.ids with _|⟨s,r⟩;{rfl};{exfalso;have:s∈reach st.boxes 3 (dedup (xs.flatMap SV.ids)):=f_ 3 _ s (cA.2 (Qy1.2 ⟨x,u,by rw [hx'];simp⟩));rw [lf] at this;cases this}
   have b7:∀(w':World)(u:iP (λ_=>False) w w'),Mod n V0 bQ β0 st β a w' ((cX V w).to w' u.size):=by intro w' u;refine hM.later u (λ_ _ _ _ h=>h) (λ_ _ h=>h.elim) ?_ ?_;{rintro b o ⟨E,M⟩;refine ⟨M,λhH=>?_⟩;by_cases N:b<w.heap.size;{apply E;refine ⟨N,λo' O=>(hM.qZ b o' O).2 hH⟩};{have:=V0.hH b hH;omega}};{rintro s b p l o ⟨E,-⟩;exact E ⟨aG (hM.boxes s b p l),hM.yg s b p l⟩}
   rw [HV b6 β λ_=>0]
   have plain:(∀V':ut,V.Le V'->aa P f (aH (λ_=>0) xs) V' λr fu=>sh.ex λx=>r=x.den (λ_=>0)/\K (st.put dst x) fu)->iC P f/\Calls P f (aH (λ_=>0) xs) w λ
     | .returned v,w''=>next (a.put dst v) w''
     | .panicked chain,w''=>Q (.panic chain) a w''
     | .outgrown,_=>LetsOut Q:=by
    intro hv;have ⟨hc,U⟩:=hv (cX V w) hle;refine ⟨hc,Calls.s U ?_⟩;rintro e w' ⟨r,rfl,u,Y⟩;obtain ⟨x,A,rfl,S⟩:=Sh.fA sh Y;have u:iP (λ_=>False) w w':=u;exact hK (st.put dst x) β _ _ _ ((b7 w' u).IY hd (j9 A _ _) (ct A)) S
   split at hv
   ·split at hv;{rename_i d Z c8;split at hv;{exact hv.elim};{rename_i q;have ⟨hc,U⟩:=hv (cX V w) hle;refine ⟨hc,Calls.s U ?_⟩;rintro e' w' ⟨r,rfl,u,Y⟩;have A:iP (λb=>b∈([]:pz Nat).map (eN st.boxes (λ_=>0) w.heap.size)/\(cX V w).H b) w w':=u.s λ_ h=>h.elim;have b3:cI T true sh [] Option.none d Z (λ_=>0) st (cX V w) K r (((cX V w).ar (([]:pz Nat).map (eN st.boxes (λ_=>0) w.heap.size))).to w' A.size):=by{unfold cI Ix at Y ⊢;exact Y};have ⟨st',β',V',E,M⟩:=pU (T:=T) (give:=true) (m:=Option.none) hM (λs g=>absurd g (by simp)) (λs g=>absurd g (by simp)) (λs g=>absurd g (by simp)) (hd d rfl) (λk W=>by cases W) q A b3;exact hK _ _ _ _ _ E M}};{exact plain hv};{exact hv.elim}
   ·split at hv;{rename_i d;split at hv;{exact hv.elim};{rename_i hn;split at hv;{rename_i ti c9;split at hv;{rename_i e he;split at hv;{rename_i ei Ia;have ⟨hc,U⟩:=hv (cX V w) hle;refine ⟨hc,Calls.s U ?_⟩;rintro e' w' ⟨r,rfl,u,b,Y⟩;obtain ⟨cs,E,M,rfl,h4,h5,h6⟩:=uj _ Y;exact hK _ _ _ _ _ ((b7 w' u).Xk (w0:=w) (λs b p l=>aG (hM.boxes s b p l)) b5 (hd d rfl) hn h4 rfl h5 E) h6};{exact hv.elim}};{exact hv.elim}};{exact hv.elim}}};{exact hv.elim}
   ·exact plain hv
  ·rename_i s0 r0 lf;split at hv
   ·exact hv.elim
   ·rename_i a4;generalize hL:s0::r0=L at hv lf a4
    have a5:∀x∈xs,∀s∈x.ids,s∈L:=by intro x u s g;rw [←lf];exact f_ 3 _ s (cA.2 (Qy1.2 ⟨x,u,g⟩))
    have a3:∀s∈L,∀b,st.boxes s=some b->∀t∈b.cs.ids,t∈L:=λs g b p=>fM a4 g p
    have a8:∀{R:(Nat->Nat)->un->ut->Prop},(mP L (λ_=>0) λγ=>jY st.boxes γ (cX V w) L (aa P f (aH γ xs) ((cX V w).ar (L.map (eN st.boxes γ w.heap.size))) (R γ))) ->
      ∃γ,(∀s∈L,γ s=β s)/\(∀s∈L,∃b,st.boxes s=some b)/\aa P f (aH β xs) ((cX V w).ar (L.map (eN st.boxes γ w.heap.size))) (R γ):=by
     intro R hv;have G:=iU hv β;generalize hγ:(λt=>if t∈L then β t else (λ_=>0) t)=γ at G;have F:∀s∈L,γ s=β s:=λs g=>by rw [←hγ];simp [g]
     have AA:∀s∈L,∀b,st.boxes s=some b->b.obj γ=b.obj β:=λs g b p=>aW.dG λt X=>F t (a3 s g b p t X)
     have ⟨B,b8⟩:=AV G (by
      intro s g b p l;rw [F s g,AA s g b p];exact ⟨hM.boxes s b p l,aG (hM.boxes s b p l),hM.yg s b p l⟩) (by
      intro s g t X b b' p l c3 l' e;rw [F s g,F t X] at e;exact hM.inj s t b b' p l c3 l' e)
     refine ⟨γ,F,B,?_⟩
     have D:aH γ xs=aH β xs:=by unfold aH;rw [Qv2 λx u=>SV.bZ λs g=>F s (a5 x u s g)]
     rw [←D];exact b8
    have a1:∀{give:md} {mm:Option Nat} {d:Nat} {Z:TypeId},dst=some d->(∀k,mm=some k->k∈L)->lr st mm d=true ->
      (∀V':ut,V.Le V'->mP L (λ_=>0) λγ=>jY st.boxes γ V' L (aa P f (aH γ xs) (V'.ar (L.map (eN st.boxes γ V'.w.heap.size))) (cI T give sh L mm d Z γ st V' K))) ->
      iC P f/\Calls P f (aH β xs) w λ
       | .returned v,w''=>next (a.put dst v) w''
       | .panicked chain,w''=>Q (.panic chain) a w''
       | .outgrown,_=>LetsOut Q:=by
     intro give mm d Z a9 c4 q hv;have ⟨γ,F,B,hc,U⟩:=a8 (R:=λγ=>cI T give sh L mm d Z γ st (cX V w) K) (hv (cX V w) hle);refine ⟨hc,Calls.s U ?_⟩;rintro e w' ⟨r,rfl,u,Y⟩;have ⟨st',β',V',E,M⟩:=pU hM F a3 B (hd d a9) c4 q u Y;rw [a9];exact hK _ _ _ _ _ E M
    have b9:∀k,k∈uF st.boxes L->k∈L:=by
     intro k W;unfold uF at W;have ⟨s,g,W⟩:=Qy1.1 (cA.1 W);split at W
     ·rename_i cs ty p;refine a3 s g _ p k ?_
      have:∀cs:pz C,k∈sU cs->k∈cs.flatMap C.ids:=by
       intro cs
       induction cs with
       | nil=>exact λh=>nomatch h
       | cons c r ih=>
        intro h;rw [Qy0,Qw3]
        cases c<;>simp only [sU,Qq5] at h<;>first
         | exact .inr (ih h)
         | (rcases h with h|h
            ·left;simp [C.ids,h]
            ·exact .inr (ih h))
      exact this cs W
     ·cases W
    have c0:∀k,k∈oa xs->k∈L:=by
     intro k W
     have:∀xs:pz SV,k∈oa xs->∃x∈xs,k∈x.ids:=by
      intro xs
      induction xs with
      | nil=>exact λh=>nomatch h
      | cons x r ih=>
       intro h;unfold oa at h;split at h
       ·rename_i heq;cases heq
       ·rename_i s n c r' heq;cases heq;exact ⟨.c (.eJ s n c),Qw5,h⟩
       ·rename_i s n c r' heq;cases heq;exact ⟨.c (.oI s 0 n c),Qw5,h⟩
       ·rename_i heq;cases heq;have ⟨y,hy,W⟩:=ih h;exact ⟨y,by simp [hy],W⟩
     have ⟨x,u,W⟩:=this xs W;exact a5 x u k W
    split at hv
    ·exact hv.elim
    ·exact hv.elim
    ·
     split at hv
     ·split at hv;{exact hv.elim};{rename_i q;exact a1 rfl (λk W=>by cases W) q hv}
     ·rename_i d Z k _ c5 _;split at hv
      ·split at hv;{exact hv.elim};{rename_i q;exact a1 rfl (λj hj=>by cases hj;exact c0 k (by rw [c5];simp)) q hv}
      ·split at hv
       ·exact hv.elim
       ·rename_i q;split at hv
        ·exact hv.elim
        ·
         rename_i z;rw [Qz4] at z;let Vr:ut:=⟨w,λb=>(b<w.heap.size/\∀o,¬V.bg b o)/\¬∃s∈L,∃I,st.boxes s=some I/\I.live/\β s=b,λ_=>False,λ_ h=>h.1.1,λ_ h=>h.elim⟩;have a0:V.Le Vr:=λb o p=>⟨λh=>h.1.2 o p,(hM.qZ b o p).1⟩
         have H9:Mod n V0 bQ β0 (eG st L 0) β a w Vr:=by have J6:=hM.J1 (L:=L) (ty:=0);refine ⟨J6.defers,J6.size,J6.ax,J6.CL,J6.CK,J6.boxes,J6.inj,?_,?_,J6.ext,J6.own,J6.nJ,J6.my,hM.small⟩;{rintro b o ⟨E,M⟩;refine ⟨M,λhH=>?_⟩;have N:=aG M;apply E;refine ⟨⟨N,λo' O=>(hM.qZ b o' O).2 hH⟩,λhm=>?_⟩;obtain ⟨s,g,I,J,l0,rfl⟩:=hm;rcases hM.own s I J l0 with h|h;{have:=V0.hH _ hH;omega};{have:=Qk0 (z s g);omega}};{rintro s b p l o ⟨E,-⟩;rw [br] at p;split at p;{cases p;exact absurd l fQ};{rename_i a6;refine E ⟨⟨aG (hM.boxes s b p l),hM.yg s b p l⟩,λhm=>?_⟩;obtain ⟨s',a2,bs,a7,ls,he⟩:=hm;exact a6 (hM.inj s' s bs b a7 ls p l he▸a2)}}
         have G:=iU (hv (cX Vr w) (a0.m (wZ H9))) β;generalize hγ:(λt=>if t∈L then β t else (λ_=>0) t)=γ at G;have F:∀s∈L,γ s=β s:=λs g=>by rw [←hγ];simp [g]
         have ⟨B,hc,U⟩:=jf G (by
          intro s g b p l;rw [F s g,aW.dG λt X=>F t (fM a4 g p t X)];exact wZ H9 _ _ ⟨λh=>h.2 ⟨s,g,b,p,l,rfl⟩,hM.boxes s b p l⟩)
         refine ⟨hc,?_⟩
         have D:aH γ xs=aH β xs:=by unfold aH;rw [Qv2 λx u=>SV.bZ λs g=>F s (a5 x u s g)]
         rw [D] at U;refine Calls.s U ?_;rintro e' w' ⟨r,rfl,u,Y⟩;have A:iP (λb=>b∈([]:pz Nat).map (eN (eG st L 0).boxes (λ_=>0) w.heap.size)/\(cX Vr w).H b) w w':=u.s λ_ h=>h.elim
         have b3:cI T true sh [] Option.none d Z (λ_=>0) (eG st L 0) (cX Vr w) K r (((cX Vr w).ar (([]:pz Nat).map (eN (eG st L 0).boxes (λ_=>0) w.heap.size))).to w' A.size):=by unfold cI Ix at Y ⊢;exact Y
         have ⟨st',β',V',E,M⟩:=pU (T:=T) (give:=true) (m:=Option.none) H9 (λs g=>absurd g (by simp)) (λs g=>absurd g (by simp)) (λs g=>absurd g (by simp)) (hd d rfl) (λk W=>by cases W) q A b3;grind
     ·split at hv
      ·exact hv.elim
      ·
       rename_i z;rw [Qz4] at z;let Vr:ut:=⟨w,λb=>(b<w.heap.size/\∀o,¬V.bg b o)/\¬∃s∈L,∃I,st.boxes s=some I/\I.live/\β s=b,λ_=>False,λ_ h=>h.1.1,λ_ h=>h.elim⟩;have a0:V.Le Vr:=λb o p=>⟨λh=>h.1.2 o p,(hM.qZ b o p).1⟩;have G:=iU (hv Vr a0) β;generalize hγ:(λt=>if t∈L then β t else (λ_=>0) t)=γ at G;have F:∀s∈L,γ s=β s:=λs g=>by rw [←hγ];simp [g]
       have ⟨B,hc,U⟩:=jf G (by
        intro s g b p l;rw [F s g,aW.dG λt X=>F t (fM a4 g p t X)];exact ⟨λh=>h.2 ⟨s,g,b,p,l,rfl⟩,hM.boxes s b p l⟩)
       refine ⟨hc,?_⟩
       have D:aH γ xs=aH β xs:=by unfold aH;rw [Qv2 λx u=>SV.bZ λs g=>F s (a5 x u s g)]
       rw [D] at U;refine Calls.s U ?_;rintro e w' ⟨r,rfl,u,Y⟩;obtain ⟨x,A,rfl,S⟩:=Sh.fA sh Y;have u:iP (λ_=>False) w w':=u;refine hK _ β _ _ _ ?_ S
       have b4:Mod n V0 bQ β0 (eG st L 0) β a w' (Vr.to w' u.size):=by refine (hM.J1 (L:=L) (ty:=0)).later u (λ_ _ _ _ h=>h) (λ_ _ h=>h.elim) ?_ ?_;{rintro b o ⟨E,M⟩;refine ⟨M,λhH=>?_⟩;by_cases N:b<w.heap.size;{apply E;refine ⟨⟨N,λo' O=>(hM.qZ b o' O).2 hH⟩,λhm=>?_⟩;obtain ⟨s,g,I,J,l0,rfl⟩:=hm;rcases hM.own s I J l0 with h|h;{have:=V0.hH _ hH;omega};{have:=Qk0 (z s g);omega}};{have:=V0.hH b hH;omega}};{rintro s b p l o ⟨E,-⟩;rw [br] at p;split at p;{cases p;exact absurd l fQ};{rename_i a6;refine E ⟨⟨aG (hM.boxes s b p l),hM.yg s b p l⟩,λhm=>?_⟩;obtain ⟨s',a2,bs,a7,ls,he⟩:=hm;exact a6 (hM.inj s' s bs b a7 ls p l he▸a2)}}
       exact b4.IY hd (j9 A _ _) (ct A)
     ·exact hv.elim
    ·
     split at hv
     ·have ⟨γ,F,B,hc,U⟩:=a8 (R:=λγ r' fu=>sh.ex λx=>r'=x.den (λ_=>0)/\fP T Option.none γ fu L st λst'=>K (st'.put dst x) fu.shut) (hv (cX V w) hle);refine ⟨hc,Calls.s U ?_⟩;rintro e w' ⟨r,rfl,u,Y⟩;obtain ⟨x,A,rfl,S⟩:=Sh.fA sh Y;have u:iP (λb=>b∈L.map (eN st.boxes γ w.heap.size)/\(cX V w).H b) w w':=u;generalize hV1:(((cX V w).ar (L.map (eN st.boxes γ w.heap.size))).to w' u.size)=V2 at S;have c1:V2.w=w':=by rw [←hV1];rfl
      have c2:∀b,(b∈L.map (eN st.boxes γ w.heap.size)/\(cX V w).H b)->∃s∈L,∃I,st.boxes s=some I/\I.live/\β s=b:=by rintro b ⟨E,M⟩;have ⟨s,g,I,J,l0,he⟩:=AR B E M.1;exact ⟨s,g,I,J,l0,by rw [←F s g];exact he⟩
      have Of:∀b o,V2.shut.bg b o->w'.heap[b]?=some o/\¬(b<w.heap.size/\∀o,¬V.bg b o):=by rintro b o ⟨E,M⟩;rw [←hV1] at E M;exact ⟨M,E⟩
      have yf:∀s b,st.boxes s=some b->b.live->∀o,¬V2.shut.bg (β s) o:=λs b p l o ho=>
       (Of _ o ho).2 ⟨aG (hM.boxes s b p l),hM.yg s b p l⟩
      have J6:Mod n V0 bQ β0 (eG st L 0) β a w' V2.shut:=by refine (hM.J1 (L:=L) (ty:=0)).later u ?_ ?_ ?_ ?_;{intro t b p l hX;rw [br] at p;split at p;{cases p;exact fQ l};{rename_i X;have ⟨s,g,I,J,l0,he⟩:=c2 _ hX;exact X (hM.inj s t I b J l0 p l he▸g)}};{intro i hi hX;obtain ⟨s,g,I,J,l0,rfl⟩:=c2 _ hX;rcases hM.own s I J l0 with h|h;{omega};{exact hM.my _ h.2}};{intro b o h;have ⟨E,M⟩:=Of b o h;refine ⟨E,λhH=>?_⟩;by_cases N:b<w.heap.size;{exact M ⟨N,λo' O=>(hM.qZ b o' O).2 hH⟩};{have:=V0.hH b hH;omega}};{intro t b p l;rw [br] at p;split at p;{cases p;exact absurd l fQ};{exact yf t b p l}}
      have ld:=AU S
      have ⟨st',g1,g2,g3,g4⟩:=n_ (a:=a) (w:=w') (V:=V2.shut) (γ:=γ) (β:=β) c1 F
       (by
        intro s g s' a2 he;have ⟨b1,e1,l1⟩:=ld s g;have ⟨b2,e2,l2⟩:=ld s' a2;exact hM.inj s s' b1 b2 e1 l1 e2 l2 he)
       (by intro s g;have ⟨b1,e1,l1⟩:=ld s g;exact yf s b1 e1 l1)
       (by intro s g;have ⟨b1,e1,l1⟩:=ld s g;exact hM.own s b1 e1 l1)
       L st (eG st L 0) (λ_ h=>h) J6 jI.symm (by intro t X;rw [br,if_neg X])
       (by intro s g;rw [br,if_pos g];exact ⟨_,rfl⟩)
       (by
        intro t b X l Un s g he;rw [br,if_neg Un] at X;have ⟨b1,e1,l1⟩:=ld s g;exact Un (hM.inj t s b b1 X l e1 l1 he▸g))
       (by
        intro s g b p t X;have Wp:=a3 s g b p t X;exact ⟨by rw [br,if_pos Wp];exact ⟨_,rfl⟩,F t Wp⟩)
       (λm nb e=>by cases e) S
      exact hK _ _ _ _ _ (g1.IY hd (j9 A _ _) (ct A)) g4
     ·rename_i k c6;split at hv;{rename_i d Z _;split at hv;{exact hv.elim};{rename_i q;exact a1 rfl (λj hj=>by cases hj;exact b9 k (by rw [c6];simp)) q hv}};{exact hv.elim}
     ·exact hv.elim
    ·
     split at hv
     ·exact hv.elim
     ·rename_i z;rw [Qz4] at z;let Vr:ut:=⟨w,λb=>(b<w.heap.size/\∀o,¬V.bg b o)/\¬∃s∈L,∃I,st.boxes s=some I/\I.live/\β s=b,λ_=>False,λ_ h=>h.1.1,λ_ h=>h.elim⟩;have a0:V.Le Vr:=λb o p=>⟨λh=>h.1.2 o p,(hM.qZ b o p).1⟩;have G:=iU (hv Vr a0) β;generalize hγ:(λt=>if t∈L then β t else (λ_=>0) t)=γ at G;have F:∀s∈L,γ s=β s:=λs g=>by rw [←hγ];simp [g]
      have ⟨B,hc,U⟩:=jf G (by
       intro s g b p l;rw [F s g,aW.dG λt X=>F t (fM a4 g p t X)];exact ⟨λh=>h.2 ⟨s,g,b,p,l,rfl⟩,hM.boxes s b p l⟩)
      refine ⟨hc,?_⟩
      have D:aH γ xs=aH β xs:=by unfold aH;rw [Qv2 λx u=>SV.bZ λs g=>F s (a5 x u s g)]
      rw [D] at U;refine Calls.s U ?_;rintro e w' ⟨r,rfl,u,Y⟩;obtain ⟨x,A,rfl,S⟩:=Sh.fA sh Y;have u:iP (λ_=>False) w w':=u;refine hK ((st.rel L γ (C.den β)).put dst x) β _ _ _ ?_ (S (C.den β));have H9:=hM.rel (L:=L) (β':=γ) F
      have b4:Mod n V0 bQ β0 (st.rel L γ (C.den β)) β a w' (Vr.to w' u.size):=by refine H9.later u (λ_ _ _ _ h=>h) (λ_ _ h=>h.elim) ?_ ?_;{rintro b o ⟨E,M⟩;refine ⟨M,λhH=>?_⟩;by_cases N:b<w.heap.size;{apply E;refine ⟨⟨N,λo' O=>(hM.qZ b o' O).2 hH⟩,λhm=>?_⟩;obtain ⟨s,g,I,J,l0,rfl⟩:=hm;rcases hM.own s I J l0 with h|h;{have:=V0.hH _ hH;omega};{have:=Qk0 (z s g);omega}};{have:=V0.hH b hH;omega}};{rintro s b p l o ⟨E,-⟩;obtain ⟨a6,y,hy,rfl⟩:=jg p;have ly:=aW.iJ l;refine E ⟨⟨aG (hM.boxes s y hy ly),hM.yg s y hy ly⟩,λhm=>?_⟩;obtain ⟨s',a2,bs,a7,ls,he⟩:=hm;exact a6 (hM.inj s' s bs y a7 ls hy ly he▸a2)}
      exact b4.IY hd (j9 A _ _) (ct A)
def Mod.release (hM:Mod n V0 bQ β0 st β a w V){l:pz Nat}{K:St->ut->Prop}(hv:Nm l st V K):∃st' V',Mod n V0 bQ β0 st' β a w V'/\V.Le V'/\K st' V':=by
 unfold Nm at hv;split at hv
 ·exact ⟨st,V,hM,λ_ _ h=>h,hv⟩
 ·rename_i D E;split at hv
  ·exact hv.elim
  ·rename_i k;generalize hL:D::E=L at hv k;rw [Qx1,Qz4] at k;obtain ⟨m,d⟩:=k;let Vr:ut:=⟨w,λb=>(b<w.heap.size/\∀o,¬V.bg b o)/\¬∃s∈L,∃j,st.boxes s=some j/\j.live/\β s=b,λ_=>False,λ_ h=>h.1.1,λ_ h=>h.elim⟩;have e:V.Le Vr:=λb o f=>⟨λh=>h.1.2 o f,(hM.qZ b o f).1⟩;have i:=iU (hv Vr e) β;generalize hγ:(λt=>if t∈L then β t else (λ_=>0) t)=γ at i;have p:∀s∈L,γ s=β s:=λs g=>by rw [←hγ];simp [g]
   have ⟨q,F⟩:=jf i (by
    intro s g b f l;rw [p s g,aW.dG λt G=>p t (fM m g f t G)];exact ⟨λh=>h.2 ⟨s,g,b,f,l,rfl⟩,hM.boxes s b f l⟩)
   have c:=hM.rel (L:=L) (β':=γ) p;refine ⟨_,Vr,?_,e,F (C.den β)⟩;refine ⟨c.defers,c.size,c.ax,c.CL,c.CK,c.boxes,c.inj,?_,?_,c.ext,c.own,c.nJ,c.my,hM.small⟩
   ·rintro b o ⟨r,z⟩;refine ⟨z,λhH=>?_⟩;have u:=aG z;apply r;refine ⟨⟨u,λH v=>(hM.qZ b H v).2 hH⟩,λhm=>?_⟩;obtain ⟨s,g,j,x,I,rfl⟩:=hm;rcases hM.own s j x I with h|h;{have:=V0.hH _ hH;omega};{have:=Qk0 (d s g);omega}
   ·rintro s b f l o ⟨r,-⟩;obtain ⟨J,y,A,rfl⟩:=jg f;have B:=aW.iJ l;refine r ⟨⟨aG (hM.boxes s y A B),hM.yg s y A B⟩,λhm=>?_⟩<;>grind [hM.inj]
def BH {bx:Nat->Option aW}{β:Nat->Nat}:∀{xs xs':pz SV} {vs:pz un} {c:Nat},oJ bx xs=some (vs,c,xs')->c=0->xs'.map (SV.den β)=xs.map (SV.den β)
 | [],_,_,_,h,_=>nomatch h
 | x::r,xs',vs,c,h,hc=>by
  simp only [oJ] at h;split at h
  ·split at h
   ·cases h;subst hc;simp [SV.den,C.den,mA]
   ·cases h
  ·split at h
   ·rename_i e;cases h;rw [Qn3,Qn3,BH e hc]
   ·cases h
def BI {bx:Nat->Option aW}:∀{xs xs':pz SV} {vs:pz un} {c:Nat},oJ bx xs=some (vs,c,xs')->∀t∈xs'.flatMap SV.ids,t∈xs.flatMap SV.ids
 | [],_,_,_,h=>nomatch h
 | x::r,xs',vs,c,h=>by
  simp only [oJ] at h;split at h
  ·grind [SV.ids,C.ids]
  ·split at h
   ·rename_i e;cases h;intro t ht;rw [Qy0,Qw3] at ht ⊢;exact ht.imp_right (BI e t)
   ·cases h
def uZ {bx bx':Nat->Option aW}:∀{xs:pz SV},(∀s∈xs.flatMap SV.ids,bx' s=bx s)->oJ bx' xs=oJ bx xs
 | [],_=>rfl
 | x::r,h=>by
  have ih:=uZ (xs:=r) λs a=>h s (by rw [Qy0];exact Qk6 _ a);simp only [oJ];grind [SV.ids,C.ids]
def Aj (hM:Mod n V0 bQ β0 st β a w V){m:CM}{f:FuncId}{xs:pz SV}{ty:TypeId}{dst:Option Nat}{K:St->ut->Prop}{next:Act->World->Prop}{Q:Exit->Act->World->Prop}
  (hd:∀d,dst=some d->d<n)(hv:mJ P T m f xs ty dst st V K)
  (hK:∀st' β' a' w' V',Mod n V0 bQ β0 st' β' a' w' V'->K st' V'->next a' w') :
  iC P f/\Calls P f (aH β xs) w λ
   | .returned v,w''=>next (a.put dst v) w''
   | .panicked chain,w''=>Q (.panic chain) a w''
   | .outgrown,_=>LetsOut Q:=by unfold mJ at hv;split at hv;{split at hv;{rename_i b c g e;by_cases h:b=[];{have ⟨i,j⟩:=hv.1 h;have:=mg (Q:=Q) hM hd j hK;unfold aH at this ⊢;rw [BH e i] at this;exact this};{exact mg hM hd (hv.2 h) hK}};{exact mg hM hd hv hK}};{exact mg hM hd hv hK}
end Go.Eng
