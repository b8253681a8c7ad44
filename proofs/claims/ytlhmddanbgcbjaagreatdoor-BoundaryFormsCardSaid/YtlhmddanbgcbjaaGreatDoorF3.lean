import Derived.Test.YtlhmddanbgcbjaaGreatDoorF2
set_option linter.all false
open Go.IntKind (i64 u64 u32)
namespace Go.Eng
section
variable {P:Program} {T:eu} {n:Nat} {V0:Ó} {bQ:Lt} {β0:Nat->Nat} {st:St} {β:Nat->Nat} {a:Act} {w:World} {V:Ó}
def dX {x:Nat}{l:pz Nat}:iZ x l=true↔x∈l:=by
 induction l with
 | nil=>simp [iZ]
 | cons y r ih=>
  simp only [iZ,å];grind [beq_eq.1,Nat.beq_refl]
theorem oQ {x:Nat}{l:pz Nat}:iZ x l=false↔x∉l:=by rw [<-dX];cases iZ x l<;>simp
def Jt {l m:pz Nat}:Ef l m=true↔∀x∈l,x∉m:=by unfold Ef;grind [oQ]
theorem C.jK {L:pz Nat}{β':Nat->Nat}(hβ:∀s∈L,β' s=β s)(c:C):(c.rel L β' (C.den β)).den β=c.den β/\∀s∈(c.rel L β' (C.den β)).ids,s∈c.ids/\s∉L:=by cases c<;>grind [C.rel,C.den,dX.1,C.ids,oQ.1,Jt.1]
def vH {L:pz Nat}{β':Nat->Nat}(hβ:∀s∈L,β' s=β s)(cs:pz C):(cs.map (C.rel L β' (C.den β))).map (C.den β)=cs.map (C.den β)/\∀s∈(cs.map (C.rel L β' (C.den β))).flatMap C.ids,s∈cs.flatMap C.ids/\s∉L:=by refine ⟨?_,λs a=>?_⟩;{rw [Wx6];exact Ŗ λc _=>(C.jK hβ c).1};{grind [C.jK]}
theorem SV.jK {L:pz Nat}{β':Nat->Nat}(hβ:∀s∈L,β' s=β s)(x:SV):(x.rel L β' (C.den β)).den β=x.den β/\∀s∈(x.rel L β' (C.den β)).ids,s∈x.ids/\s∉L:=by
 cases x with
 | c c=>exact C.jK hβ c
 | agg cs=>
  have ⟨a,d⟩:=vH hβ cs;exact ⟨by simp only [SV.rel,SV.den,a],d⟩
 | wF xs=>
  refine ⟨?_,λs e=>?_⟩
  ·simp only [SV.rel,SV.den,Wx6];congr 2;apply Ŗ;rintro ⟨b,cs⟩ -
   have a:=(vH hβ cs).1
   cases b with
   | true=>simp only [Function.comp,kz,a]
   | false=>
    match cs with
    | []=>rfl
    | [x]=>simp only [Function.comp,Ļ,List.map_nil,kz];exact (C.jK hβ x).1
    | _::_::_=>rfl
  ·have ⟨i,f,e⟩:=Đ.1 e;obtain ⟨y,g,rfl⟩:=ò.1 f;obtain ⟨a,d⟩:=(vH hβ y.2).2 s e;exact ⟨Đ.2 ⟨y,g,a⟩,d⟩
theorem aX.jK {L:pz Nat}{β':Nat->Nat}(hβ:∀s∈L,β' s=β s)(b:aX):(b.rel L β' (C.den β)).obj β=b.obj β/\∀s∈(b.rel L β' (C.den β)).cs.ids,s∈b.cs.ids/\s∉L:=by obtain ⟨cs,ty⟩:=b;(cases cs with|lit cs=>{have ⟨c,d⟩:=vH hβ cs;exact ⟨by simp only [aX.rel,aX.obj,ã.den,c],d⟩}|row vs=>{exact ⟨rfl,λs a=>by cases a⟩}|aB vs=>{exact ⟨rfl,λs a=>by cases a⟩})
theorem aX.iS {L:pz Nat}{β':Nat->Nat}{J:C->un}{b:aX}(h:(b.rel L β' J).live):b.live:=by obtain ⟨cs,ty⟩:=b;(cases cs with|aB vs=>exact h|_=>grind [dP,dQ])
theorem F_ {L:pz Nat}{β':Nat->Nat}{J:C->un}{t:Nat}{x:SV}(h:(st.rel L β' J).ay t=some x):∃y,st.ay t=some y/\x=y.rel L β' J:=by grind [St.rel]
theorem jv {L:pz Nat}{β':Nat->Nat}{J:C->un}{t:Nat}{x:aX}(h:(st.rel L β' J).boxes t=some x):t∉L/\∃y,st.boxes t=some y/\x=y.rel L β' J:=by grind [St.rel,oQ.1]
theorem iS {L:pz Nat}{β':Nat->Nat}{J:C->un}{t:Nat}(h:∃b,st.boxes t=some b)(hn:t∉L):∃b,(st.rel L β' J).boxes t=some b:=by obtain ⟨b,a⟩:=h;refine ⟨b.rel L β' J,?_⟩<;>grind [St.rel,oQ.2]
theorem Ü.rel (h:Ü n V0 bQ β0 st β a w V){L:pz Nat}{β':Nat->Nat}(hβ:∀s∈L,β' s=β s):Ü n V0 bQ β0 (st.rel L β' (C.den β)) β a w V where
 defers:=h.defers
 size:=h.size
 ay:=by grind [F_,h.ay,SV.jK]
 DX:=by
  intro t x i s d;obtain ⟨y,c,rfl⟩:=F_ i;obtain ⟨e,f⟩:=(SV.jK hβ y).2 s d;exact iS (h.DX t y c s e) f
 DW:=by intro t b g s d;obtain ⟨-,y,c,rfl⟩:=jv g;obtain ⟨e,f⟩:=(aX.jK hβ y).2 s d;exact iS (h.DW t y c s e) f
 boxes:=by grind [jv,h.boxes,aX.iS,aX.jK]
 inj:=by grind [jv,h.inj,aX.iS]
 rS:=h.rS
 zy:=by grind [jv,h.zy,aX.iS]
 ext:=h.ext
 own:=by intro t b g l;obtain ⟨-,y,c,rfl⟩:=jv g;exact h.own t y c (aX.iS l)
 n_:=h.n_
 mJ:=h.mJ
 small:=h.small
def Ü.kj (h:Ü n V0 bQ β0 st β a w V){d g:Nat}{b:aX}(hd:d<n\/200000<=d)(hn:st.boxes d=none)(lA:b.cs.ids=[])(hg:∀s b',st.boxes s=some b'->b'.live->β s≠g)(hV:∀o,¬V.bg g o)(hown:V0.w.heap.size<=g\/(100000<=d/\bQ.B g)){w':World}(hw:w'.heap[g]?=some (b.obj β))(hk:∀i,i<w.heap.size->i≠g->w'.heap[i]?=w.heap[i]?)(hsz:w.heap.size<=w'.heap.size)(hos:w'.os=w.os)(ht:w'.tape=w.tape)(hout:w'.output=w.output)(hdr:w.drawn<=w'.drawn:=by first|exact Ù _|exact Ww2 _):Ü n V0 bQ β0 (st.box d b) (cU β d g) a w' V:=by have u:∀s b',st.boxes s=some b'->s≠d:=λs b' c e=>by{rw [e,hn] at c;cases c};have hβ:∀s b',st.boxes s=some b'->cU β d g s=β s:=λs b' c=>iW _ _ (u s b' c);have v:∀s b',st.boxes s=some b'->b'.live->β s<w.heap.size:=λs b' c l=>aG (h.boxes s b' c l);have C:∀b' o,V.bg b' o->b'<w.heap.size:=λb' o D=>aG (h.rS b' o D).1;refine ⟨h.defers,h.size,?_,?_,?_,?_,?_,?_,?_,?_,?_,?_,h.mJ,h.small⟩;{intro t x p;rw [h.ay t x p];exact SV.b_ λs c=>by{have ⟨b',f⟩:=h.DX t x p s c;exact (hβ s b' f).symm}};{intro t x p s c;have ⟨b',f⟩:=h.DX t x p s c;grind [aj]};{grind [aj,h.DW]};{intro s b' c l;rw [aj] at c;split at c;{rename_i e;simp only [ý] at c;rw [e,a_,hw,<-c];grind [aX.dJ]};{rw [hβ s b' c,hk _ (v s b' c l) (hg s b' c l),h.boxes s b' c l];grind [aX.dJ,h.DW]}};{intro s y z A j E k F he;rw [aj] at j k;split at j<;>split at k;{rename_i q r;rw [q,r]};{rename_i q r;rw [q,a_,hβ y A k] at he;exact Å he.symm (hg y A k F)};{rename_i q r;rw [r,a_,hβ s z j] at he;exact Å he (hg s z j E)};grind [h.inj]};{grind [h.rS]};{intro s b' c l o m;rw [aj] at c;split at c;{rename_i e;rw [e,a_] at m;exact hV o m};grind [h.zy]};{refine ⟨ā h.ext.size hsz,λi G H=>?_,hos.m h.ext.os,ht.m h.ext.tape,hout.m h.ext.out,ā h.ext.dr hdr⟩<;>grind [h.mJ,h.ext.bg]};{intro s b' c l;rw [aj] at c;split at c;{rename_i e;rw [e,a_];exact hown};{rw [hβ s b' c];exact h.own s b' c l}};{intro s c;have ⟨j,k⟩:=h.n_ s c;grind [iW,h.small]}
theorem Ff {t t' e e':TypeId}{ty:TypeId}(ht:P.underlying t=some (.slice e))(JC:P.underlying t'=some (.slice e'))(b xa:OA)(m c k xc:Nat):(Builtin.append_ #[t,t'] ty #[.slice b m c,.slice xa k xc]).run P w=(Builtin.append_ #[t,t] ty #[.slice b m c,.slice xa k xc]).run P w:=by simp [Builtin.append_,ai ht,ai JC]
theorem A7 {t e:TypeId}{ty:TypeId}{info:TypeInfo}(ht:P.underlying t=some (.slice e))(hi:P.info? e=some info)(base:OA)(m c c':Nat)(hc:m<=c):(Builtin.append_ #[t,t] ty #[.slice base m c,.slice none 0 c']).run P w=.ok (.slice base m c) w:=by cases base<;>simp [Builtin.append_,ai ht,aT hi,Builtin.lenOf,Builtin.firstCells,storeCells,hc]
def pW (hM:Ü n V0 bQ β0 st β a w V){s:Nat}{vs:pz un}{ty:TypeId}(h:fY st.boxes s=some vs)(ht:nh st.boxes s=some ty):w.heap[β s]?=some (.cells vs.toArray ty (0,0))/\∃b,st.boxes s=some b/\b.live:=by unfold fY at h;unfold nh at ht;split at h;{rename_i cs d c;rw [c] at ht;simp only [ý] at ht;subst ht;have:=hM.row c dP;grind [ã.den,gH,dP]};{rename_i ws d c;rw [c] at ht;simp only [ý,ý] at ht h;subst ht;subst h;exact ⟨hM.row c dQ,_,c,dQ⟩};{cases h}
def LC {bx:Nat->Option aX}{s:Nat}{vs:pz un}(h:fY bx s=some vs):∃ty,nh bx s=some ty:=by unfold fY at h;unfold nh;split at h;{rename_i a;rw [a];exact ⟨_,rfl⟩};{rename_i a;rw [a];exact ⟨_,rfl⟩};{cases h}
theorem CL (hM:Ü n V0 bQ β0 st β a w V){ad:Addr}{xs:pz un}(h:V.sl (some ad) xs):∀j v,xs[j]?=some v->w.cell? (ad.add j)=some v:=by intro j v b;have ⟨c,e,d⟩:=h j v b;grind [hM.atV]
def Src (w:World)(xa:OA)(k size:Nat)(xs:List Value):Prop:=
 xs.length=k*size/\(∀v∈xs,v.oneCell'=true)/\((∃ad,xa=some ad/\∀j v,xs[j]?=some v->w.cell? (ad.add j)=some v)\/xa=none/\k=0)
def Ry {t e ty:TypeId}{info:TypeInfo}(ht:P.underlying t=some (.slice e))(hi:P.info? e=some info){g m c k xc:Nat}{vs xs:pz un}{xa:OA}(hg:w.heap[g]?=some (.cells vs.toArray e (0,0)))(hx:Src w xa k info.size xs)(hc:m+k<=c)(hv:c*info.size<=vs.length):∃w',(Builtin.append_ #[t,t] ty #[.slice (some ⟨g,0,none⟩) m c,.slice xa k xc]).run P w=.ok (.slice (some ⟨g,0,none⟩) (m+k) c) w'/\w'.heap=w.heap.setIfInBounds g (.cells (vs.take (m*info.size)++xs++vs.drop (m*info.size+xs.length)).toArray e (0,0))/\w'.os=w.os/\w'.tape=w.tape/\w'.output=w.output/\w.drawn<=w'.drawn:=by obtain ⟨d,f,hx⟩:=hx;rcases hx with ⟨h,rfl,a⟩|⟨rfl,rfl⟩;{have b:m*info.size+xs.length<=vs.length:=by{rw [d,<-đ];exact ā (ÿ _ hc) hv};exact ⟨_,(run_append_room (P:=P) w t ty e info ht hi g m c vs.toArray hg h k xc xs d a f hc (by simpa using b)),by rw [lN hg],rfl,rfl,rfl,Ù _⟩};{grind [A7,List.take_append_drop]}
def Fe {t e ty:TypeId}{info:TypeInfo}{z:un}(ht:P.underlying t=some (.slice e))(hi:P.info? e=some info)(hz:info.zero=some z)(hzs:z.cells.size=info.size){m c k xc:Nat}{olds xs:pz un}{base xa:OA}(hbase:(∃b,base=some b/\olds.length=m*info.size/\∀j v,olds[j]?=some v->w.cell? (b.add j)=some v)\/base=none/\m=0/\c=0/\olds=[])(hx:Src w xa k info.size xs)(hc:c<m+k)(hb:(m+k)*info.bytes<=2^47)(hb0:info.bytes≠0)(hmc:m<=c):∃(c':Nat)(rest:pz un)(w':World),m+k<=c'/\(m+k)*info.size+rest.length=c'*info.size/\w'.heap=w.heap/\w'.os=w.os/\w'.tape=w.tape/\w'.output=w.output/\w.drawn<=w'.drawn/\(Builtin.append_ #[t,t] ty #[.slice base m c,.slice xa k xc]).run P w=.ok (.slice (some ⟨w.heap.size,0,none⟩) (m+k) c') (w'.alloc (.cells (olds++xs++rest).toArray e)):=by obtain ⟨g,n,hx⟩:=hx;have f:(m+k:Nat)<=2^47:=by{have:(m+k)*1<=(m+k)*info.bytes:=Ł _ ω;omega};have a:∀N,(m+k)<=N->(m+k)*info.size+(Builtin.zeroCells z.cells (N-(m+k))).toList.length=N*info.size:=by{intro N o;rw [Ww4,size_zeroCells,hzs,<-đ];congr 1;omega};rcases hx with ⟨h,rfl,d⟩|⟨rfl,rfl⟩;{rcases hbase with ⟨b,rfl,i,hold⟩|⟨rfl,rfl,rfl,rfl⟩;{have l:=run_append_grow (P:=P) w t ty e info z ht hi hz b m c olds i hold h k xc xs g d hc ω (growslice_fits hc hb);refine ⟨_,(Builtin.zeroCells z.cells (grownCap w (m+k) c e-(m+k))).toList,w.drew,grownCap_ge w (m+k) c e,a _ (grownCap_ge w (m+k) c e),rfl,rfl,rfl,rfl,Ww2 _,?_⟩;rw [l];congr 3;apply Ŋ;simp};{simp only [ą] at hc hb f a ⊢;refine ⟨_,(Builtin.zeroCells z.cells (grownCap w k 0 e-k)).toList,w.drew,grownCap_ge w k 0 e,a _ (grownCap_ge w k 0 e),rfl,rfl,rfl,rfl,Ww2 _,?_⟩;rw [(run_append_nil (P:=P) w t ty e info z ht hi hz h k xc xs g d ω ω ω)];congr 3;apply Ŋ;simp}};{omega}
def Ho {s d n:Nat}(hd:d<n):sQ s d<n\/200000<=sQ s d:=by unfold sQ;grind
theorem Om {s d:Nat}(hs:100000<=s):100000<=sQ s d:=by unfold sQ;have:Nat.blt s 100000=false:=by{(cases h:Nat.blt s 100000 with|false=>rfl|true=>{have:=Œ h;omega})};grind
def IK (hM:Ü n V0 bQ β0 st β a w V){d:Nat}(hd:d<n){t e ty:TypeId}{info:TypeInfo}{z:un}(ht:P.underlying t=some (.slice e))(hi:P.info? e=some info)(hz:info.zero=some z)(hzs:z.cells.size=info.size)(hb0:info.bytes≠0){s:Nat}{vs xs:pz un}{m c k xc:Nat}{base xa:OA}(hbase:(base=some ⟨β s,0,none⟩/\w.heap[β s]?=some (.cells vs.toArray e (0,0))/\∃b,st.boxes s=some b/\b.live)\/(base=none/\m=0/\c=0/\k≠0))(hx:Src w xa k info.size xs)(hb:(m+k)*info.bytes<=2^47)(hmc:m<=c)(hcv:c*info.size<=vs.length)(hxl:xs.length=k*info.size)(hnb:st.boxes (sQ s d)=none):∃(spare:pz un)(c' g:Nat)(w':World),m+k<=c'/\c'*info.size<=(m+k)*info.size+spare.length/\((c≠0\/k≠0)->c'≠0)/\(Builtin.append_ #[t,t] ty #[.slice base m c,.slice xa k xc]).run P w=.ok (.slice (some ⟨g,0,none⟩) (m+k) c') w'/\∀bx:aX,(bx=⟨.row (vs.take (m*info.size)++xs++spare),e⟩\/bx=⟨.aB (vs.take (m*info.size)++xs++spare),e⟩) ->Ü n V0 bQ β0 ((st.box s ⟨.aB [],e⟩).box (sQ s d) bx) (cU β (sQ s d) g) a w' V:=by
 have y:Ü n V0 bQ β0 (st.box s ⟨.aB [],e⟩) β a w V:=hM.void
 have C:∀bx:aX,∀l:pz un,(bx=⟨.row l,e⟩\/bx=⟨.aB l,e⟩)->bx.cs.ids=[]/\bx.obj β=.cells l.toArray e (0,0):=by rintro bx l (rfl|rfl)<;>exact ⟨rfl,rfl⟩
 have I:∀t b,(st.box s ⟨.aB [],e⟩).boxes t=some b->b.live->st.boxes t=some b/\t≠s:=by grind [aj,fS]
 have J:(∃b,st.boxes s=some b/\b.live)\/True->(s≠sQ s d\/st.boxes s=none)->(st.box s ⟨.aB [],e⟩).boxes (sQ s d)=none\/s=sQ s d:=by grind [aj]
 have h:c<m+k->((∃b,base=some b/\(vs.take (m*info.size)).length=m*info.size/\∀j v,(vs.take (m*info.size))[j]?=some v->w.cell? (b.add j)=some v)\/base=none/\m=0/\c=0/\vs.take (m*info.size)=[]) ->
   (s=sQ s d->st.boxes s=none) ->
   ∃(spare:pz un)(c' g:Nat)(w':World),m+k<=c'/\c'*info.size<=(m+k)*info.size+spare.length/\((c≠0\/k≠0)->c'≠0) /\
   (Builtin.append_ #[t,t] ty #[.slice base m c,.slice xa k xc]).run P w=.ok (.slice (some ⟨g,0,none⟩) (m+k) c') w' /\
   ∀bx:aX,(bx=⟨.row (vs.take (m*info.size)++xs++spare),e⟩\/bx=⟨.aB (vs.take (m*info.size)++xs++spare),e⟩) ->
    Ü n V0 bQ β0 ((st.box s ⟨.aB [],e⟩).box (sQ s d) bx) (cU β (sQ s d) g) a w' V:=by
  intro D hold K;have ⟨c',rest,w',L,U,B,F,p,q,r,M⟩:=Fe (ty:=ty) (xc:=xc) ht hi hz hzs hold hx D hb hb0 hmc;refine ⟨rest,c',w.heap.size,_,L,by rw [<-U];exact Ù _,ω,M,?_⟩;intro bx f;have ⟨G,H⟩:=C bx _ f;have u:w'.heap.size=w.heap.size:=by rw [B]
  by_cases W:s=sQ s d
  ·have X:(st.box s ⟨.aB [],e⟩).box (sQ s d) bx=st.box (sQ s d) bx:=by{grind [St.box]};rw [X];refine hM.kj (Ho hd) hnb G ?_ ?_ (.inl hM.ext.size) ?_ ?_ ?_ F p q r;{intro N O f l he;have:=aG (hM.boxes N O f l);omega};{intro o f;have:=aG (hM.rS _ o f).1;omega};{rw [H,<-u];exact heap_alloc_new _ _};{intro i Q _;rw [fu _ _ ω,B]};{simp [u]}
  ·refine y.kj (Ho hd) (by rw [aj,Ã (Wv1 W)];exact hnb) G ?_ ?_ (.inl hM.ext.size) ?_ ?_ ?_ F p q r;{intro N O f l he;have:=aG (y.boxes N O f l);omega};{intro o f;have:=aG (hM.rS _ o f).1;omega};{rw [H,<-u];exact heap_alloc_new _ _};{intro i Q _;rw [fu _ _ ω,B]};{simp [u]}
 rcases hbase with ⟨rfl,R,S,A,E⟩|⟨rfl,rfl,rfl,Y⟩
 ·have x:s≠sQ s d:=λe=>by{rw [<-e,A] at hnb;cases hnb};by_cases D:m+k<=c;{have ⟨w',M,B,F,p,q,r⟩:=Ry (ty:=ty) (xc:=xc) ht hi R hx D hcv;have T:m*info.size+xs.length<=vs.length:=by{rw [hxl,<-đ];exact ā (ÿ _ D) hcv};refine ⟨vs.drop (m*info.size+xs.length),c,β s,w',D,by rw [Ĵ,hxl,đ];omega,ω,M,?_⟩;intro bx f;have ⟨G,H⟩:=C bx _ f;refine y.kj (Ho hd) (by rw [aj,Ã (Wv1 x)];exact hnb) G ?_ (hM.zy s S A E) ?_ ?_ ?_ (by rw [B];simp) F p q r;{grind [hM.inj]};{rcases hM.own s S A E with L|L<;>grind [Om]};{rw [B,Array.getElem?_setIfInBounds,Ä rfl,Ä (aG R),H]};grind};{refine h ω (.inl ⟨⟨β s,0,none⟩,rfl,?_,?_⟩) (λe=>Å e x);{rw [é,ģ];exact ā (ÿ _ hmc) hcv};grind [gP,cell_of_row]}
 ·refine h ω (.inr ⟨rfl,rfl,rfl,ψ⟩) (λe=>by rw [e];exact hnb)
def A8 (hM:Ü n V0 bQ β0 st β a w V){K:St->ut->Prop}{d:Nat}(hd:d<n){t e ty:TypeId}{info:TypeInfo}{z:un}(ht:P.underlying t=some (.slice e))(hi:P.info? e=some info)(hz:info.zero=some z)(hzs:z.cells.size=info.size)(hb0:info.bytes≠0){s:Nat}{vs xs:pz un}{m c k xc:Nat}{xa:OA}(hg:w.heap[β s]?=some (.cells vs.toArray e (0,0)))(hbb:∃b,st.boxes s=some b/\b.live)(hx:Src w xa k info.size xs)(h:II s vs m c info.size info.bytes e d st V K k xs):∃v w' st' β',(Builtin.append_ #[t,t] ty #[.slice (some ⟨β s,0,none⟩) m c,.slice xa k xc]).run P w=.ok v w'/\Ü n V0 bQ β0 st' β' (a.put (some d) v) w' V/\K st' V:=by obtain ⟨q,f,i,j,r,h⟩:=h;split at h;{exact h.elim};{rename_i l;obtain ⟨spare,p,g,w',u,y,-,A,o⟩:=IK (ty:=ty) (xc:=xc) hM hd ht hi hz hzs hb0 (.inl ⟨rfl,hg,hbb⟩) hx q f i j l;refine ⟨_,w',_,_,A,(o _ (.inl rfl)).put (x:=.c (.m_ (sQ s d) 0 (m+k) p)) hd ?_ ?_,h 0 (λ_=>.bool true) spare p u y⟩<;>grind [SV.den,C.den,a_,SV.ids,C.ids,aj]}
def Cb (hM:Ü n V0 bQ β0 st β a w V){K:St->ut->Prop}{d:Nat}(hd:d<n){t e ty:TypeId}{info:TypeInfo}{z:un}(ht:P.underlying t=some (.slice e))(hi:P.info? e=some info)(hz:info.zero=some z)(hzs:z.cells.size=info.size)(hb0:info.bytes≠0)(hs0:info.size≠0){s:Nat}{vs xs:pz un}{m c k xc:Nat}{xa:OA}(hbb:st.boxes s=some ⟨.aB vs,e⟩)(hx:Src w xa k info.size xs)(h:yJ s vs m c info.size info.bytes e d st V K k xs):∃v w' st' β',(Builtin.append_ #[t,t] ty #[.slice (mA (β s) c) m c,.slice xa k xc]).run P w=.ok v w'/\Ü n V0 bQ β0 st' β' (a.put (some d) v) w' V/\K st' V:=by
 obtain ⟨F,o,p,i,G,h⟩:=h;split at h
 ·exact h.elim
 ·rename_i q
  have fin:((mA (β s) c=some ⟨β s,0,none⟩/\w.heap[β s]?=some (.cells vs.toArray e (0,0))/\∃b,st.boxes s=some b/\b.live)\/(mA (β s) c=none/\m=0/\c=0/\k≠0))->(c≠0\/k≠0) ->
    ∃v w' st' β',(Builtin.append_ #[t,t] ty #[.slice (mA (β s) c) m c,.slice xa k xc]).run P w=.ok v w'/\Ü n V0 bQ β0 st' β' (a.put (some d) v) w' V/\K st' V:=by
   intro f r;have ⟨spare,D,g,w',H,I,J,L,u⟩:=IK (ty:=ty) (xc:=xc) hM hd ht hi hz hzs hb0 f hx F o p i q;refine ⟨_,w',_,_,L,(u _ (.inr rfl)).put (x:=.c (.eJ (sQ s d) (m+k) D)) hd ?_ ?_,h spare D H I⟩
   ·simp [SV.den,C.den,a_,mA,J r]
   ·grind [SV.ids,C.ids,aj]
  by_cases j:c=0
  ·have hm:m=0:=ω;by_cases y:k=0;{subst j hm y;have E:=h [] 0 ω ψ;have A:=ĕ.1 (by simpa using i);subst A;have M:vs.take (0*info.size)++[]++[]=([]:pz un):=ψ;rw [M] at E;have B:Ü n V0 bQ β0 ((st.box s ⟨.aB [],e⟩).box (sQ s d) ⟨.aB [],e⟩) β a w V:=hM.void.void;refine ⟨.slice none 0 0,w,_,_,?_,B.put (x:=.c (.eJ (sQ s d) 0 0)) hd ?_ ?_,E⟩;{have N:mA (β s) 0=none:=rfl;rw [N];(cases xa with|none=>{exact A7 ht hi none 0 0 xc ω}|some ad=>simp [Builtin.append_,ai ht,aT hi,Builtin.lenOf,Builtin.firstCells,loadCells,loadCellsFrom])};{simp [SV.den,C.den,mA]};grind [SV.ids,C.ids,aj]};{exact fin (.inr ⟨by rw [j];rfl,hm,j,y⟩) (.inr y)}
  ·have l:aX.live ⟨.aB vs,e⟩:=gE λO=>by{grind [Nat.mul_eq_zero.1]};exact fin (.inl ⟨by simp [mA,j],hM.row hbb l,_,hbb,l⟩) (.inl j)
def A9 (hM:Ü n V0 bQ β0 st β a w V){K:St->ut->Prop}{d:Nat}(hd:d<n){t e ty:TypeId}{info:TypeInfo}{z:un}(ht:P.underlying t=some (.slice e))(hi:P.info? e=some info)(hz:info.zero=some z)(hzs:z.cells.size=info.size)(hb0:info.bytes≠0){vs xs:pz un}{m c k xc:Nat}{xa ba:OA}(hsl:V.sl ba vs)(hvl:vs.length=m*info.size)(hmc:m<=c)(hn0:ba.isNone=true->c=0)(hs0:info.size≠0)(hx:Src w xa k info.size xs)(h:IJ vs m c info.size info.bytes e d st V K k xs):∃v w' st' β',(Builtin.append_ #[t,t] ty #[.slice ba m c,.slice xa k xc]).run P w=.ok v w'/\Ü n V0 bQ β0 st' β' (a.put (some d) v) w' V/\K st' V:=by
 obtain ⟨F,s,G,H,h⟩:=h;have f:(∃b,ba=some b/\vs.length=m*info.size/\∀j v,vs[j]?=some v->w.cell? (b.add j)=some v)\/ba=none/\m=0/\c=0/\vs=[]:=by cases ba<;>grind [CL,List.length_eq_zero_iff.1]
 have ⟨D,rest,w',I,J,E,L,u,y,A,M⟩:=Fe (ty:=ty) (xc:=xc) (base:=ba) (olds:=vs) ht hi hz hzs f hx s F hb0 hmc;split at h
 ·exact h.elim
 ·rename_i N;have q:w'.heap.size=w.heap.size:=by rw [E]
  have B:=Ü.kj hM (d:=d) (g:=w.heap.size) (b:=⟨.row (vs++xs++rest),e⟩) (w':=w'.alloc (.cells (vs++xs++rest).toArray e)) (.inl hd) N rfl
   (by
    intro O Q p l he;have:=aG (hM.boxes O Q p l);omega)
   (by intro o p;have:=aG (hM.rS _ o p).1;omega) (.inl hM.ext.size)
   (by rw [<-q];exact heap_alloc_new _ _)
   (by intro i R _;rw [fu _ _ ω,E])
   (by simp [q]) L u y A
  refine ⟨_,_,_,_,M,B.put (x:=.c (.m_ d 0 (m+k) D)) hd ?_ ?_,(h rest D I (by rw [<-J];exact Ù _))⟩
  ·simp [SV.den,C.den,a_]
  ·intro S r;simp [SV.ids,C.ids] at r;subst r;exact ⟨_,by rw [aj,Ä rfl]⟩
end
section
variable {P:Program} {T:eu} {n:Nat} {V0:Ó} {bQ:Lt} {β0:Nat->Nat} {st:St} {β:Nat->Nat} {a:Act} {w:World} {V:Ó}
theorem yO (ws:pz un)(o n:Nat):(aJ ws o n).length=n:=by unfold aJ;(cases h:Nat.ble (o+n) ws.length with|true=>{have:=Œ h;grind}|false=>simp)
def yN {ws:pz un}{o n:Nat}(h1:∀v∈aJ ws o n,v.oneCell'=true){j:Nat}{v:un}(hj:(aJ ws o n)[j]?=some v):ws[o+j]?=some v:=by unfold aJ at h1 hj;(cases h:Nat.ble (o+n) ws.length with|true=>grind|false=>{rw [h] at hj h1;simp only [cond_false] at hj h1;have hm:=Qb3 hj;have:=h1 v hm;rw [Qr9 hm] at this;cases this})
def OV (hM:Ü n V0 bQ β0 st β a w V){ei:TI}{info:TypeInfo}(e5:ei.size=info.size){s o k xc:Nat}{src:OA×Nat ⊕ pz un}(hsrc:(match st.boxes s with
    | some ⟨.row ws,_⟩=>some (.inr (aJ ws o (k*ei.size)))
    | _=>match fY st.boxes s with
     | some ws=>if Nat.ble (o+k*ei.size) ws.length then some (.inr ((ws.drop o).take (k*ei.size))) else none
     | none=>none)=some src) :
  ∃xa k' XY,(SV.c (.m_ s o k xc)).den β=.slice xa k' XY/\((src=.inl (xa,k'))\/∃xs,src=.inr xs/\xs.length=k'*info.size/\∃ad,xa=some ad/\((∀v∈xs,v.oneCell'=true)->∀j v,xs[j]?=some v->w.cell? (ad.add j)=some v)):=by split at hsrc;{rename_i ws ty e;simp only [ý] at hsrc;subst hsrc;have b:fY st.boxes s=some ws:=by{unfold fY;rw [e]};have d:nh st.boxes s=some ty:=by{unfold nh;rw [e]};obtain ⟨f,-⟩:=pW hM b d;refine ⟨_,k,xc,rfl,.inr ⟨_,rfl,?_,⟨β s,o,none⟩,rfl,?_⟩⟩;{rw [yO,<-e5]};{intro g j v h;rw [gP,cell_of_row f];exact yN g h}};{split at hsrc;{rename_i ws b;split at hsrc;{rename_i hle;have hle:=Œ hle;simp only [ý] at hsrc;subst hsrc;have ⟨i,d⟩:=LC b;obtain ⟨f,-⟩:=pW hM b d;refine ⟨_,k,xc,rfl,.inr ⟨_,rfl,?_,⟨β s,o,none⟩,rfl,?_⟩⟩<;>grind [gP,cell_of_row]};{cases hsrc}};{cases hsrc}}
def KG {xv:un}{src:OA×Nat ⊕ pz un}{sz:Nat}(h:∃xa k' XY,xv=.slice xa k' XY/\((src=.inl (xa,k'))\/∃xs,src=.inr xs/\xs.length=k'*sz/\∃ad,xa=some ad/\((∀v∈xs,v.oneCell'=true)->∀j v,xs[j]?=some v->w.cell? (ad.add j)=some v))):∃xa k xc,xv=.slice xa k xc/\((src=.inl (xa,k))\/∃xs,src=.inr xs/\xs.length=k*sz/\((∀v∈xs,v.oneCell'=true)->(∃ad,xa=some ad/\∀j v,xs[j]?=some v->w.cell? (ad.add j)=some v)\/(xa=none/\k=0))):=by obtain ⟨xa,k,xc,e,h⟩:=h;refine ⟨xa,k,xc,e,h.imp id ?_⟩;rintro ⟨xs,a,b,ad,c,d⟩;exact ⟨xs,a,b,λf=>.inl ⟨ad,c,d f⟩⟩
def KF (hM:Ü n V0 bQ β0 st β a w V){ei:TI}{info:TypeInfo}(e5:ei.size=info.size)(hz:¬ei.size=0){s k xc:Nat}{src:OA×Nat ⊕ pz un}(hsrc:(match st.boxes s with
    | some ⟨.aB ws,_⟩=>some (.inr (qM ws k xc ei.size))
    | _=>none)=some src) :
  ∃xa k' XY,(SV.c (.eJ s k xc)).den β=.slice xa k' XY/\((src=.inl (xa,k'))\/∃xs,src=.inr xs/\xs.length=k'*info.size/\((∀v∈xs,v.oneCell'=true)->(∃ad,xa=some ad/\∀j v,xs[j]?=some v->w.cell? (ad.add j)=some v)\/(xa=none/\k'=0))):=by split at hsrc;{rename_i ws ty g;simp only [ý] at hsrc;subst hsrc;refine ⟨_,k,xc,rfl,.inr ⟨_,rfl,?_,λb=>?_⟩⟩;{unfold qM;grind [yO]};{unfold qM at b ⊢;by_cases m:xc=0;{subst m;(cases k with|zero=>exact .inr ⟨rfl,rfl⟩|succ k=>{have d:Nat.ble (k+1) 0=false:=rfl;rw [d,cond_false] at b;have:(Value.agg #[])∈List.replicate ((k+1)*ei.size) (Value.agg #[]):=List.mem_replicate.2 ⟨Ő ω hz,rfl⟩;have:=b _ this;cases this})};{left;obtain ⟨h,rfl⟩:∃h,xc=h+1:=⟨xc-1,ω⟩;refine ⟨⟨β s,0,none⟩,rfl,λj v f=>?_⟩;(cases d:Nat.ble k (h+1) with|false=>{rw [d,cond_false] at b f;have hm:=Qb3 f;have:=b v hm;rw [Qr9 hm] at this;cases this}|true=>{rw [d,cond_true] at b f;have i:=yN b f;have l:ws≠[]:=λe=>by{rw [e] at i;simp at i};rw [gP,cell_of_row (hM.boxes s _ g (gE l))];exact i})}}};{cases hsrc}
def HB (hM:Ü n V0 bQ β0 st β a w V){e:TypeId}{ei:TI}{info:TypeInfo}{z:un}(e5:ei.size=info.size)(e6:ei.bytes=info.bytes)(e7:ei.zero=z.cells.toList.map C.ofConst){b x:SV}{old:Option Nat}{ba:OA}{vs:pz un}{m c:Nat}{src:OA×Nat ⊕ pz un}{size bytes:Nat}{ty:TypeId}(h:di st.boxes e ei b x=.app old ba vs m c src size bytes ty):size=info.size/\bytes=info.bytes/\ty=e/\info.bytes≠0/\info.size≠0/\z.cells.size=info.size/\(∃base,b.den β=.slice base m c/\((∃s,old=some s/\base=some ⟨β s,0,none⟩/\w.heap[β s]?=some (.cells vs.toArray e (0,0))/\∃b,st.boxes s=some b/\b.live)\/old=none/\base=ba))/\∃xa k xc,x.den β=.slice xa k xc/\((src=.inl (xa,k))\/∃xs,src=.inr xs/\xs.length=k*info.size/\((∀v∈xs,v.oneCell'=true)->(∃ad,xa=some ad/\∀j v,xs[j]?=some v->w.cell? (ad.add j)=some v)\/(xa=none/\k=0))):=by unfold di at h;split at h;{cases h};{rename_i t l;split at h;{cases h};{rename_i f;simp only [Qp5,beq_eq,Qd5,not_or] at f;obtain ⟨⟨u,q⟩,r⟩:=f;have r:ei.size=t.length:=by{grind [beq_eq.1]};obtain ⟨y,-⟩:=fV (β:=β) e7;obtain ⟨d1,-⟩:=gH (β:=β) l;have g:z.cells.size=info.size:=by{rw [<-y,d1];simp [<-r,e5]};dsimp only at h;split at h;{cases h};{rename_i i d;have p:(i=src/\ei.size=size/\ei.bytes=bytes/\e=ty)/\∃base,b.den β=.slice base m c/\((∃s,old=some s/\base=some ⟨β s,0,none⟩/\w.heap[β s]?=some (.cells vs.toArray e (0,0))/\∃b,st.boxes s=some b/\b.live)\/old=none/\base=ba):=by{split at h;{simp only [Q.app.injEq] at h;obtain ⟨rfl,rfl,rfl,rfl,rfl,rfl,rfl,rfl,rfl⟩:=h;exact ⟨⟨rfl,rfl,rfl,rfl⟩,_,rfl,.inr ⟨rfl,rfl⟩⟩};{rename_i s H I;split at h;{rename_i A B D E;split at h;{rename_i he;obtain rfl:=beq_eq.1 he;simp only [Q.app.injEq] at h;obtain ⟨rfl,rfl,rfl,rfl,rfl,rfl,rfl,rfl,rfl⟩:=h;have ⟨F,G⟩:=pW hM D E;exact ⟨⟨rfl,rfl,rfl,rfl⟩,_,rfl,.inl ⟨s,rfl,rfl,F,G⟩⟩};{cases h}};{cases h}};{split at h<;>grind};{cases h}};obtain ⟨⟨rfl,rfl,rfl,rfl⟩,p⟩:=p;refine ⟨e5,e6,rfl,by rw [<-e6];exact u,by rw [<-e5];exact q,g,p,?_⟩;split at d;{rename_i xa k xc;simp only [ý] at d;subst d;exact ⟨xa,k,xc,rfl,.inl rfl⟩};{rename_i s o k xc;exact KG (OV hM e5 d)};{rename_i s k xc;exact KF hM e5 q d};{cases d}}}}
def En (hM:Ü n V0 bQ β0 st β a w V){e:TypeId}{ei:TI}{info:TypeInfo}{z:un}(e5:ei.size=info.size)(e6:ei.bytes=info.bytes)(e7:ei.zero=z.cells.toList.map C.ofConst){b x:SV}{s:Nat}{vs:pz un}{m c:Nat}{src:OA×Nat ⊕ pz un}{size bytes:Nat}{ty:TypeId}(h:di st.boxes e ei b x=.xF s vs m c src size bytes ty):size=info.size/\bytes=info.bytes/\ty=e/\info.bytes≠0/\info.size≠0/\z.cells.size=info.size/\(b.den β=.slice (mA (β s) c) m c/\st.boxes s=some ⟨.aB vs,e⟩)/\∃xa k xc,x.den β=.slice xa k xc/\((src=.inl (xa,k))\/∃xs,src=.inr xs/\xs.length=k*info.size/\((∀v∈xs,v.oneCell'=true)->(∃ad,xa=some ad/\∀j v,xs[j]?=some v->w.cell? (ad.add j)=some v)\/(xa=none/\k=0))):=by unfold di at h;split at h;{cases h};{rename_i t l;split at h;{cases h};{rename_i f;simp only [Qp5,beq_eq,Qd5,not_or] at f;obtain ⟨⟨u,q⟩,r⟩:=f;have r:ei.size=t.length:=by{grind [beq_eq.1]};obtain ⟨y,-⟩:=fV (β:=β) e7;obtain ⟨d1,-⟩:=gH (β:=β) l;have g:z.cells.size=info.size:=by{rw [<-y,d1];simp [<-r,e5]};dsimp only at h;split at h;{cases h};{rename_i i d;have p:(i=src/\ei.size=size/\ei.bytes=bytes/\e=ty)/\b.den β=.slice (mA (β s) c) m c/\st.boxes s=some ⟨.aB vs,e⟩:=by{split at h;{cases h};{split at h<;>grind};{rename_i E F G;split at h;{rename_i A B D;split at h;{rename_i he;obtain rfl:=beq_eq.1 he;simp only [Q.xF.injEq] at h;obtain ⟨rfl,rfl,rfl,rfl,rfl,rfl,rfl,rfl⟩:=h;exact ⟨⟨rfl,rfl,rfl,rfl⟩,rfl,D⟩};{cases h}};{cases h}};{cases h}};obtain ⟨⟨rfl,rfl,rfl,rfl⟩,p⟩:=p;refine ⟨e5,e6,rfl,by rw [<-e6];exact u,by rw [<-e5];exact q,g,p,?_⟩;split at d;{rename_i xa k xc;simp only [ý] at d;subst d;exact ⟨xa,k,xc,rfl,.inl rfl⟩};{rename_i s o k xc;exact KG (OV hM e5 d)};{rename_i s k xc;exact KF hM e5 q d};{cases d}}}}
theorem QC (hT:eu.ok P T)(hM:Ü n V0 bQ β0 st β a w V){o:Oper}{K:St->ut->Prop}{d:Nat}(hd:d<n){old:Option Nat}{ba:OA}{vs:pz un}{m c:Nat}{src:OA×Nat ⊕ pz un}{size bytes:Nat}{ty:TypeId}(h:aU T st.bG st.boxes o.op=.app old ba vs m c src size bytes ty)(hv:zO (.app old ba vs m c src size bytes ty) (some d) st V K):∃v w' st' β',(execOp a.eval o).run P w=.ok (.value v) w'/\Ü n V0 bQ β0 st' β' (a.put (some d) v) w' V/\K st' V:=by
 obtain ⟨cl,L,vh⟩:=(iC (T:=T) (ρ:=st.bG) (bx:=st.boxes) (op:=o.op)).2.2 (by rw [h];rfl);rw [L] at h;simp only [aU,vh] at h;split at h
 ·rename_i b x t t' E Y;split at h
  ·rename_i i i' hi Z;split at h
   ·rename_i e e' hk M;split at h
    ·rename_i ei Jz;obtain ⟨YD,d0,z0,h1,I,h3,h4,-⟩:=aK (hT _ _ hi);obtain ⟨U,a3,a4,a5,a6,a7,a0,-⟩:=aK (hT _ _ Z);have ⟨info,de,z,J,e2,W,e4,e5,e6,e7⟩:=aK (hT _ _ Jz);rw [h4] at hk;rw [a0] at M;obtain rfl:=bh hk;obtain rfl:=bh M;obtain ⟨rfl,rfl,rfl,l,N,p,⟨base,a8,hold⟩,F,k,xc,a9,C⟩:=HB hM e5 e6 e7 h;have ⟨q1,q2⟩:=iB hM _ _ E;have f1:cl.argTypes=#[t,t']:=by apply Ŋ;exact Y
     have f2:cl.args.map a.eval=#[.slice base m c,.slice F k xc]:=χ
     have O:∀{v w'},(Builtin.append_ #[t,t] o.type #[.slice base m c,.slice F k xc]).run P w=.ok v w'->(execOp a.eval o).run P w=.ok (.value v) w':=by intro v w' hr;simp only [execOp,L,resolve,vh,pure_bind,invoke,f1,f2,builtin];grind [fD,Ff]
     have fin:∀{v w' st' β'},(Builtin.append_ #[t,t] o.type #[.slice base m c,.slice F k xc]).run P w=.ok v w'->Ü n V0 bQ β0 st' β' (a.put (some d) v) w' V->K st' V ->
       ∃v w' st' β',(execOp a.eval o).run P w=.ok (.value v) w'/\Ü n V0 bQ β0 st' β' (a.put (some d) v) w' V/\K st' V:=λq u A=>⟨_,_,_,_,O q,u,A⟩
     have XB:∀xs,V.sl F xs->xs.length=k*info.size->(∀v∈xs,v.oneCell'=true)->Src w F k info.size xs:=by intro xs j f h1;refine ⟨f,h1,?_⟩;(cases F with|some ad=>exact .inl ⟨ad,rfl,CL hM j⟩|none=>{refine .inr ⟨rfl,?_⟩;have:xs=[]:=by{(cases xs with|nil=>rfl|cons y r=>{obtain ⟨ad,e,-⟩:=j 0 y ψ;cases e})};grind [Nat.mul_eq_zero.1]})
     rcases hold with ⟨s,rfl,rfl,hg,Q⟩|⟨rfl,rfl⟩
     ·rcases C with rfl|⟨xs,rfl,f,g⟩;{obtain ⟨xs,j,f,hv⟩:=hv;have ⟨v,w',st',β',q,u,A⟩:=A8 (ty:=o.type) (xc:=xc) hM hd I J W p l hg Q (XB xs j f hv.2.2.2.2.1) hv;exact fin q u A};{have G:xs.length/info.size=k:=by{rw [f];exact Qg0 _ ω};simp only [zO,G] at hv;have ⟨v,w',st',β',q,u,A⟩:=A8 (ty:=o.type) (xc:=xc) hM hd I J W p l hg Q ⟨f,hv.2.2.2.2.1,g hv.2.2.2.2.1⟩ hv;exact fin q u A}
     ·obtain ⟨vs,D,R,B,S,hv⟩:=hv;rcases C with rfl|⟨xs,rfl,f,g⟩;{obtain ⟨xs,j,f,a1,a2⟩:=hv;by_cases H:k=0;{have X:=a1 H;subst H;refine fin (v:=.slice base m c) (w':=w) ?_ (hM.put (x:=.c (.v (.slice base m c))) hd rfl (λs hs=>by cases hs)) X;(cases F with|none=>exact A7 I J base m c xc B|some ad=>{cases base<;>simp [Builtin.append_,ai I,aT J,Builtin.lenOf,Builtin.firstCells,loadCells,loadCellsFrom,storeCells,B]})};{have X:=a2 H;have ⟨v,w',st',β',q,u,A⟩:=A9 (ty:=o.type) (xc:=xc) hM hd I J W p l D R B S N (XB xs j f X.2.2.2.1) X;exact fin q u A}};{have G:xs.length/info.size=k:=by{rw [f];exact Qg0 _ ω};dsimp only at hv;rw [G] at hv;have ⟨v,w',st',β',q,u,A⟩:=A9 (ty:=o.type) (xc:=xc) hM hd I J W p l D R B S N ⟨f,hv.2.2.2.1,g hv.2.2.2.1⟩ hv;exact fin q u A}
    ·cases h
   ·cases h
  ·cases h
 ·cases h
theorem MN (hT:eu.ok P T)(hM:Ü n V0 bQ β0 st β a w V){o:Oper}{K:St->ut->Prop}{d:Nat}(hd:d<n){s:Nat}{vs:pz un}{m c:Nat}{src:OA×Nat ⊕ pz un}{size bytes:Nat}{ty:TypeId}(h:aU T st.bG st.boxes o.op=.xF s vs m c src size bytes ty)(hv:zO (.xF s vs m c src size bytes ty) (some d) st V K):∃v w' st' β',(execOp a.eval o).run P w=.ok (.value v) w'/\Ü n V0 bQ β0 st' β' (a.put (some d) v) w' V/\K st' V:=by
 obtain ⟨Q,q,R⟩:=(iC (T:=T) (ρ:=st.bG) (bx:=st.boxes) (op:=o.op)).2.2 (by rw [h];rfl);rw [q] at h;simp only [aU,R] at h;split at h
 ·rename_i b x t t' l L;split at h
  ·rename_i i i' hi M;split at h
   ·rename_i e e' S u;split at h
    ·rename_i ei Jz;obtain ⟨YD,d0,z0,U,W,h3,h4,-⟩:=aK (hT _ _ hi);obtain ⟨J,a0,a1,a2,a3,a4,N,-⟩:=aK (hT _ _ M);have ⟨info,de,z,X,e2,Y,e4,e5,e6,e7⟩:=aK (hT _ _ Jz);rw [h4] at S;rw [N] at u;obtain rfl:=bh S;obtain rfl:=bh u;obtain ⟨rfl,rfl,rfl,A,B,C,⟨a5,D⟩,p,k,xc,a6,E⟩:=En hM e5 e6 e7 h;have ⟨q1,q2⟩:=iB hM _ _ l;have f1:Q.argTypes=#[t,t']:=by apply Ŋ;exact L
     have f2:Q.args.map a.eval=#[.slice (mA (β s) c) m c,.slice p k xc]:=χ
     have F:∀{v w'},(Builtin.append_ #[t,t] o.type #[.slice (mA (β s) c) m c,.slice p k xc]).run P w=.ok v w'->(execOp a.eval o).run P w=.ok (.value v) w':=by intro v w' hr;simp only [execOp,q,resolve,R,pure_bind,invoke,f1,f2,builtin];grind [fD,Ff]
     have fin:∀{v w' st' β'},(Builtin.append_ #[t,t] o.type #[.slice (mA (β s) c) m c,.slice p k xc]).run P w=.ok v w'->Ü n V0 bQ β0 st' β' (a.put (some d) v) w' V->K st' V ->
       ∃v w' st' β',(execOp a.eval o).run P w=.ok (.value v) w'/\Ü n V0 bQ β0 st' β' (a.put (some d) v) w' V/\K st' V:=λG H I=>⟨_,_,_,_,F G,H,I⟩
     have XB:∀xs,V.sl p xs->xs.length=k*info.size->(∀v∈xs,v.oneCell'=true)->Src w p k info.size xs:=by intro xs g f U;refine ⟨f,U,?_⟩;(cases p with|some Z=>exact .inl ⟨Z,rfl,CL hM g⟩|none=>{refine .inr ⟨rfl,?_⟩;have:xs=[]:=by{(cases xs with|nil=>rfl|cons y r=>{obtain ⟨Z,e,-⟩:=g 0 y ψ;cases e})};grind [Nat.mul_eq_zero.1]})
     rcases E with rfl|⟨xs,rfl,f,j⟩
     ·obtain ⟨xs,g,f,hv⟩:=hv;have ⟨v,w',st',β',G,H,I⟩:=Cb (ty:=o.type) (xc:=xc) hM hd W X Y C A B D (XB xs g f hv.2.2.2.2.1) hv;exact fin G H I
     ·have O:xs.length/info.size=k:=by{rw [f];exact Qg0 _ ω};simp only [zO,O] at hv;have ⟨v,w',st',β',G,H,I⟩:=Cb (ty:=o.type) (xc:=xc) hM hd W X Y C A B D ⟨f,hv.2.2.2.2.1,j hv.2.2.2.2.1⟩ hv;exact fin G H I
    ·cases h
   ·cases h
  ·cases h
 ·cases h
theorem Km (hT:eu.ok P T)(hM:Ü n V0 bQ β0 st β a w V){o:Oper}{K:St->ut->Prop}{next:Act->World->Prop}{Q:Exit->Act->World->Prop}(hd:∀d,o.dst=some d->d<n)(hv:zO (aU T st.bG st.boxes o.op) o.dst st V K)(hK:∀st' β' a' w' V',Ü n V0 bQ β0 st' β' a' w' V'->K st' V'->next a' w'):o.wp P a w next Q:=by
 unfold Oper.wp;generalize hq:aU T st.bG st.boxes o.op=q at hv
 cases q with
 | fail=>exact hv.elim
 | ret sc x=>
  obtain ⟨e,f⟩:=(fG sc _).1 hv;have ⟨h,g⟩:=QE hT hM hq e;rw [h];exact hK _ _ _ _ _ (hM.Ki hd rfl g) f
 | new sc b x=>
  simp only [zO] at hv
  cases hdst:o.dst with
  | none=>rw [hdst] at hv;exact hv.elim
  | some d=>
   rw [hdst] at hv;dsimp only at hv;split at hv
   ·rename_i k;obtain ⟨e,f⟩:=(fG sc _).1 hv;have ⟨v,h,g,l⟩:=QD hT hM hq e;rw [h]
    have:=(hM.new (hd d hdst) k l).put (x:=x d) (v:=v) (hd d hdst) (g d).1 (by
     intro s i;rw [(g d).2] at i;simp at i;subst i;exact ⟨b,by rw [aj,Ä rfl]⟩)
    grind [Oper.upon_value]
   ·exact hv.elim
 | zN sc s b=>
  simp only [zO] at hv
  cases hdst:o.dst with
  | some d=>rw [hdst] at hv;exact hv.elim
  | none=>
   rw [hdst] at hv;dsimp only at hv;obtain ⟨e,f⟩:=(fG sc _).1 hv;have ⟨t,w',h,rx,g⟩:=QF hT hM hq e;rw [h];rcases rx with rfl|⟨v,rfl⟩
   ·simp only [Oper.upon_skip,hdst];exact hK _ _ _ _ _ g f
   ·simp only [Oper.upon_value,hdst];exact hK _ _ _ _ _ g f
 | rd p sh=>
  have ⟨x,e,f,j⟩:=AX.fC sh hv;have ⟨h,g⟩:=Uk hT hM hq e f j;rw [h];exact hK _ _ _ _ _ (hM.Ki hd rfl (cz e)) g
 | sS vs of size sh=>
  have ⟨x,e,f,j,r⟩:=AX.fC sh hv;rw [(Kl hT hM hq e f j)];exact hK _ _ _ _ _ (hM.Ki hd rfl (cz e)) r
 | xF s vs m c src size bytes ty=>
  cases hdst:o.dst with
  | none=>rw [hdst] at hv;exact hv.elim
  | some d=>grind [MN,Oper.upon_value]
 | app old ba vs m c src size bytes ty=>
  cases hdst:o.dst with
  | none=>rw [hdst] at hv;exact hv.elim
  | some d=>grind [QC,Oper.upon_value]
end
section
variable {P:Program} {T:eu} {n:Nat} {V0:Ó} {bQ:Lt} {β0:Nat->Nat} {st:St} {β:Nat->Nat} {a:Act} {w:World} {V:Ó}
def du (V:Ó)(w:World):Ó:=⟨w,λb=>b<w.heap.size/\∀o,¬V.bg b o,λ_=>False,λ_ h=>h.1,λ_ h=>h.elim⟩
def yf (hM:Ü n V0 bQ β0 st β a w V):V.Le (du V w):=λb o c=>⟨λh=>h.2 o c,(hM.rS b o c).1⟩
def iG.run {f:FuncId}(h:iG P f)(xs:Array un):(callFunc f xs).run P w=.ok (.enter f xs) w:=by obtain ⟨fn,a,b,c⟩:=h;simp only [callFunc,Sem.run_bind,run_program,Result.andThen_ok,a,c,b,ň,Ð,Sem.run_pure]
theorem cB {x:Nat}:∀{l:pz Nat},x∈ð l↔x∈l
 | []=>by simp [ð]
 | y::r=>by
  simp only [ð]
  cases h:iZ y (ð r) with
  | true=>
   simp only [cond_true,å];rw [cB];constructor
   ·exact .inr
   ·rintro (rfl|h')
    ·exact cB.1 (dX.1 h)
    ·exact h'
  | false=>simp only [cond_false,å];rw [cB]
theorem gF {bx:Nat->Option aX}:∀(k:Nat)(l:pz Nat),∀x∈l,x∈ì bx k l
 | 0,_,x,hx=>hx
 | k+1,l,x,hx=>by simp only [ì];exact gF k _ x (cB.2 (ĭ _ hx))
def fM {bx:Nat->Option aX}{l:pz Nat}(h:jG bx l=true){s:Nat}(hs:s∈l){b:aX}(hb:bx s=some b):∀t∈b.cs.ids,t∈l:=by unfold jG at h;rw [ĩ] at h;have:=h s hs;unfold UQ oa at this;grind [dX.1]
def jd {L:pz Nat}:∀{γ:Nat->Nat} {k:(Nat->Nat)->Prop},nf L γ k->∀β:Nat->Nat,k (λt=>if t∈L then β t else γ t):=by
 induction L with
 | nil=>
  intro γ k h β;have e:(λt=>if t∈([]:pz Nat) then β t else γ t)=γ:=by funext t;simp
  rw [e];exact h
 | cons s r ih=>
  intro γ k h β;have:=ih (h (β s)) β;grind [a_,iW]
def Cl {bx:Nat->Option aX}{b:aX}{γ:Nat->Nat}{s:Nat}:∀{r:pz Nat} {k:Prop},YP bx b γ s r k->(∀t∈r,∀b',bx t=some b'->b.live->b'.live->γ s=γ t->s=t)->(∀t∈r,∃b',bx t=some b')->k
 | [],_,h,_,_=>h
 | t::r,k,h,hi,hl=>by
  simp only [YP] at h
  cases hb:Nat.beq s t with
  | true=>rw [hb] at h;exact Cl h (λt ht=>hi t (ó _ ht)) (λt ht=>hl t (ó _ ht))
  | false=>
   rw [hb] at h;have ⟨b',hb'⟩:=hl t ψ;simp only [hb',cond_false] at h;refine Cl (h ?_) (λt ht=>hi t (ó _ ht)) (λt ht=>hl t (ó _ ht))<;>grind [yD,kH,Nat.beq_refl]
def B9 {bx:Nat->Option aX}{γ:Nat->Nat}{V':ut}:∀{L:pz Nat} {k:Prop},kn bx γ V' L k->(∀s∈L,∀b,bx s=some b->b.live->V'.w.heap[γ s]?=some (b.obj γ)/\V'.H (γ s)) ->(∀s∈L,∀t∈L,∀b b',bx s=some b->b.live->bx t=some b'->b'.live->γ s=γ t->s=t)->(∀s∈L,∃b,bx s=some b)/\k
 | [],k,h,_,_=>⟨λs hs=>(nomatch hs),h⟩
 | s::r,k,h,hf,hi=>by
  simp only [kn] at h;split at h
  ·rename_i b hb
   have ⟨h3,h5⟩:=B9 (h (kH.2 λl=>(hf s ψ b hb l).1) (kH.2 λl=>(hf s ψ b hb l).2)) (λc a=>hf c (ó _ a))
    (λc a t d=>hi c (ó _ a) t (ó _ d))
   have g:=Cl h5 (λt d b' e l f=>hi s ψ t (ó _ d) b b' hb l e f) h3;grind
  ·exact h.elim
def ju {bx:Nat->Option aX}{γ:Nat->Nat}{V':ut}:∀{L:pz Nat} {k:Prop},tX bx γ V' L k->(∀s∈L,∀b,bx s=some b->b.live->V'.bg (γ s) (b.obj γ))->(∀s∈L,∃b,bx s=some b)/\k
 | [],k,h,_=>⟨λs hs=>(nomatch hs),h⟩
 | s::r,k,h,hf=>by
  simp only [tX] at h;split at h
  ·rename_i b hb;have ⟨h3,h4⟩:=ju (h (kH.2 (hf s ψ b hb))) (λc a=>hf c (ó _ a));grind
  ·exact h.elim
def jT {mv:Option (Nat×Nat)}:∀(cs zs:pz C) {K:pz C->Prop},oJ mv cs zs K->∃cs',K cs'/\∀s∈cs'.flatMap C.ids,s∈cs.flatMap C.ids\/∃m,mv=some (m,s)
 | [],_,_,h=>⟨[],h,λs hs=>(nomatch hs)⟩
 | c::r,[],_,h=>h.elim
 | c::r,z::zr,K,h=>by
  simp only [oJ] at h;split at h
  ·split at h
   ·rename_i m nb;split at h
    ·obtain ⟨n,c,h⟩:=h;have ⟨cs',a,b⟩:=jT r zr h;grind [C.ids]
    ·exact h.elim
   ·exact h.elim
  ·split at h
   ·have ⟨v,e,d⟩:=DR.fC _ h;have ⟨cs',a,b⟩:=jT r zr d;grind
   ·have ⟨cs',a,b⟩:=jT r zr h;grind
def Ü.fill (h:Ü n V0 bQ β0 st β a w V){s:Nat}{b0 b:aX}(hs:st.boxes s=some b0)(lA:∀t∈b.cs.ids,∃b',st.boxes t=some b')(hg:∀t b',st.boxes t=some b'->b'.live->t≠s->β t≠β s)(hV:∀o,¬V.bg (β s) o)(hown:V0.w.heap.size<=β s\/(100000<=s/\bQ.B (β s)))(hw:w.heap[β s]?=some (b.obj β)):Ü n V0 bQ β0 (st.box s b) β a w V:=by have d:∀t,(∃b',st.boxes t=some b')->∃b',(st.box s b).boxes t=some b':=by{grind [aj]};refine ⟨h.defers,h.size,h.ay,λt x f u hu=>d u (h.DX t x f u hu),?_,?_,?_,h.rS,?_,h.ext,?_,h.n_,h.mJ,h.small⟩;{grind [aj,h.DW]};{grind [aj,h.boxes]};{grind [aj,h.inj]};{grind [aj,h.zy]};{intro t b' c l;rw [aj] at c;split at c;{rename_i e;rw [e];exact hown};{exact h.own t b' c l}}
def Ü.later (hM:Ü n V0 bQ β0 st β a w V){X:Nat->Prop}{w':World}(hx:kq X w w')(hX:∀t b,st.boxes t=some b->b.live->¬X (β t))(hX0:∀i,i<V0.w.heap.size->X i->V0.X i){V1:ut}(hvis:∀b o,V1.bg b o->w'.heap[b]?=some o/\¬V0.H b)(zx:∀t b,st.boxes t=some b->b.live->∀o,¬V1.bg (β t) o):Ü n V0 bQ β0 st β a w' V1:=by refine ⟨hM.defers,hM.size,hM.ay,hM.DX,hM.DW,?_,hM.inj,hvis,zx,?_,hM.own,hM.n_,hM.mJ,hM.small⟩;{grind [hM.boxes,hx.bg]};{refine ⟨ā hM.ext.size hx.size,λi d c=>?_,hx.os.m hM.ext.os,hx.tape.m hM.ext.tape,hx.out.m hM.ext.out,ā hM.ext.dr hx.dr⟩<;>grind [hx.bg,hM.ext.bg]}
def Ü.beta (hM:Ü n V0 bQ β0 st β a w V){d g:Nat}(hd:d<n\/200000<=d)(hn:st.boxes d=none):Ü n V0 bQ β0 st (cU β d g) a w V:=by have j:∀s c,st.boxes s=some c->s≠d:=λs c f e=>by{rw [e,hn] at f;cases f};have hβ:∀s c,st.boxes s=some c->cU β d g s=β s:=λs c f=>iW _ _ (j s c f);refine ⟨hM.defers,hM.size,?_,hM.DX,hM.DW,?_,?_,hM.rS,?_,hM.ext,?_,?_,hM.mJ,hM.small⟩;{intro t x k;rw [hM.ay t x k];grind [SV.b_,hM.DX]};{intro s b i l;rw [hβ s b i,hM.boxes s b i l];grind [aX.dJ,hM.DW]};{grind [hM.inj]};{grind [hM.zy]};{intro s b i l;rw [hβ s b i];exact hM.own s b i l};{intro s f;have ⟨m,o⟩:=hM.n_ s f;grind [iW,hM.small]}
def jY {ty:TypeId}:∀{L:pz Nat} {st:St},(eE st L ty).ay=st.ay
 | [],_=>rfl
 | s::r,st=>by unfold eE;rw [Qc6];exact jY (L:=r)
def bq {ty:TypeId}:∀{L:pz Nat} {st:St} (t:Nat),(eE st L ty).boxes t=if t∈L then some ⟨.aB [],ty⟩ else st.boxes t
 | [],st,t=>by simp [eE]
 | s::r,st,t=>by
  have:=bq (ty:=ty) (L:=r) (st:=st.box s ⟨.aB [],ty⟩) t;unfold eE at this ⊢;grind [aj]
def Ü.Lm {ty:TypeId}:∀{L:pz Nat} {st:St},Ü n V0 bQ β0 st β a w V->Ü n V0 bQ β0 (eE st L ty) β a w V
 | [],_,h=>h
 | s::r,st,h=>by unfold eE;rw [Qc6];exact Ü.Lm (L:=r) h.void
def oK {mv:Option (Nat×Nat)}{γ:Nat->Nat}{V2:ut}{A:pz Nat}(hV2:V2.w=w)(hγA:∀s∈A,γ s=β s)(hinj:∀s∈A,∀s'∈A,β s=β s'->s=s')(zx:∀s∈A,∀o,¬V.bg (β s) o)(hown:∀s∈A,V0.w.heap.size<=β s\/(100000<=s/\bQ.B (β s))):∀(L:pz Nat) (UO Eo:St) {k:St->Prop},(∀s∈L,s∈A)->Ü n V0 bQ β0 Eo β a w V->UO.ay=Eo.ay->(∀t,t∉L->UO.boxes t=Eo.boxes t)->(∀s∈L,∃b,Eo.boxes s=some b) ->(∀t b,Eo.boxes t=some b->b.live->t∉A->∀s∈A,β t≠β s)->(∀s∈L,∀b,UO.boxes s=some b->∀t∈b.cs.ids,(∃b',Eo.boxes t=some b')/\γ t=β t)->(∀m nb,mv=some (m,nb)->(∃b',Eo.boxes nb=some b')/\γ nb=β nb) ->fQ T mv γ V2 L UO k->∃st',Ü n V0 bQ β0 st' β a w V/\st'.ay=Eo.ay/\(∀t,(∃b,Eo.boxes t=some b)->∃b,st'.boxes t=some b)/\k st'
 | [],UO,Eo,k,_,hM,hsl,hag,_,_,_,_,h=>by
  have:UO=Eo:=by
   obtain ⟨s1,g⟩:=UO;obtain ⟨s2,Q⟩:=Eo;dsimp only at hsl hag;subst hsl;congr 1;grind
  exact ⟨Eo,hM,rfl,λ_ h=>h,this▸h⟩
 | s::r,UO,Eo,k,hA,hM,hsl,hag,hb,hd,hw,hmv,h=>by
  have f:=hA s ψ;obtain ⟨R,C⟩:=hb s ψ
  have step:∀g:aX,(∀t∈g.cs.ids,(∃b',Eo.boxes t=some b')/\γ t=β t)->w.heap[γ s]?=some (g.obj γ)->fQ T mv γ V2 r (UO.box s g) k ->
    ∃st',Ü n V0 bQ β0 st' β a w V/\st'.ay=Eo.ay/\(∀t,(∃b,Eo.boxes t=some b)->∃b,st'.boxes t=some b)/\k st':=by
   intro g z H h;rw [hγA s f,aX.dJ λt c=>(z t c).2] at H;by_cases I:s∈r
   ·refine oK hV2 hγA hinj zx hown r (UO.box s g) Eo (λs' d=>hA s' (ó _ d)) hM hsl ?_ (λs' d=>hb s' (ó _ d)) hd ?_ hmv h<;>grind [aj]
   ·have D:=hM.fill (b:=g) C (λt c=>(z t c).1) (by
     intro t b' c l E he;by_cases v:t∈A
     ·exact E (hinj t v s f he)
     ·exact hd t b' c l v s f he) (zx s f) (hown s f) H
    have x:∀t,(∃b,Eo.boxes t=some b)->∃b,(Eo.box s g).boxes t=some b:=by grind [aj]
    have ⟨st',J,K,M,N⟩:=oK hV2 hγA hinj zx hown r (UO.box s g) (Eo.box s g) (λs' d=>hA s' (ó _ d)) D hsl
     (by
      intro t c;rw [aj,aj];split
      ·rfl
      ·rename_i e;exact hag t (by simp [e,c]))
     (λs' d=>x s' (hb s' (ó _ d)))
     (by
      intro t b' c l v;rw [aj] at c;split at c
      ·rename_i e;exact Å (e▸f) v
      ·exact hd t b' c l v)
     (by
      intro s' d b' j t c;rw [aj] at j;split at j
      ·cases j;exact ⟨x t (z t c).1,(z t c).2⟩
      ·have:=hw s' (ó _ d) b' j t c;exact ⟨x t this.1,this.2⟩)
     (λm nb e=>⟨x nb (hmv m nb e).1,(hmv m nb e).2⟩) h
    exact ⟨st',J,K,λt c=>M t (x t c),N⟩
  simp only [fQ] at h;split at h
  ·rename_i cs ty q;split at h;{rename_i i S;have ⟨F,⟨p,y⟩,O⟩:=jT _ _ h;rw [hV2] at p;refine step ⟨.lit F,ty⟩ (λt c=>?_) p y;rcases O t c with G|⟨m,G⟩;{exact hw s ψ _ q t G};{exact hmv m t G}};{exact h.elim}
  ·rename_i P ty q;obtain ⟨u,p,y⟩:=h;rw [hV2] at p;exact step ⟨.row u,ty⟩ (λt c=>(nomatch c)) p y
  ·rename_i P ty q;obtain ⟨-,u,-,p,y⟩:=h;rw [hV2] at p;exact step ⟨.aB u,ty⟩ (λt c=>(nomatch c)) p y
  ·exact h.elim
def B8 {mv:Option (Nat×Nat)}{V2:ut}:∀{L:pz Nat} {st:St} {k:St->Prop},fQ T mv β V2 L st k->∀s∈L,∃b,st.boxes s=some b/\b.live
 | [],_,_,_,s,hs=>nomatch hs
 | s::r,st,k,h,t,ht=>by
  have core:∀b1:aX,(∃b,st.boxes s=some b/\b.live)->fQ T mv β V2 r (st.box s b1) k->∃b,st.boxes t=some b/\b.live:=by
   intro b1 hs h;by_cases e:t=s
   ·rw [e];exact hs
   ·have:=B8 h t (by simpa [e] using ht);grind [aj]
  simp only [fQ] at h;split at h
  ·rename_i cs ty a;split at h;{have ⟨i,⟨g,c⟩,l⟩:=jT _ _ h;exact core _ ⟨_,a,dP⟩ c};{exact h.elim}
  ·rename_i j ty a;obtain ⟨d,g,c⟩:=h;exact core _ ⟨_,a,dQ⟩ c
  ·rename_i j ty a;obtain ⟨f,d,-,g,c⟩:=h;exact core _ ⟨_,a,λ_ e=>by cases e;exact f⟩ c
  ·exact h.elim
def B7 {bx:Nat->Option aX}{γ:Nat->Nat}{N b:Nat}{L:pz Nat}(hl:∀s∈L,∃b,bx s=some b)(hb:b∈L.map (eQ bx γ N))(hlt:b<N):∃s∈L,∃b0,bx s=some b0/\b0.live/\γ s=b:=by have ⟨s,c,he⟩:=ò.1 hb;have ⟨b0,a⟩:=hl s c;unfold eQ at he;rw [a] at he;obtain ⟨cs,ty⟩:=b0;(cases cs with|aB vs=>{(cases vs with|nil=>{simp only [vb] at he;omega}|cons v r=>{exact ⟨s,c,_,a,gE ψ,he⟩})}|_=>grind [dP,dQ])
def yC {nb:Nat}:∀{xs:pz (md×pz C)},(xs.flatMap λx=>x.2.flatMap C.ids)=[]->∀s∈((At nb xs).flatMap λx=>x.2.flatMap C.ids),s=nb
 | [],_,s,hs=>nomatch hs
 | x::r,h,s,hs=>by
  simp only [Ď,List.append_eq_nil_iff] at h;unfold At at hs;split at hs
  ·rename_i heq;cases heq
  ·grind [C.ids]
  ·rename_i heq;cases heq;simp only [Ď,õ,h.1,Ě,false_or] at hs;exact yC h.2 s hs
def BP {nb:Nat}:∀{cs:pz C},(cs.flatMap C.ids)=[]->∀s∈(Hb nb cs).flatMap C.ids,s=nb
 | [],_,s,hs=>nomatch hs
 | x::r,h,s,hs=>by
  simp only [Ď,List.append_eq_nil_iff] at h;unfold Hb at hs;split at hs
  ·rename_i heq;cases heq
  ·grind [C.ids]
  ·rename_i heq;cases heq;simp only [Ď,õ,h.1,Ě,false_or] at hs;exact BP h.2 s hs
def Mg {nb:Nat}{x:SV}(h:x.ids=[]):∀s∈(xo nb x).ids,s=nb:=by intro s a;unfold xo at a;split at a;{simpa [SV.ids,C.ids] using a};{exact BP h s a};{exact yC h s a};{rw [h] at a;cases a}
def Jo {xs:pz SV}(h:∀x∈xs,x.ids=[])(γ δ:Nat->Nat):aI γ xs=aI δ xs:=by unfold aI;grind [kE]
def Ü.Zl {w0:World}{V':ut}(hM:Ü n V0 bQ β0 st β a w V')(hlt:∀s b,st.boxes s=some b->b.live->β s<w0.heap.size)(hsz:V0.w.heap.size<=w0.heap.size){d b:Nat}{cs:pz C}{e:TypeId}(hd:d<n)(hn:st.boxes d=none)(hb:w0.heap.size<=b)(hw:V'.w=w)(hblk:V'.bg b (.cells (cs.map (C.den λ_=>0)).toArray e (0,0)))(lA:cs.flatMap C.ids=[]):Ü n V0 bQ β0 ((st.box d ⟨.lit cs,e⟩).put (some d) (.c (.ptr d 0))) (cU β d b) (a.put (some d) (.pointer (some ⟨b,0,none⟩))) w (V'.SU b):=by have v:∀s g,st.boxes s=some g->s≠d:=λs g f e=>by{rw [e,hn] at f;cases f};have hβ:∀s g,st.boxes s=some g->cU β d b s=β s:=λs g f=>iW _ _ (v s g f);have k:=(hM.rS b _ hblk).1;have D:(⟨.lit cs,e⟩:aX).obj (cU β d b)=.cells (cs.map (C.den λ_=>0)).toArray e (0,0):=by{grind [aX.obj,ã.den,oI]};have y:Ü n V0 bQ β0 (st.box d ⟨.lit cs,e⟩) (cU β d b) a w (V'.SU b):=by{refine ⟨hM.defers,hM.size,?_,?_,?_,?_,?_,?_,?_,hM.ext,?_,?_,hM.mJ,hM.small⟩;{intro t x q;rw [hM.ay t x q];exact SV.b_ λs f=>by{have ⟨g,m⟩:=hM.DX t x q s f;exact (hβ s g m).symm}};{intro t x q s f;have ⟨g,m⟩:=hM.DX t x q s f;grind [aj]};{grind [aj,ã.ids,hM.DW]};{intro s g f l;rw [aj] at f;split at f;{rename_i p;simp only [ý] at f;rw [p,a_,<-f,D];exact k};{rw [hβ s g f,hM.boxes s g f l];grind [aX.dJ,hM.DW]}};{intro s z A B i E j F he;rw [aj] at i j;split at i<;>split at j;{rename_i r u;rw [r,u]};{rename_i r u;rw [r,a_,hβ z B j] at he;have:=hlt z B j F;omega};{rename_i r u;rw [u,a_,hβ s A i] at he;have:=hlt s A i E;omega};grind [hM.inj]};{rintro x o ⟨i,j⟩;exact hM.rS x o ⟨λh=>i (.inl h),j⟩};{rintro s g f l o ⟨i,j⟩;rw [aj] at f;split at f;{rename_i p;rw [p,a_] at i;exact i (.inr ⟨rfl,by rw [hw];exact aG k⟩)};{rw [hβ s g f] at i j;exact hM.zy s g f l o ⟨λh=>i (.inl h),j⟩}};{intro s g f l;rw [aj] at f;split at f;{rename_i p;rw [p,a_];exact .inl (ā hsz hb)};{rw [hβ s g f];exact hM.own s g f l}};{intro s f;have ⟨i,j⟩:=hM.n_ s f;grind [iW,hM.small]}};refine y.put hd ?_ ?_;{simp only [SV.den,C.den,a_]};{intro s f;simp [SV.ids,C.ids] at f;subst f;exact ⟨_,by rw [aj,Ä rfl]⟩}
def Cf {L:pz Nat}{m s:Nat}:s∈(L.filter λs=>!(Nat.beq s m))↔s∈L/\s≠m:=by grind [Nat.beq_refl,beq_eq.1]
def qC (hM:Ü n V0 bQ β0 st β a w V){L:pz Nat}{γ:Nat->Nat}(kf:∀s∈L,γ s=β s)(hcl:∀s∈L,∀b,st.boxes s=some b->∀t∈b.cs.ids,t∈L)(hlive:∀s∈L,∃b,st.boxes s=some b){give:md}{sh:Sh}{m:Option Nat}{d:Nat}(hd:d<n){ety:TypeId}{K:St->ut->Prop}{w':World}{r:un}(hm:∀k,m=some k->k∈L)(hfree:lD st m d=true)(hx:kq (λb=>b∈L.map (eQ st.boxes γ w.heap.size)/\(du V w).H b) w w')(hr:cN T give sh L m d ety γ st (du V w) K r (((du V w).aq (L.map (eQ st.boxes γ w.heap.size))).to w' hx.size)):∃st' β' V',Ü n V0 bQ β0 st' β' (a.put (some d) r) w' V'/\K st' V':=by
 have a7:=hM.ext.size;unfold cN at hr;generalize hnb:gT m d=nb at hr;obtain ⟨E,q,R,F,S⟩:=hr;obtain ⟨x,U,rfl,hr⟩:=Sh.fC sh S;clear S
 have y:st.boxes nb=none:=by unfold lD at hfree;grind
 have Yy:nb<n\/200000<=nb:=by rw [<-hnb];(cases m with|none=>exact .inl hd|some m=>exact Ho hd)
 generalize hV1:((((du V w).aq (L.map (eQ st.boxes γ w.heap.size))).to w' hx.size).shut.aW (q≠[]) E)=V1 at hr;have W:V1.w=w':=by rw [<-hV1];rfl
 have PY:∀b o,V1.bg b o->w'.heap[b]?=some o/\¬(b<w.heap.size/\∀o,¬V.bg b o)/\¬(q≠[]/\b=E/\b<w'.heap.size):=by rintro b o ⟨z,D⟩;rw [W] at D;rw [<-hV1] at z;refine ⟨D,λh=>z (.inl h),λh=>z (.inr ⟨h.1,h.2.1,by rw [<-h.2.1];exact h.2.2⟩)⟩
 have X:∀b o,V1.bg b o->w'.heap[b]?=some o/\¬V0.H b:=by intro b o h;obtain ⟨z,D,-⟩:=PY b o h;refine ⟨z,λhH=>?_⟩;by_cases a1:b<w.heap.size;{exact D ⟨a1,λo' a2=>(hM.rS b o' a2).2 hH⟩};{have:=V0.hH b hH;omega}
 have zx:∀s b,st.boxes s=some b->b.live->∀o,¬V1.bg (β s) o:=λs b f l o ho=>
  (PY _ o ho).2.1 ⟨aG (hM.boxes s b f l),hM.zy s b f l⟩
 have a3:∀b,(b∈L.map (eQ st.boxes γ w.heap.size)/\(du V w).H b)->∃s∈L,∃u,st.boxes s=some u/\u.live/\β s=b:=by rintro b ⟨z,D⟩;have ⟨s,c,u,g,I,he⟩:=B7 hlive z D.1;exact ⟨s,c,u,g,I,by rw [<-kf s c];exact he⟩
 have Lp:Ü n V0 bQ β0 (eE st L ety) β a w' V1:=by refine (hM.Lm (L:=L) (ty:=ety)).later hx ?_ ?_ X ?_;{intro t b f l hX;rw [bq] at f;grind [fS,hM.inj]};{intro i hi hX;obtain ⟨s,c,u,g,I,rfl⟩:=a3 _ hX;rcases hM.own s u g I with h|h<;>grind [hM.mJ]};{intro t b f l;rw [bq] at f;grind [fS]}
 have J:(eE st L ety).boxes nb=none:=by rw [bq,Ã];{exact y};{intro h;have ⟨b,f⟩:=hlive nb h;rw [y] at f;cases f}
 have Mo:q≠[]->w.heap.size<=E\/∃k u,m=some k/\st.boxes k=some u/\u.live/\E=β k:=by intro p;rcases F p with h|h;{exact .inl h};{right;(cases m with|none=>exact h.elim|some k=>{have ⟨u,g⟩:=hlive k (hm k rfl);simp only [DI,g] at h;obtain ⟨cs,ty⟩:=u;cases cs<;>grind [dP,dQ,gE]})}
 have a4:Ü n V0 bQ β0 ((eE st L ety).box nb ⟨.aB q,ety⟩) (cU β nb E) a w' V1:=by by_cases p:q=[];{subst p;exact (Lp.beta Yy J).void};{have M:=R p;refine Lp.kj Yy J rfl ?_ ?_ ?_ M (λ_ _ _=>rfl) (Ù _) rfl rfl rfl;{intro s b f l he;rw [bq] at f;split at f;{cases f;exact fS l};{rename_i a5;rcases Mo p with h|⟨k,u,hk,g,I,h⟩;{have:=aG (hM.boxes s b f l);omega};{exact a5 (hM.inj k s u b g I f l (h▸he.symm)▸hm k hk)}}};{intro o ho;exact (PY _ o ho).2.2 ⟨p,rfl,aG M⟩};{rcases Mo p with h|⟨k,u,hk,g,I,h⟩;{left;omega};{rcases hM.own k u g I with h'|h';{left;rw [h];exact h'};{right;refine ⟨?_,by rw [h];exact h'.2⟩;rw [<-hnb,hk];exact Om h'.1}}}}
 have Mm:∀s,(∃b,st.boxes s=some b)->s≠nb:=by rintro s ⟨b,f⟩ rfl;rw [y] at f;cases f
 generalize hA:JQ m L=A at hr
 have N:∀s∈A,s∈L/\∀k,m=some k->s≠k:=by intro s c;rw [<-hA] at c;(cases m with|none=>exact ⟨c,λk h=>nomatch h⟩|some k=>{have ⟨z,D⟩:=Cf.1 c;exact ⟨z,λj hj=>by cases hj;exact D⟩})
 have Y:∀s∈L,(∀k,m=some k->s≠k)->s∈A:=by intro s c h;rw [<-hA];(cases m with|none=>exact c|some k=>exact Cf.2 ⟨c,h k rfl⟩)
 have O:∀s,(∃b,st.boxes s=some b)->cU γ nb E s=γ s/\cU β nb E s=β s:=λs c=>⟨iW _ _ (Mm s c),iW _ _ (Mm s c)⟩
 have P:∀s∈A,((vg m ety st).box nb ⟨.aB q,ety⟩).boxes s=st.boxes s:=by intro s c;have ⟨z,D⟩:=N s c;rw [aj,Ã (Mm s (hlive s z))];(cases m with|none=>rfl|some k=>{simp only [vg];rw [aj,Ã (D k rfl)]})
 have Z:∀s∈A,∃b,st.boxes s=some b/\b.live:=by intro s c;have:=B8 hr s c;rw [P s c] at this;exact this
 have ⟨st',g1,g2,g3,g4⟩:=oK (a:=a) (w:=w') (V:=V1) (γ:=cU γ nb E) (β:=cU β nb E) (by rfl) (λs c=>by
   have:=O s (hlive s (N s c).1);rw [this.1,this.2];exact kf s (N s c).1)
  (by
   intro s c s' a0 he;rw [(O s (hlive s (N s c).1)).2,(O s' (hlive s' (N s' a0).1)).2] at he;obtain ⟨B,C,Q⟩:=Z s c;have ⟨b2,e2,l2⟩:=Z s' a0;exact hM.inj s s' B b2 C Q e2 l2 he)
  (by
   intro s c;obtain ⟨B,C,Q⟩:=Z s c;rw [(O s ⟨B,C⟩).2];exact zx s B C Q)
  (by
   intro s c;obtain ⟨B,C,Q⟩:=Z s c;rw [(O s ⟨B,C⟩).2];exact hM.own s B C Q)
  A _ ((eE st L ety).box nb ⟨.aB q,ety⟩) (λ_ h=>h) a4
  (by
   show _=(eE st L ety).ay;rw [jY];cases m<;>rfl)
  (by
   intro t v;rw [aj,aj];split
   ·rfl
   ·rw [bq]
    cases m with
    | none=>
     simp only [vg];rw [Ã λh=>v (Y t h λk e=>nomatch e)]
    | some k=>
     simp only [vg];rw [aj];split
     ·rename_i e;rw [Ä (e▸hm k rfl)]
     ·rename_i e;rw [Ã λh=>v (Y t h λj hj=>by cases hj;exact e)])
  (by
   intro s c;rw [aj];split
   ·exact ⟨_,rfl⟩
   ·rw [bq,Ä (N s c).1];exact ⟨_,rfl⟩)
  (by
   intro t b v l WH s c;obtain ⟨B,C,Q⟩:=Z s c;rw [(O s ⟨B,C⟩).2];rw [aj] at v;split at v
   ·rename_i e;simp only [ý] at v;rw [e,a_];have p:q≠[]:=λe0=>by{rw [<-v,e0] at l;exact fS l};rcases Mo p with h|⟨k,u,hk,g,I,h⟩;{have:=aG (hM.boxes s B C Q);omega};grind [hM.inj]
   ·rw [bq] at v;split at v
    ·cases v;exact Å l fS
    ·rename_i YB;intro he;rw [(O t ⟨b,v⟩).2] at he;exact YB (hM.inj t s b B v l C Q he▸(N s c).1))
  (by
   intro s c b f t v;rw [P s c] at f;have YB:=hcl s (N s c).1 b f t v;have G:=O t (hlive t YB);refine ⟨?_,by rw [G.1,G.2];exact kf t YB⟩;rw [aj];split
   ·exact ⟨_,rfl⟩
   ·rw [bq,Ä YB];exact ⟨_,rfl⟩)
  (by
   intro k a6 e
   have:a6=nb:=by (cases m with|none=>{cases e}|some m=>{cases e;rfl})
   subst this;exact ⟨⟨_,by rw [aj,Ä rfl]⟩,by rw [a_,a_]⟩)
  hr
 have ⟨b2,G⟩:=g3 nb ⟨_,by rw [aj,Ä rfl]⟩
 have lA:∀s∈(cond give (xo nb x) x).ids,s=nb:=by (cases give with|true=>exact Mg U|false=>{intro s c;rw [cond_false,U] at c;cases c})
 refine ⟨_,_,_,g1.put (x:=cond give (xo nb x) x) hd ?_ ?_,g4⟩
 ·exact SV.b_ λs c=>by rw [lA s c,a_,a_]
 ·intro s c;rw [lA s c];exact ⟨b2,G⟩
def my (hM:Ü n V0 bQ β0 st β a w V){m:CM}{f:FuncId}{xs:pz SV}{ty:TypeId}{dst:Option Nat}{K:St->ut->Prop}{next:Act->World->Prop}{Q:Exit->Act->World->Prop}(hd:∀d,dst=some d->d<n)(hv:h_ P T m f xs ty dst st V K)(hK:∀st' β' a' w' V',Ü n V0 bQ β0 st' β' a' w' V'->K st' V'->next a' w'):iG P f/\Calls P f (aI β xs) w λ
   | .returned v,w''=>next (a.put dst v) w''
   | .panicked chain,w''=>Q (.panic chain) a w''
   | .outgrown,_=>LetsOut Q:=by
 have hle:=yf hM;have b5:=hM.ext.size;unfold h_ at hv;split at hv
 ·exact hv.elim
 ·rename_i sh c7;split at hv
  ·
   rename_i lA
   have b6:∀x∈xs,x.ids=[]:=by intro x u;rcases hx':x.ids with _|⟨s,r⟩;{rfl};{exfalso;have:s∈ì st.boxes 3 (ð (xs.flatMap SV.ids)):=gF 3 _ s (cB.2 (Đ.2 ⟨x,u,by rw [hx'];simp⟩));rw [lA] at this;cases this}
   have b7:∀(w':World)(u:kq (λ_=>False) w w'),Ü n V0 bQ β0 st β a w' ((du V w).to w' u.size):=by intro w' u;refine hM.later u (λ_ _ _ _ h=>h) (λ_ _ h=>h.elim) ?_ ?_;{rintro b o ⟨E,M⟩;refine ⟨M,λhH=>?_⟩;by_cases N:b<w.heap.size;{apply E;refine ⟨N,λo' O=>(hM.rS b o' O).2 hH⟩};{have:=V0.hH b hH;omega}};{rintro s b p l o ⟨E,-⟩;exact E ⟨aG (hM.boxes s b p l),hM.zy s b p l⟩}
   rw [Jo b6 β λ_=>0]
   have plain:(∀V':ut,V.Le V'->aa P f (aI (λ_=>0) xs) V' λr fF=>sh.ex λx=>r=x.den (λ_=>0)/\K (st.put dst x) fF)->iG P f/\Calls P f (aI (λ_=>0) xs) w λ
     | .returned v,w''=>next (a.put dst v) w''
     | .panicked chain,w''=>Q (.panic chain) a w''
     | .outgrown,_=>LetsOut Q:=by
    intro hv;have ⟨hc,U⟩:=hv (du V w) hle;refine ⟨hc,Calls.s U ?_⟩;rintro e w' ⟨r,rfl,u,Y⟩;obtain ⟨x,A,rfl,S⟩:=Sh.fC sh Y;have u:=u;exact hK (st.put dst x) β _ _ _ ((b7 w' u).Ki hd (kE A _ _) (cz A)) S
   split at hv
   ·split at hv;{rename_i d Z c8;split at hv;{exact hv.elim};{rename_i q;have ⟨hc,U⟩:=hv (du V w) hle;refine ⟨hc,Calls.s U ?_⟩;rintro e' w' ⟨r,rfl,u,Y⟩;have A:kq (λb=>b∈([]:pz Nat).map (eQ st.boxes (λ_=>0) w.heap.size)/\(du V w).H b) w w':=u.s λ_ h=>h.elim;have b3:cN T true sh [] Option.none d Z (λ_=>0) st (du V w) K r (((du V w).aq (([]:pz Nat).map (eQ st.boxes (λ_=>0) w.heap.size))).to w' A.size):=by{unfold cN JQ at Y ⊢;exact Y};have ⟨st',β',V',E,M⟩:=qC (T:=T) (give:=true) (m:=Option.none) hM (λs g=>Å g ψ) (λs g=>Å g ψ) (λs g=>Å g ψ) (hd d rfl) (λk W=>by cases W) q A b3;exact hK _ _ _ _ _ E M}};{exact plain hv};{exact hv.elim}
   ·split at hv;{rename_i d;split at hv;{exact hv.elim};{rename_i hn;split at hv;{rename_i ti c9;split at hv;{rename_i e he;split at hv;{rename_i ei Jz;have ⟨hc,U⟩:=hv (du V w) hle;refine ⟨hc,Calls.s U ?_⟩;rintro e' w' ⟨r,rfl,u,b,Y⟩;obtain ⟨cs,E,M,rfl,h4,h5,h6⟩:=u_ _ Y;exact hK _ _ _ _ _ ((b7 w' u).Zl (w0:=w) (λs b p l=>aG (hM.boxes s b p l)) b5 (hd d rfl) hn h4 rfl h5 E) h6};{exact hv.elim}};{exact hv.elim}};{exact hv.elim}}};{exact hv.elim}
   ·exact plain hv
  ·rename_i s0 r0 lA;split at hv
   ·exact hv.elim
   ·rename_i a4;generalize hL:s0::r0=L at hv lA a4
    have a5:∀x∈xs,∀s∈x.ids,s∈L:=by intro x u s g;rw [<-lA];exact gF 3 _ s (cB.2 (Đ.2 ⟨x,u,g⟩))
    have a3:∀s∈L,∀b,st.boxes s=some b->∀t∈b.cs.ids,t∈L:=λs g b p=>fM a4 g p
    have a8:∀{R:(Nat->Nat)->un->ut->Prop},(nf L (λ_=>0) λγ=>kn st.boxes γ (du V w) L (aa P f (aI γ xs) ((du V w).aq (L.map (eQ st.boxes γ w.heap.size))) (R γ))) ->
      ∃γ,(∀s∈L,γ s=β s)/\(∀s∈L,∃b,st.boxes s=some b)/\aa P f (aI β xs) ((du V w).aq (L.map (eQ st.boxes γ w.heap.size))) (R γ):=by
     intro R hv;have G:=jd hv β;generalize hγ:(λt=>if t∈L then β t else (λ_=>0) t)=γ at G;have F:∀s∈L,γ s=β s:=λs g=>by rw [<-hγ];simp [g]
     have BQ:∀s∈L,∀b,st.boxes s=some b->b.obj γ=b.obj β:=λs g b p=>aX.dJ λt X=>F t (a3 s g b p t X)
     have ⟨B,b8⟩:=B9 G (by
      intro s g b p l;rw [F s g,BQ s g b p];exact ⟨hM.boxes s b p l,aG (hM.boxes s b p l),hM.zy s b p l⟩) (by
      intro s g t X b b' p l c3 l' e;rw [F s g,F t X] at e;exact hM.inj s t b b' p l c3 l' e)
     refine ⟨γ,F,B,?_⟩
     have D:aI γ xs=aI β xs:=by unfold aI;rw [Ŗ λx u=>SV.b_ λs g=>F s (a5 x u s g)]
     rw [<-D];exact b8
    have a1:∀{give:md} {mm:Option Nat} {d:Nat} {Z:TypeId},dst=some d->(∀k,mm=some k->k∈L)->lD st mm d=true ->
      (∀V':ut,V.Le V'->nf L (λ_=>0) λγ=>kn st.boxes γ V' L (aa P f (aI γ xs) (V'.aq (L.map (eQ st.boxes γ V'.w.heap.size))) (cN T give sh L mm d Z γ st V' K))) ->
      iG P f/\Calls P f (aI β xs) w λ
       | .returned v,w''=>next (a.put dst v) w''
       | .panicked chain,w''=>Q (.panic chain) a w''
       | .outgrown,_=>LetsOut Q:=by
     intro give mm d Z a9 c4 q hv;have ⟨γ,F,B,hc,U⟩:=a8 (R:=λγ=>cN T give sh L mm d Z γ st (du V w) K) (hv (du V w) hle);refine ⟨hc,Calls.s U ?_⟩;rintro e w' ⟨r,rfl,u,Y⟩;have ⟨st',β',V',E,M⟩:=qC hM F a3 B (hd d a9) c4 q u Y;rw [a9];exact hK _ _ _ _ _ E M
    have b9:∀k,k∈vy st.boxes L->k∈L:=by
     intro k W;unfold vy at W;have ⟨s,g,W⟩:=Đ.1 (cB.1 W);split at W
     ·rename_i cs ty p;refine a3 s g _ p k ?_
      have:∀cs:pz C,k∈tV cs->k∈cs.flatMap C.ids:=by
       intro cs
       induction cs with
       | nil=>exact λh=>nomatch h
       | cons c r ih=>
        intro h;rw [Ď,õ]
        cases c<;>simp only [tV,å] at h<;>first
         | exact .inr (ih h)
         | (rcases h with h|h
            ·left;simp [C.ids,h]
            ·exact .inr (ih h))
      exact this cs W
     ·cases W
    have c0:∀k,k∈oM xs->k∈L:=by
     intro k W
     have:∀xs:pz SV,k∈oM xs->∃x∈xs,k∈x.ids:=by
      intro xs
      induction xs with
      | nil=>exact λh=>nomatch h
      | cons x r ih=>
       intro h;unfold oM at h;split at h
       ·rename_i heq;cases heq
       ·rename_i s n c r' heq;cases heq;exact ⟨.c (.eJ s n c),þ,h⟩
       ·rename_i s n c r' heq;cases heq;exact ⟨.c (.m_ s 0 n c),þ,h⟩
       ·rename_i heq;cases heq;have ⟨y,hy,W⟩:=ih h;exact ⟨y,by simp [hy],W⟩
     have ⟨x,u,W⟩:=this xs W;exact a5 x u k W
    split at hv
    ·exact hv.elim
    ·exact hv.elim
    ·
     split at hv
     ·split at hv;{exact hv.elim};{rename_i q;exact a1 rfl (λk W=>by cases W) q hv}
     ·rename_i d Z k _ c5 _;split at hv
      ·split at hv;{exact hv.elim};{rename_i q;exact a1 rfl (λj hj=>by cases hj;exact c0 k (by rw [c5];simp)) q hv}
      ·split at hv
       ·exact hv.elim
       ·rename_i q;split at hv
        ·exact hv.elim
        ·
         rename_i z;rw [ĩ] at z;let Vr:ut:=⟨w,λb=>(b<w.heap.size/\∀o,¬V.bg b o)/\¬∃s∈L,∃I,st.boxes s=some I/\I.live/\β s=b,λ_=>False,λ_ h=>h.1.1,λ_ h=>h.elim⟩;have a0:V.Le Vr:=λb o p=>⟨λh=>h.1.2 o p,(hM.rS b o p).1⟩
         have Mj:Ü n V0 bQ β0 (eE st L 0) β a w Vr:=by have Lp:=hM.Lm (L:=L) (ty:=0);refine ⟨Lp.defers,Lp.size,Lp.ay,Lp.DX,Lp.DW,Lp.boxes,Lp.inj,?_,?_,Lp.ext,Lp.own,Lp.n_,Lp.mJ,hM.small⟩;{rintro b o ⟨E,M⟩;refine ⟨M,λhH=>?_⟩;have N:=aG M;apply E;refine ⟨⟨N,λo' O=>(hM.rS b o' O).2 hH⟩,λhm=>?_⟩;obtain ⟨s,g,I,J,l0,rfl⟩:=hm;rcases hM.own s I J l0 with h|h;{have:=V0.hH _ hH;omega};{have:=Œ (z s g);omega}};{rintro s b p l o ⟨E,-⟩;rw [bq] at p;split at p;{cases p;exact Å l fS};{rename_i a6;refine E ⟨⟨aG (hM.boxes s b p l),hM.zy s b p l⟩,λhm=>?_⟩;obtain ⟨s',a2,bs,a7,ls,he⟩:=hm;exact a6 (hM.inj s' s bs b a7 ls p l he▸a2)}}
         have G:=jd (hv (du Vr w) (a0.m (yf Mj))) β;generalize hγ:(λt=>if t∈L then β t else (λ_=>0) t)=γ at G;have F:∀s∈L,γ s=β s:=λs g=>by rw [<-hγ];simp [g]
         have ⟨B,hc,U⟩:=ju G (by
          intro s g b p l;rw [F s g,aX.dJ λt X=>F t (fM a4 g p t X)];exact yf Mj _ _ ⟨λh=>h.2 ⟨s,g,b,p,l,rfl⟩,hM.boxes s b p l⟩)
         refine ⟨hc,?_⟩
         have D:aI γ xs=aI β xs:=by unfold aI;rw [Ŗ λx u=>SV.b_ λs g=>F s (a5 x u s g)]
         rw [D] at U;refine Calls.s U ?_;rintro e' w' ⟨r,rfl,u,Y⟩;have A:kq (λb=>b∈([]:pz Nat).map (eQ (eE st L 0).boxes (λ_=>0) w.heap.size)/\(du Vr w).H b) w w':=u.s λ_ h=>h.elim
         have b3:cN T true sh [] Option.none d Z (λ_=>0) (eE st L 0) (du Vr w) K r (((du Vr w).aq (([]:pz Nat).map (eQ (eE st L 0).boxes (λ_=>0) w.heap.size))).to w' A.size):=by unfold cN JQ at Y ⊢;exact Y
         have ⟨st',β',V',E,M⟩:=qC (T:=T) (give:=true) (m:=Option.none) Mj (λs g=>Å g ψ) (λs g=>Å g ψ) (λs g=>Å g ψ) (hd d rfl) (λk W=>by cases W) q A b3;grind
     ·split at hv
      ·exact hv.elim
      ·
       rename_i z;rw [ĩ] at z;let Vr:ut:=⟨w,λb=>(b<w.heap.size/\∀o,¬V.bg b o)/\¬∃s∈L,∃I,st.boxes s=some I/\I.live/\β s=b,λ_=>False,λ_ h=>h.1.1,λ_ h=>h.elim⟩;have a0:V.Le Vr:=λb o p=>⟨λh=>h.1.2 o p,(hM.rS b o p).1⟩;have G:=jd (hv Vr a0) β;generalize hγ:(λt=>if t∈L then β t else (λ_=>0) t)=γ at G;have F:∀s∈L,γ s=β s:=λs g=>by rw [<-hγ];simp [g]
       have ⟨B,hc,U⟩:=ju G (by
        intro s g b p l;rw [F s g,aX.dJ λt X=>F t (fM a4 g p t X)];exact ⟨λh=>h.2 ⟨s,g,b,p,l,rfl⟩,hM.boxes s b p l⟩)
       refine ⟨hc,?_⟩
       have D:aI γ xs=aI β xs:=by unfold aI;rw [Ŗ λx u=>SV.b_ λs g=>F s (a5 x u s g)]
       rw [D] at U;refine Calls.s U ?_;rintro e w' ⟨r,rfl,u,Y⟩;obtain ⟨x,A,rfl,S⟩:=Sh.fC sh Y;have u:=u;refine hK _ β _ _ _ ?_ S
       have b4:Ü n V0 bQ β0 (eE st L 0) β a w' (Vr.to w' u.size):=by refine (hM.Lm (L:=L) (ty:=0)).later u (λ_ _ _ _ h=>h) (λ_ _ h=>h.elim) ?_ ?_;{rintro b o ⟨E,M⟩;refine ⟨M,λhH=>?_⟩;by_cases N:b<w.heap.size;{apply E;refine ⟨⟨N,λo' O=>(hM.rS b o' O).2 hH⟩,λhm=>?_⟩;obtain ⟨s,g,I,J,l0,rfl⟩:=hm;rcases hM.own s I J l0 with h|h;{have:=V0.hH _ hH;omega};{have:=Œ (z s g);omega}};{have:=V0.hH b hH;omega}};{rintro s b p l o ⟨E,-⟩;rw [bq] at p;split at p;{cases p;exact Å l fS};{rename_i a6;refine E ⟨⟨aG (hM.boxes s b p l),hM.zy s b p l⟩,λhm=>?_⟩;obtain ⟨s',a2,bs,a7,ls,he⟩:=hm;exact a6 (hM.inj s' s bs b a7 ls p l he▸a2)}}
       exact b4.Ki hd (kE A _ _) (cz A)
     ·exact hv.elim
    ·
     split at hv
     ·have ⟨γ,F,B,hc,U⟩:=a8 (R:=λγ r' fF=>sh.ex λx=>r'=x.den (λ_=>0)/\fQ T Option.none γ fF L st λst'=>K (st'.put dst x) fF.shut) (hv (du V w) hle);refine ⟨hc,Calls.s U ?_⟩;rintro e w' ⟨r,rfl,u,Y⟩;obtain ⟨x,A,rfl,S⟩:=Sh.fC sh Y;have u:=u;generalize hV1:(((du V w).aq (L.map (eQ st.boxes γ w.heap.size))).to w' u.size)=V2 at S;have c1:V2.w=w':=by rw [<-hV1];rfl
      have c2:∀b,(b∈L.map (eQ st.boxes γ w.heap.size)/\(du V w).H b)->∃s∈L,∃I,st.boxes s=some I/\I.live/\β s=b:=by rintro b ⟨E,M⟩;have ⟨s,g,I,J,l0,he⟩:=B7 B E M.1;exact ⟨s,g,I,J,l0,by rw [<-F s g];exact he⟩
      have PY:∀b o,V2.shut.bg b o->w'.heap[b]?=some o/\¬(b<w.heap.size/\∀o,¬V.bg b o):=by rintro b o ⟨E,M⟩;rw [<-hV1] at E M;exact ⟨M,E⟩
      have zx:∀s b,st.boxes s=some b->b.live->∀o,¬V2.shut.bg (β s) o:=λs b p l o ho=>
       (PY _ o ho).2 ⟨aG (hM.boxes s b p l),hM.zy s b p l⟩
      have Lp:Ü n V0 bQ β0 (eE st L 0) β a w' V2.shut:=by refine (hM.Lm (L:=L) (ty:=0)).later u ?_ ?_ ?_ ?_;{intro t b p l hX;rw [bq] at p;split at p;{cases p;exact fS l};{rename_i X;have ⟨s,g,I,J,l0,he⟩:=c2 _ hX;exact X (hM.inj s t I b J l0 p l he▸g)}};{intro i hi hX;obtain ⟨s,g,I,J,l0,rfl⟩:=c2 _ hX;rcases hM.own s I J l0 with h|h;{omega};{exact hM.mJ _ h.2}};{intro b o h;have ⟨E,M⟩:=PY b o h;refine ⟨E,λhH=>?_⟩;by_cases N:b<w.heap.size;{exact M ⟨N,λo' O=>(hM.rS b o' O).2 hH⟩};{have:=V0.hH b hH;omega}};{intro t b p l;rw [bq] at p;split at p;{cases p;exact Å l fS};{exact zx t b p l}}
      have lu:=B8 S
      have ⟨st',g1,g2,g3,g4⟩:=oK (a:=a) (w:=w') (V:=V2.shut) (γ:=γ) (β:=β) c1 F
       (by
        intro s g s' a2 he;have ⟨b1,e1,l1⟩:=lu s g;have ⟨b2,e2,l2⟩:=lu s' a2;exact hM.inj s s' b1 b2 e1 l1 e2 l2 he)
       (by intro s g;have ⟨b1,e1,l1⟩:=lu s g;exact zx s b1 e1 l1)
       (by intro s g;have ⟨b1,e1,l1⟩:=lu s g;exact hM.own s b1 e1 l1)
       L st (eE st L 0) (λ_ h=>h) Lp jY.symm (by intro t X;rw [bq,Ã X])
       (by intro s g;rw [bq,Ä g];exact ⟨_,rfl⟩)
       (by
        intro t b X l WH s g he;rw [bq,Ã WH] at X;have ⟨b1,e1,l1⟩:=lu s g;exact WH (hM.inj t s b b1 X l e1 l1 he▸g))
       (by
        intro s g b p t X;have YB:=a3 s g b p t X;exact ⟨by rw [bq,Ä YB];exact ⟨_,rfl⟩,F t YB⟩)
       (λm nb e=>by cases e) S
      exact hK _ _ _ _ _ (g1.Ki hd (kE A _ _) (cz A)) g4
     ·rename_i k c6;split at hv;{rename_i d Z _;split at hv;{exact hv.elim};{rename_i q;exact a1 rfl (λj hj=>by cases hj;exact b9 k (by rw [c6];simp)) q hv}};{exact hv.elim}
     ·exact hv.elim
    ·
     split at hv
     ·exact hv.elim
     ·rename_i z;rw [ĩ] at z;let Vr:ut:=⟨w,λb=>(b<w.heap.size/\∀o,¬V.bg b o)/\¬∃s∈L,∃I,st.boxes s=some I/\I.live/\β s=b,λ_=>False,λ_ h=>h.1.1,λ_ h=>h.elim⟩;have a0:V.Le Vr:=λb o p=>⟨λh=>h.1.2 o p,(hM.rS b o p).1⟩;have G:=jd (hv Vr a0) β;generalize hγ:(λt=>if t∈L then β t else (λ_=>0) t)=γ at G;have F:∀s∈L,γ s=β s:=λs g=>by rw [<-hγ];simp [g]
      have ⟨B,hc,U⟩:=ju G (by
       intro s g b p l;rw [F s g,aX.dJ λt X=>F t (fM a4 g p t X)];exact ⟨λh=>h.2 ⟨s,g,b,p,l,rfl⟩,hM.boxes s b p l⟩)
      refine ⟨hc,?_⟩
      have D:aI γ xs=aI β xs:=by unfold aI;rw [Ŗ λx u=>SV.b_ λs g=>F s (a5 x u s g)]
      rw [D] at U;refine Calls.s U ?_;rintro e w' ⟨r,rfl,u,Y⟩;obtain ⟨x,A,rfl,S⟩:=Sh.fC sh Y;have u:=u;refine hK ((st.rel L γ (C.den β)).put dst x) β _ _ _ ?_ (S (C.den β))
      have b4:Ü n V0 bQ β0 (st.rel L γ (C.den β)) β a w' (Vr.to w' u.size):=by refine (hM.rel (L:=L) (β':=γ) F).later u (λ_ _ _ _ h=>h) (λ_ _ h=>h.elim) ?_ ?_;{rintro b o ⟨E,M⟩;refine ⟨M,λhH=>?_⟩;by_cases N:b<w.heap.size;{apply E;refine ⟨⟨N,λo' O=>(hM.rS b o' O).2 hH⟩,λhm=>?_⟩;obtain ⟨s,g,I,J,l0,rfl⟩:=hm;rcases hM.own s I J l0 with h|h;{have:=V0.hH _ hH;omega};{have:=Œ (z s g);omega}};{have:=V0.hH b hH;omega}};{rintro s b p l o ⟨E,-⟩;obtain ⟨a6,y,hy,rfl⟩:=jv p;have ly:=aX.iS l;refine E ⟨⟨aG (hM.boxes s y hy ly),hM.zy s y hy ly⟩,λhm=>?_⟩;obtain ⟨s',a2,bs,a7,ls,he⟩:=hm;exact a6 (hM.inj s' s bs y a7 ls hy ly he▸a2)}
      exact b4.Ki hd (kE A _ _) (cz A)
def Ü.release (hM:Ü n V0 bQ β0 st β a w V){l:pz Nat}{K:St->ut->Prop}(hv:O3 l st V K):∃st' V',Ü n V0 bQ β0 st' β a w V'/\V.Le V'/\K st' V':=by
 unfold O3 at hv;split at hv
 ·exact ⟨st,V,hM,λ_ _ h=>h,hv⟩
 ·rename_i B D;split at hv
  ·exact hv.elim
  ·rename_i k;generalize hL:B::D=L at hv k;rw [ċ,ĩ] at k;obtain ⟨m,d⟩:=k;let Vr:ut:=⟨w,λb=>(b<w.heap.size/\∀o,¬V.bg b o)/\¬∃s∈L,∃j,st.boxes s=some j/\j.live/\β s=b,λ_=>False,λ_ h=>h.1.1,λ_ h=>h.elim⟩;have e:V.Le Vr:=λb o f=>⟨λh=>h.1.2 o f,(hM.rS b o f).1⟩;have i:=jd (hv Vr e) β;generalize hγ:(λt=>if t∈L then β t else (λ_=>0) t)=γ at i;have p:∀s∈L,γ s=β s:=λs g=>by rw [<-hγ];simp [g]
   have ⟨q,E⟩:=ju i (by
    intro s g b f l;rw [p s g,aX.dJ λt F=>p t (fM m g f t F)];exact ⟨λh=>h.2 ⟨s,g,b,f,l,rfl⟩,hM.boxes s b f l⟩)
   have c:=hM.rel (L:=L) (β':=γ) p;refine ⟨_,Vr,?_,e,E (C.den β)⟩;refine ⟨c.defers,c.size,c.ay,c.DX,c.DW,c.boxes,c.inj,?_,?_,c.ext,c.own,c.n_,c.mJ,hM.small⟩
   ·rintro b o ⟨r,x⟩;refine ⟨x,λhH=>?_⟩;apply r;refine ⟨⟨(aG x),λG u=>(hM.rS b G u).2 hH⟩,λhm=>?_⟩;obtain ⟨s,g,j,v,H,rfl⟩:=hm;rcases hM.own s j v H with h|h;{have:=V0.hH _ hH;omega};{have:=Œ (d s g);omega}
   ·rintro s b f l o ⟨r,-⟩;obtain ⟨I,y,z,rfl⟩:=jv f;have A:=aX.iS l;refine r ⟨⟨aG (hM.boxes s y z A),hM.zy s y z A⟩,λhm=>?_⟩<;>grind [hM.inj]
def CQ {bx:Nat->Option aX}{β:Nat->Nat}:∀{xs xs':pz SV} {vs:pz un} {c:Nat},o_ bx xs=some (vs,c,xs')->c=0->xs'.map (SV.den β)=xs.map (SV.den β)
 | [],_,_,_,h,_=>nomatch h
 | x::r,xs',vs,c,h,hc=>by
  simp only [o_] at h;split at h
  ·split at h
   ·cases h;subst hc;simp [SV.den,C.den,mA]
   ·cases h
  ·split at h
   ·rename_i e;cases h;rw [Ļ,Ļ,CQ e hc]
   ·cases h
def CS {bx:Nat->Option aX}:∀{xs xs':pz SV} {vs:pz un} {c:Nat},o_ bx xs=some (vs,c,xs')->∀t∈xs'.flatMap SV.ids,t∈xs.flatMap SV.ids
 | [],_,_,_,h=>nomatch h
 | x::r,xs',vs,c,h=>by
  simp only [o_] at h;split at h
  ·grind [SV.ids,C.ids]
  ·split at h
   ·rename_i e;cases h;intro t ht;rw [Ď,õ] at ht ⊢;exact ht.imp_right (CS e t)
   ·cases h
def vR {bx bx':Nat->Option aX}:∀{xs:pz SV},(∀s∈xs.flatMap SV.ids,bx' s=bx s)->o_ bx' xs=o_ bx xs
 | [],_=>rfl
 | x::r,h=>by
  have ih:=vR (xs:=r) λs a=>h s (by rw [Ď];exact Ľ _ a);simp only [o_];grind [SV.ids,C.ids]
def Bu (hM:Ü n V0 bQ β0 st β a w V){m:CM}{f:FuncId}{xs:pz SV}{ty:TypeId}{dst:Option Nat}{K:St->ut->Prop}{next:Act->World->Prop}{Q:Exit->Act->World->Prop}(hd:∀d,dst=some d->d<n)(hv:mV P T m f xs ty dst st V K)(hK:∀st' β' a' w' V',Ü n V0 bQ β0 st' β' a' w' V'->K st' V'->next a' w'):iG P f/\Calls P f (aI β xs) w λ
   | .returned v,w''=>next (a.put dst v) w''
   | .panicked chain,w''=>Q (.panic chain) a w''
   | .outgrown,_=>LetsOut Q:=by unfold mV at hv;split at hv;{split at hv;{rename_i b c g e;by_cases h:b=[];{have ⟨i,j⟩:=hv.1 h;have:=my (Q:=Q) hM hd j hK;unfold aI at this ⊢;rw [CQ e i] at this;exact this};{exact my hM hd (hv.2 h) hK}};{exact my hM hd hv hK}};{exact my hM hd hv hK}
end
end Go.Eng
