import Derived.Test.YtobpmgpnbbcgjaaGreatDoorG2
set_option linter.all false
open Go.IntKind (i64 u64 u32)
namespace Go.Eng
section
variable {P:Program} {T:dT} {n:Nat} {V0:Ó} {bQ:KZ} {β0:Nat->Nat} {st:St} {β:Nat->Nat} {a:Act} {w:World} {V:Ó}
def dP {x:Nat}{l:zA Nat}:iK x l=true↔x∈l:=by
 induction l with
 | nil=>simp [iK]
 | cons y r u=>
  simp only [iK,ê];grind [beq_eq.1,Nat.beq_refl]
theorem oM {x:Nat}{l:zA Nat}:iK x l=false↔x∉l:=by rw [<-dP];cases iK x l<;>simp
def I2 {l m:zA Nat}:DT l m=true↔∀x∈l,x∉m:=by unfold DT;grind [oM]
theorem C.jx {L:zA Nat}{β':Nat->Nat}(hβ:∀s∈L,β' s=β s)(c:C):(c.rel L β' (C.den β)).den β=c.den β/\∀s∈(c.rel L β' (C.den β)).ids,s∈c.ids/\s∉L:=by cases c<;>grind [C.rel,C.den,dP.1,C.ids,oM.1,I2.1]
def vK {L:zA Nat}{β':Nat->Nat}(hβ:∀s∈L,β' s=β s)(cs:zA C):(cs.map (C.rel L β' (C.den β))).map (C.den β)=cs.map (C.den β)/\∀s∈(cs.map (C.rel L β' (C.den β))).flatMap C.ids,s∈cs.flatMap C.ids/\s∉L:=by refine ⟨?_,λs a=>?_⟩;{rw [Qt6];exact ś λc _=>(C.jx hβ c).1};{grind [C.jx]}
theorem SV.jx {L:zA Nat}{β':Nat->Nat}(hβ:∀s∈L,β' s=β s)(x:SV):(x.rel L β' (C.den β)).den β=x.den β/\∀s∈(x.rel L β' (C.den β)).ids,s∈x.ids/\s∉L:=by
 cases x with
 | c c=>exact C.jx hβ c
 | agg cs=>
  have ⟨a,d⟩:=vK hβ cs;exact ⟨by simp only [SV.rel,SV.den,a],d⟩
 | wG xs=>
  refine ⟨?_,λs e=>?_⟩
  ·simp only [SV.rel,SV.den,Qt6];congr 2;apply ś;rintro ⟨b,cs⟩ -
   have a:=(vK hβ cs).1
   cases b with
   | true=>simp only [Function.comp,kf,a]
   | false=>
    match cs with
    | []=>rfl
    | [x]=>simp only [Function.comp,Ķ,Wk1,kf];exact (C.jx hβ x).1
    | _::_::_=>rfl
  ·have ⟨i,f,e⟩:=ĕ.1 e;obtain ⟨y,g,rfl⟩:=ă.1 f;obtain ⟨a,d⟩:=(vK hβ y.2).2 s e;exact ⟨ĕ.2 ⟨y,g,a⟩,d⟩
theorem aZ.jx {L:zA Nat}{β':Nat->Nat}(hβ:∀s∈L,β' s=β s)(b:aZ):(b.rel L β' (C.den β)).obj β=b.obj β/\∀s∈(b.rel L β' (C.den β)).cs.ids,s∈b.cs.ids/\s∉L:=by obtain ⟨cs,ty⟩:=b;(cases cs with|lit cs=>{have ⟨c,d⟩:=vK hβ cs;exact ⟨by simp only [aZ.rel,aZ.obj,ç.den,c],d⟩}|row vs=>{exact ⟨rfl,λs a=>by cases a⟩}|aB vs=>{exact ⟨rfl,λs a=>by cases a⟩})
theorem aZ.iC {L:zA Nat}{β':Nat->Nat}{J:C->un}{b:aZ}(h:(b.rel L β' J).live):b.live:=by obtain ⟨cs,ty⟩:=b;(cases cs with|aB vs=>exact h|_=>grind [dG,dH])
theorem FE {L:zA Nat}{β':Nat->Nat}{J:C->un}{t:Nat}{x:SV}(h:(st.rel L β' J).ay t=some x):∃y,st.ay t=some y/\x=y.rel L β' J:=by grind [St.rel]
theorem i_ {L:zA Nat}{β':Nat->Nat}{J:C->un}{t:Nat}{x:aZ}(h:(st.rel L β' J).boxes t=some x):t∉L/\∃y,st.boxes t=some y/\x=y.rel L β' J:=by grind [St.rel,oM.1]
theorem iC {L:zA Nat}{β':Nat->Nat}{J:C->un}{t:Nat}(h:∃b,st.boxes t=some b)(u:t∉L):∃b,(st.rel L β' J).boxes t=some b:=by obtain ⟨b,a⟩:=h;refine ⟨b.rel L β' J,?_⟩<;>grind [St.rel,oM.2]
theorem ß.rel (h:ß n V0 bQ β0 st β a w V){L:zA Nat}{β':Nat->Nat}(hβ:∀s∈L,β' s=β s):ß n V0 bQ β0 (st.rel L β' (C.den β)) β a w V where
 defers:=h.defers
 size:=h.size
 ay:=by grind [FE,h.ay,SV.jx]
 Dv:=by
  intro t x i s d;obtain ⟨y,c,rfl⟩:=FE i;obtain ⟨e,f⟩:=(SV.jx hβ y).2 s d;exact iC (h.Dv t y c s e) f
 Du:=by intro t b g s d;obtain ⟨-,y,c,rfl⟩:=i_ g;obtain ⟨e,f⟩:=(aZ.jx hβ y).2 s d;exact iC (h.Du t y c s e) f
 boxes:=by grind [i_,h.boxes,aZ.iC,aZ.jx]
 inj:=by grind [i_,h.inj,aZ.iC]
 sw:=h.sw
 yV:=by grind [i_,h.yV,aZ.iC]
 ext:=h.ext
 own:=by intro t b g l;obtain ⟨-,y,c,rfl⟩:=i_ g;exact h.own t y c (aZ.iC l)
 nX:=h.nX
 mG:=h.mG
 small:=h.small
def ß.j8 (h:ß n V0 bQ β0 st β a w V){d g:Nat}{b:aZ}(hd:d<n\/200000<=d)(N:st.boxes d=none)(lk:b.cs.ids=[])(M:∀s b',st.boxes s=some b'->b'.live->β s≠g)(O:∀o,¬V.aW g o)(hown:V0.w.heap.size<=g\/(100000<=d/\bQ.B g)){w':World}(hw:w'.heap[g]?=some (b.obj β))(Z:∀i,i<w.heap.size->i≠g->w'.heap[i]?=w.heap[i]?)(hsz:w.heap.size<=w'.heap.size)(hos:w'.os=w.os)(ht:w'.tape=w.tape)(hout:w'.output=w.output)(hdr:w.drawn<=w'.drawn:=by first|exact Ù _|exact Ww1 _):ß n V0 bQ β0 (st.box d b) (cR β d g) a w' V:=by have u:∀s b',st.boxes s=some b'->s≠d:=λs b' c e=>by{rw [e,N] at c;cases c};have hβ:∀s b',st.boxes s=some b'->cR β d g s=β s:=λs b' c=>iF _ _ (u s b' c);have v:∀s b',st.boxes s=some b'->b'.live->β s<w.heap.size:=λs b' c l=>aJ (h.boxes s b' c l);have C:∀b' o,V.aW b' o->b'<w.heap.size:=λb' o D=>aJ (h.sw b' o D).1;refine ⟨h.defers,h.size,?_,?_,?_,?_,?_,?_,?_,?_,?_,?_,h.mG,h.small⟩;{intro t x p;rw [h.ay t x p];exact SV.bX λs c=>by{have ⟨b',f⟩:=h.Dv t x p s c;exact (hβ s b' f).symm}};{intro t x p s c;have ⟨b',f⟩:=h.Dv t x p s c;grind [aj]};{grind [aj,h.Du]};{intro s b' c l;rw [aj] at c;split at c;{rename_i e;simp only [ÿ] at c;rw [e,bg,hw,<-c];grind [aZ.dz]};{rw [hβ s b' c,Z _ (v s b' c l) (M s b' c l),h.boxes s b' c l];grind [aZ.dz,h.Du]}};{intro s y z A j E k F he;rw [aj] at j k;split at j<;>split at k;{rename_i q r;rw [q,r]};{rename_i q r;rw [q,bg,hβ y A k] at he;exact Å he.symm (M y A k F)};{rename_i q r;rw [r,bg,hβ s z j] at he;exact Å he (M s z j E)};grind [h.inj]};{grind [h.sw]};{intro s b' c l o m;rw [aj] at c;split at c;{rename_i e;rw [e,bg] at m;exact O o m};grind [h.yV]};{refine ⟨ü h.ext.size hsz,λi G H=>?_,hos.m h.ext.os,ht.m h.ext.tape,hout.m h.ext.out,ü h.ext.dr hdr⟩<;>grind [h.mG,h.ext.aW]};{intro s b' c l;rw [aj] at c;split at c;{rename_i e;rw [e,bg];exact hown};{rw [hβ s b' c];exact h.own s b' c l}};{intro s c;have ⟨j,k⟩:=h.nX s c;grind [iF,h.small]}
theorem ET {t t' e y:TypeId}{ty:TypeId}(z:P.underlying t=some (.slice e))(Jb:P.underlying t'=some (.slice y))(b u:OA)(m c k xc:Nat):(Builtin.append_ #[t,t'] ty #[.slice b m c,.slice u k xc]).run P w=(Builtin.append_ #[t,t] ty #[.slice b m c,.slice u k xc]).run P w:=by simp [Builtin.append_,ai z,ai Jb]
theorem Aw {t e:TypeId}{ty:TypeId}{info:TypeInfo}(u:P.underlying t=some (.slice e))(hi:P.info? e=some info)(base:OA)(m c y:Nat)(z:m<=c):(Builtin.append_ #[t,t] ty #[.slice base m c,.slice none 0 y]).run P w=.ok (.slice base m c) w:=by cases base<;>simp [Builtin.append_,ai u,aR hi,Builtin.lenOf,Builtin.firstCells,storeCells,z]
def pU (y:ß n V0 bQ β0 st β a w V){s:Nat}{vs:zA un}{ty:TypeId}(h:fR st.boxes s=some vs)(u:nh st.boxes s=some ty):w.heap[β s]?=some (.cells vs.toArray ty (0,0))/\∃b,st.boxes s=some b/\b.live:=by unfold fR at h;unfold nh at u;split at h;{rename_i cs d c;rw [c] at u;simp only [ÿ] at u;subst u;have:=y.row c dG;grind [ç.den,fZ,dG]};{rename_i ws d c;rw [c] at u;simp only [ÿ,ÿ] at u h;subst u;subst h;exact ⟨y.row c dH,_,c,dH⟩};{cases h}
def K9 {bx:Nat->Option aZ}{s:Nat}{vs:zA un}(h:fR bx s=some vs):∃ty,nh bx s=some ty:=by unfold fR at h;unfold nh;split at h;{rename_i a;rw [a];exact ⟨_,rfl⟩};{rename_i a;rw [a];exact ⟨_,rfl⟩};{cases h}
theorem Cn (u:ß n V0 bQ β0 st β a w V){ad:Addr}{xs:zA un}(h:V.sl (some ad) xs):∀j v,xs[j]?=some v->w.cell? (ad.add j)=some v:=by intro j v b;have ⟨c,e,d⟩:=h j v b;grind [u.atV]
def Src (w:World)(u:OA)(k size:Nat)(xs:List Value):Prop:=
 xs.length=k*size/\(∀v∈xs,v.oneCell'=true)/\((∃ad,u=some ad/\∀j v,xs[j]?=some v->w.cell? (ad.add j)=some v)\/u=none/\k=0)
def QJ {t e ty:TypeId}{info:TypeInfo}(E:P.underlying t=some (.slice e))(hi:P.info? e=some info){g m c k xc:Nat}{vs xs:zA un}{y:OA}(z:w.heap[g]?=some (.cells vs.toArray e (0,0)))(u:Src w y k info.size xs)(D:m+k<=c)(F:c*info.size<=vs.length):∃w',(Builtin.append_ #[t,t] ty #[.slice (some ⟨g,0,none⟩) m c,.slice y k xc]).run P w=.ok (.slice (some ⟨g,0,none⟩) (m+k) c) w'/\w'.heap=w.heap.setIfInBounds g (.cells (vs.take (m*info.size)++xs++vs.drop (m*info.size+xs.length)).toArray e (0,0))/\w'.os=w.os/\w'.tape=w.tape/\w'.output=w.output/\w.drawn<=w'.drawn:=by obtain ⟨d,f,u⟩:=u;rcases u with ⟨h,rfl,a⟩|⟨rfl,rfl⟩;{have b:m*info.size+xs.length<=vs.length:=by{rw [d,<-đ];exact ü (Ā _ D) F};exact ⟨_,(run_append_room (P:=P) w t ty e info E hi g m c vs.toArray z h k xc xs d a f D (by simpa using b)),by rw [lJ z],rfl,rfl,rfl,Ù _⟩};{grind [Aw,List.take_append_drop]}
def ES {t e ty:TypeId}{info:TypeInfo}{z:un}(E:P.underlying t=some (.slice e))(hi:P.info? e=some info)(F:info.zero=some z)(hzs:z.cells.size=info.size){m c k xc:Nat}{olds xs:zA un}{base M:OA}(hbase:(∃b,base=some b/\olds.length=m*info.size/\∀j v,olds[j]?=some v->w.cell? (b.add j)=some v)\/base=none/\m=0/\c=0/\olds=[])(u:Src w M k info.size xs)(y:c<m+k)(O:(m+k)*info.bytes<=2^47)(Z:info.bytes≠0)(hmc:m<=c):∃(D:Nat)(rest:zA un)(w':World),m+k<=D/\(m+k)*info.size+rest.length=D*info.size/\w'.heap=w.heap/\w'.os=w.os/\w'.tape=w.tape/\w'.output=w.output/\w.drawn<=w'.drawn/\(Builtin.append_ #[t,t] ty #[.slice base m c,.slice M k xc]).run P w=.ok (.slice (some ⟨w.heap.size,0,none⟩) (m+k) D) (w'.alloc (.cells (olds++xs++rest).toArray e)):=by obtain ⟨g,n,u⟩:=u;have f:(m+k:Nat)<=2^47:=by{have:(m+k)*1<=(m+k)*info.bytes:=Ņ _ ω;omega};have a:∀N,(m+k)<=N->(m+k)*info.size+(Builtin.zeroCells z.cells (N-(m+k))).toList.length=N*info.size:=by{intro N o;rw [Ww5,size_zeroCells,hzs,<-đ];congr 1;omega};rcases u with ⟨h,rfl,d⟩|⟨rfl,rfl⟩;{rcases hbase with ⟨b,rfl,i,hold⟩|⟨rfl,rfl,rfl,rfl⟩;{have l:=run_append_grow (P:=P) w t ty e info z E hi F b m c olds i hold h k xc xs g d y ω (growslice_fits y O);refine ⟨_,(Builtin.zeroCells z.cells (grownCap w (m+k) c e-(m+k))).toList,w.drew,grownCap_ge w (m+k) c e,a _ (grownCap_ge w (m+k) c e),rfl,rfl,rfl,rfl,Ww1 _,?_⟩;rw [l];congr 3;apply ľ;simp};{simp only [Ĉ] at y O f a ⊢;refine ⟨_,(Builtin.zeroCells z.cells (grownCap w k 0 e-k)).toList,w.drew,grownCap_ge w k 0 e,a _ (grownCap_ge w k 0 e),rfl,rfl,rfl,rfl,Ww1 _,?_⟩;rw [(run_append_nil (P:=P) w t ty e info z E hi F h k xc xs g d ω ω ω)];congr 3;apply ľ;simp}};{omega}
def GV {s d n:Nat}(u:d<n):th s d<n\/200000<=th s d:=by unfold th;grind
theorem NN {s d:Nat}(u:100000<=s):100000<=th s d:=by unfold th;have:Nat.blt s 100000=false:=by{(cases h:Nat.blt s 100000 with|false=>rfl|true=>{have:=œ h;omega})};grind
def Im (hM:ß n V0 bQ β0 st β a w V){d:Nat}(hd:d<n){t e ty:TypeId}{info:TypeInfo}{z:un}(ht:P.underlying t=some (.slice e))(hi:P.info? e=some info)(hz:info.zero=some z)(hzs:z.cells.size=info.size)(hb0:info.bytes≠0){s:Nat}{vs xs:zA un}{m c k xc:Nat}{base xa:OA}(hbase:(base=some ⟨β s,0,none⟩/\w.heap[β s]?=some (.cells vs.toArray e (0,0))/\∃b,st.boxes s=some b/\b.live)\/(base=none/\m=0/\c=0/\k≠0))(hx:Src w xa k info.size xs)(hb:(m+k)*info.bytes<=2^47)(hmc:m<=c)(hcv:c*info.size<=vs.length)(hxl:xs.length=k*info.size)(hnb:st.boxes (th s d)=none):∃(spare:zA un)(Z g:Nat)(w':World),m+k<=Z/\Z*info.size<=(m+k)*info.size+spare.length/\((c≠0\/k≠0)->Z≠0)/\(Builtin.append_ #[t,t] ty #[.slice base m c,.slice xa k xc]).run P w=.ok (.slice (some ⟨g,0,none⟩) (m+k) Z) w'/\∀bx:aZ,(bx=⟨.row (vs.take (m*info.size)++xs++spare),e⟩\/bx=⟨.aB (vs.take (m*info.size)++xs++spare),e⟩) ->ß n V0 bQ β0 ((st.box s ⟨.aB [],e⟩).box (th s d) bx) (cR β (th s d) g) a w' V:=by
 have y:ß n V0 bQ β0 (st.box s ⟨.aB [],e⟩) β a w V:=hM.void
 have C:∀bx:aZ,∀l:zA un,(bx=⟨.row l,e⟩\/bx=⟨.aB l,e⟩)->bx.cs.ids=[]/\bx.obj β=.cells l.toArray e (0,0):=by rintro bx l (rfl|rfl)<;>exact ⟨rfl,rfl⟩
 have I:∀t b,(st.box s ⟨.aB [],e⟩).boxes t=some b->b.live->st.boxes t=some b/\t≠s:=by grind [aj,fN]
 have J:(∃b,st.boxes s=some b/\b.live)\/True->(s≠th s d\/st.boxes s=none)->(st.box s ⟨.aB [],e⟩).boxes (th s d)=none\/s=th s d:=by grind [aj]
 have h:c<m+k->((∃b,base=some b/\(vs.take (m*info.size)).length=m*info.size/\∀j v,(vs.take (m*info.size))[j]?=some v->w.cell? (b.add j)=some v)\/base=none/\m=0/\c=0/\vs.take (m*info.size)=[]) ->
   (s=th s d->st.boxes s=none) ->
   ∃(spare:zA un)(Z g:Nat)(w':World),m+k<=Z/\Z*info.size<=(m+k)*info.size+spare.length/\((c≠0\/k≠0)->Z≠0) /\
   (Builtin.append_ #[t,t] ty #[.slice base m c,.slice xa k xc]).run P w=.ok (.slice (some ⟨g,0,none⟩) (m+k) Z) w' /\
   ∀bx:aZ,(bx=⟨.row (vs.take (m*info.size)++xs++spare),e⟩\/bx=⟨.aB (vs.take (m*info.size)++xs++spare),e⟩) ->
    ß n V0 bQ β0 ((st.box s ⟨.aB [],e⟩).box (th s d) bx) (cR β (th s d) g) a w' V:=by
  intro D hold K;have ⟨Z,rest,w',L,U,B,F,p,q,r,M⟩:=ES (ty:=ty) (xc:=xc) ht hi hz hzs hold hx D hb hb0 hmc;refine ⟨rest,Z,w.heap.size,_,L,by rw [<-U];exact Ù _,ω,M,?_⟩;intro bx f;have ⟨G,H⟩:=C bx _ f;have u:w'.heap.size=w.heap.size:=by rw [B]
  by_cases W:s=th s d
  ·have X:(st.box s ⟨.aB [],e⟩).box (th s d) bx=st.box (th s d) bx:=by{grind [St.box]};rw [X];refine hM.j8 (GV hd) hnb G ?_ ?_ (.inl hM.ext.size) ?_ ?_ ?_ F p q r;{intro N O f l he;have:=aJ (hM.boxes N O f l);omega};{intro o f;have:=aJ (hM.sw _ o f).1;omega};{rw [H,<-u];exact heap_alloc_new _ _};{intro i Q _;rw [eZ _ _ ω,B]};{simp [u]}
  ·refine y.j8 (GV hd) (by rw [aj,Ã (Ne.symm W)];exact hnb) G ?_ ?_ (.inl hM.ext.size) ?_ ?_ ?_ F p q r;{intro N O f l he;have:=aJ (y.boxes N O f l);omega};{intro o f;have:=aJ (hM.sw _ o f).1;omega};{rw [H,<-u];exact heap_alloc_new _ _};{intro i Q _;rw [eZ _ _ ω,B]};{simp [u]}
 rcases hbase with ⟨rfl,R,S,A,E⟩|⟨rfl,rfl,rfl,Y⟩
 ·have x:s≠th s d:=λe=>by{rw [<-e,A] at hnb;cases hnb};by_cases D:m+k<=c;{have ⟨w',M,B,F,p,q,r⟩:=QJ (ty:=ty) (xc:=xc) ht hi R hx D hcv;have T:m*info.size+xs.length<=vs.length:=by{rw [hxl,<-đ];exact ü (Ā _ D) hcv};refine ⟨vs.drop (m*info.size+xs.length),c,β s,w',D,by rw [ī,hxl,đ];omega,ω,M,?_⟩;intro bx f;have ⟨G,H⟩:=C bx _ f;refine y.j8 (GV hd) (by rw [aj,Ã (Ne.symm x)];exact hnb) G ?_ (hM.yV s S A E) ?_ ?_ ?_ (by rw [B];simp) F p q r;{grind [hM.inj]};{rcases hM.own s S A E with L|L<;>grind [NN]};{rw [B,Array.getElem?_setIfInBounds,Ä rfl,Ä (aJ R),H]};grind};{refine h ω (.inl ⟨⟨β s,0,none⟩,rfl,?_,?_⟩) (λe=>Å e x);{rw [è,ğ];exact ü (Ā _ hmc) hcv};grind [gG,cell_of_row]}
 ·refine h ω (.inr ⟨rfl,rfl,rfl,ψ⟩) (λe=>by rw [e];exact hnb)
def Ax (N:ß n V0 bQ β0 st β a w V){K:St->ut->Prop}{d:Nat}(F:d<n){t e ty:TypeId}{info:TypeInfo}{z:un}(O:P.underlying t=some (.slice e))(hi:P.info? e=some info)(Z:info.zero=some z)(hzs:z.cells.size=info.size)(E:info.bytes≠0){s:Nat}{vs xs:zA un}{m c k xc:Nat}{M:OA}(hg:w.heap[β s]?=some (.cells vs.toArray e (0,0)))(hbb:∃b,st.boxes s=some b/\b.live)(hx:Src w M k info.size xs)(h:Ik s vs m c info.size info.bytes e d st V K k xs):∃v w' D β',(Builtin.append_ #[t,t] ty #[.slice (some ⟨β s,0,none⟩) m c,.slice M k xc]).run P w=.ok v w'/\ß n V0 bQ β0 D β' (a.put (some d) v) w' V/\K D V:=by obtain ⟨q,f,i,j,r,h⟩:=h;split at h;{exact h.elim};{rename_i l;obtain ⟨spare,p,g,w',u,y,-,A,o⟩:=Im (ty:=ty) (xc:=xc) N F O hi Z hzs E (.inl ⟨rfl,hg,hbb⟩) hx q f i j l;refine ⟨_,w',_,_,A,(o _ (.inl rfl)).put (x:=.c (.mQ (th s d) 0 (m+k) p)) F ?_ ?_,h 0 (λ_=>.bool true) spare p u y⟩<;>grind [SV.den,C.den,bg,SV.ids,C.ids,aj]}
def BI (hM:ß n V0 bQ β0 st β a w V){K:St->ut->Prop}{d:Nat}(hd:d<n){t e ty:TypeId}{info:TypeInfo}{z:un}(ht:P.underlying t=some (.slice e))(hi:P.info? e=some info)(hz:info.zero=some z)(hzs:z.cells.size=info.size)(hb0:info.bytes≠0)(hs0:info.size≠0){s:Nat}{vs xs:zA un}{m c k xc:Nat}{xa:OA}(hbb:st.boxes s=some ⟨.aB vs,e⟩)(hx:Src w xa k info.size xs)(h:yz s vs m c info.size info.bytes e d st V K k xs):∃v w' Z β',(Builtin.append_ #[t,t] ty #[.slice (mA (β s) c) m c,.slice xa k xc]).run P w=.ok v w'/\ß n V0 bQ β0 Z β' (a.put (some d) v) w' V/\K Z V:=by
 obtain ⟨F,o,p,i,G,h⟩:=h;split at h
 ·exact h.elim
 ·rename_i q
  have fin:((mA (β s) c=some ⟨β s,0,none⟩/\w.heap[β s]?=some (.cells vs.toArray e (0,0))/\∃b,st.boxes s=some b/\b.live)\/(mA (β s) c=none/\m=0/\c=0/\k≠0))->(c≠0\/k≠0) ->
    ∃v w' Z β',(Builtin.append_ #[t,t] ty #[.slice (mA (β s) c) m c,.slice xa k xc]).run P w=.ok v w'/\ß n V0 bQ β0 Z β' (a.put (some d) v) w' V/\K Z V:=by
   intro f r;have ⟨spare,D,g,w',H,I,J,L,u⟩:=Im (ty:=ty) (xc:=xc) hM hd ht hi hz hzs hb0 f hx F o p i q;refine ⟨_,w',_,_,L,(u _ (.inr rfl)).put (x:=.c (.dI (th s d) (m+k) D)) hd ?_ ?_,h spare D H I⟩
   ·simp [SV.den,C.den,bg,mA,J r]
   ·grind [SV.ids,C.ids,aj]
  by_cases j:c=0
  ·have hm:m=0:=ω;by_cases y:k=0;{subst j hm y;have E:=h [] 0 ω ψ;have A:=ĝ.1 (by simpa using i);subst A;have M:vs.take (0*info.size)++[]++[]=([]:zA un):=ψ;rw [M] at E;have B:ß n V0 bQ β0 ((st.box s ⟨.aB [],e⟩).box (th s d) ⟨.aB [],e⟩) β a w V:=hM.void.void;refine ⟨.slice none 0 0,w,_,_,?_,B.put (x:=.c (.dI (th s d) 0 0)) hd ?_ ?_,E⟩;{have N:mA (β s) 0=none:=rfl;rw [N];(cases xa with|none=>{exact Aw ht hi none 0 0 xc ω}|some ad=>simp [Builtin.append_,ai ht,aR hi,Builtin.lenOf,Builtin.firstCells,loadCells,loadCellsFrom])};{simp [SV.den,C.den,mA]};grind [SV.ids,C.ids,aj]};{exact fin (.inr ⟨by rw [j];rfl,hm,j,y⟩) (.inr y)}
  ·have l:aZ.live ⟨.aB vs,e⟩:=fW λO=>by{grind [Nat.mul_eq_zero.1]};exact fin (.inl ⟨by simp [mA,j],hM.row hbb l,_,hbb,l⟩) (.inl j)
def Ay (hM:ß n V0 bQ β0 st β a w V){K:St->ut->Prop}{d:Nat}(hd:d<n){t e ty:TypeId}{info:TypeInfo}{z:un}(ht:P.underlying t=some (.slice e))(hi:P.info? e=some info)(hz:info.zero=some z)(hzs:z.cells.size=info.size)(hb0:info.bytes≠0){vs xs:zA un}{m c k xc:Nat}{xa ba:OA}(hsl:V.sl ba vs)(hvl:vs.length=m*info.size)(hmc:m<=c)(hn0:ba.isNone=true->c=0)(hs0:info.size≠0)(hx:Src w xa k info.size xs)(h:Il vs m c info.size info.bytes e d st V K k xs):∃v w' Z β',(Builtin.append_ #[t,t] ty #[.slice ba m c,.slice xa k xc]).run P w=.ok v w'/\ß n V0 bQ β0 Z β' (a.put (some d) v) w' V/\K Z V:=by
 obtain ⟨F,s,G,H,h⟩:=h;have f:(∃b,ba=some b/\vs.length=m*info.size/\∀j v,vs[j]?=some v->w.cell? (b.add j)=some v)\/ba=none/\m=0/\c=0/\vs=[]:=by cases ba<;>grind [Cn,List.length_eq_zero_iff.1]
 have ⟨D,rest,w',I,J,E,L,u,y,A,M⟩:=ES (ty:=ty) (xc:=xc) (base:=ba) (olds:=vs) ht hi hz hzs f hx s F hb0 hmc;split at h
 ·exact h.elim
 ·rename_i N;have q:w'.heap.size=w.heap.size:=by rw [E]
  have B:=ß.j8 hM (d:=d) (g:=w.heap.size) (b:=⟨.row (vs++xs++rest),e⟩) (w':=w'.alloc (.cells (vs++xs++rest).toArray e)) (.inl hd) N rfl
   (by
    intro O Q p l he;have:=aJ (hM.boxes O Q p l);omega)
   (by intro o p;have:=aJ (hM.sw _ o p).1;omega) (.inl hM.ext.size)
   (by rw [<-q];exact heap_alloc_new _ _)
   (by intro i R _;rw [eZ _ _ ω,E])
   (by simp [q]) L u y A
  refine ⟨_,_,_,_,M,B.put (x:=.c (.mQ d 0 (m+k) D)) hd ?_ ?_,(h rest D I (by rw [<-J];exact Ù _))⟩
  ·simp [SV.den,C.den,bg]
  ·intro S r;simp [SV.ids,C.ids] at r;subst r;exact ⟨_,by rw [aj,Ä rfl]⟩
end
section
variable {P:Program} {T:dT} {n:Nat} {V0:Ó} {bQ:KZ} {β0:Nat->Nat} {st:St} {β:Nat->Nat} {a:Act} {w:World} {V:Ó}
theorem yD (ws:zA un)(o n:Nat):(aw ws o n).length=n:=by unfold aw;(cases h:Nat.ble (o+n) ws.length with|true=>{have:=œ h;grind}|false=>simp)
def yC {ws:zA un}{o n:Nat}(u:∀v∈aw ws o n,v.oneCell'=true){j:Nat}{v:un}(y:(aw ws o n)[j]?=some v):ws[o+j]?=some v:=by unfold aw at u y;(cases h:Nat.ble (o+n) ws.length with|true=>grind|false=>{rw [h] at y u;simp only [cond_false] at y u;have hm:=Qb4 y;have:=u v hm;rw [Qr6 hm] at this;cases this})
def Oo (z:ß n V0 bQ β0 st β a w V){u:TI}{info:TypeInfo}(D:u.size=info.size){s o k xc:Nat}{src:OA×Nat ⊕ zA un}(hsrc:(match st.boxes s with
    | some ⟨.row ws,_⟩=>some (.inr (aw ws o (k*u.size)))
    | _=>match fR st.boxes s with
     | some ws=>if Nat.ble (o+k*u.size) ws.length then some (.inr ((ws.drop o).take (k*u.size))) else none
     | none=>none)=some src) :
  ∃y k' E,(SV.c (.mQ s o k xc)).den β=.slice y k' E/\((src=.inl (y,k'))\/∃xs,src=.inr xs/\xs.length=k'*info.size/\∃ad,y=some ad/\((∀v∈xs,v.oneCell'=true)->∀j v,xs[j]?=some v->w.cell? (ad.add j)=some v)):=by split at hsrc;{rename_i ws ty e;simp only [ÿ] at hsrc;subst hsrc;have b:fR st.boxes s=some ws:=by{unfold fR;rw [e]};have d:nh st.boxes s=some ty:=by{unfold nh;rw [e]};obtain ⟨f,-⟩:=pU z b d;refine ⟨_,k,xc,rfl,.inr ⟨_,rfl,?_,⟨β s,o,none⟩,rfl,?_⟩⟩;{rw [yD,<-D]};{intro g j v h;rw [gG,cell_of_row f];exact yC g h}};{split at hsrc;{rename_i ws b;split at hsrc;{rename_i hle;have hle:=œ hle;simp only [ÿ] at hsrc;subst hsrc;have ⟨i,d⟩:=K9 b;obtain ⟨f,-⟩:=pU z b d;refine ⟨_,k,xc,rfl,.inr ⟨_,rfl,?_,⟨β s,o,none⟩,rfl,?_⟩⟩<;>grind [gG,cell_of_row]};{cases hsrc}};{cases hsrc}}
def Kd {y:un}{src:OA×Nat ⊕ zA un}{sz:Nat}(h:∃u k' z,y=.slice u k' z/\((src=.inl (u,k'))\/∃xs,src=.inr xs/\xs.length=k'*sz/\∃ad,u=some ad/\((∀v∈xs,v.oneCell'=true)->∀j v,xs[j]?=some v->w.cell? (ad.add j)=some v))):∃u k xc,y=.slice u k xc/\((src=.inl (u,k))\/∃xs,src=.inr xs/\xs.length=k*sz/\((∀v∈xs,v.oneCell'=true)->(∃ad,u=some ad/\∀j v,xs[j]?=some v->w.cell? (ad.add j)=some v)\/(u=none/\k=0))):=by obtain ⟨u,k,xc,e,h⟩:=h;refine ⟨u,k,xc,e,h.imp id ?_⟩;rintro ⟨xs,a,b,ad,c,d⟩;exact ⟨xs,a,b,λf=>.inl ⟨ad,c,d f⟩⟩
def Kc (z:ß n V0 bQ β0 st β a w V){u:TI}{info:TypeInfo}(F:u.size=info.size)(D:¬u.size=0){s k xc:Nat}{src:OA×Nat ⊕ zA un}(hsrc:(match st.boxes s with
    | some ⟨.aB ws,_⟩=>some (.inr (qP ws k xc u.size))
    | _=>none)=some src) :
  ∃y k' E,(SV.c (.dI s k xc)).den β=.slice y k' E/\((src=.inl (y,k'))\/∃xs,src=.inr xs/\xs.length=k'*info.size/\((∀v∈xs,v.oneCell'=true)->(∃ad,y=some ad/\∀j v,xs[j]?=some v->w.cell? (ad.add j)=some v)\/(y=none/\k'=0))):=by split at hsrc;{rename_i ws ty g;simp only [ÿ] at hsrc;subst hsrc;refine ⟨_,k,xc,rfl,.inr ⟨_,rfl,?_,λb=>?_⟩⟩;{unfold qP;grind [yD]};{unfold qP at b ⊢;by_cases m:xc=0;{subst m;(cases k with|zero=>exact .inr ⟨rfl,rfl⟩|succ k=>{have d:Nat.ble (k+1) 0=false:=rfl;rw [d,cond_false] at b;have:(Value.agg #[])∈List.replicate ((k+1)*u.size) (Value.agg #[]):=List.mem_replicate.2 ⟨ŏ ω D,rfl⟩;have:=b _ this;cases this})};{left;obtain ⟨h,rfl⟩:∃h,xc=h+1:=⟨xc-1,ω⟩;refine ⟨⟨β s,0,none⟩,rfl,λj v f=>?_⟩;(cases d:Nat.ble k (h+1) with|false=>{rw [d,cond_false] at b f;have hm:=Qb4 f;have:=b v hm;rw [Qr6 hm] at this;cases this}|true=>{rw [d,cond_true] at b f;have i:=yC b f;have l:ws≠[]:=λe=>by{rw [e] at i;simp at i};rw [gG,cell_of_row (z.boxes s _ g (fW l))];exact i})}}};{cases hsrc}
def G9 (Z:ß n V0 bQ β0 st β a w V){e:TypeId}{M:TI}{info:TypeInfo}{z:un}(O:M.size=info.size)(e6:M.bytes=info.bytes)(e7:M.zero=z.cells.toList.map C.ofConst){b x:SV}{old:Option Nat}{ba:OA}{vs:zA un}{m c:Nat}{src:OA×Nat ⊕ zA un}{size bytes:Nat}{ty:TypeId}(h:cW st.boxes e M b x=.app old ba vs m c src size bytes ty):size=info.size/\bytes=info.bytes/\ty=e/\info.bytes≠0/\info.size≠0/\z.cells.size=info.size/\(∃base,b.den β=.slice base m c/\((∃s,old=some s/\base=some ⟨β s,0,none⟩/\w.heap[β s]?=some (.cells vs.toArray e (0,0))/\∃b,st.boxes s=some b/\b.live)\/old=none/\base=ba))/\∃N k xc,x.den β=.slice N k xc/\((src=.inl (N,k))\/∃xs,src=.inr xs/\xs.length=k*info.size/\((∀v∈xs,v.oneCell'=true)->(∃ad,N=some ad/\∀j v,xs[j]?=some v->w.cell? (ad.add j)=some v)\/(N=none/\k=0))):=by unfold cW at h;split at h;{cases h};{rename_i t l;split at h;{cases h};{rename_i f;simp only [Qp0,beq_eq,Qd3,not_or] at f;obtain ⟨⟨u,q⟩,r⟩:=f;have r:M.size=t.length:=by{grind [beq_eq.1]};obtain ⟨y,-⟩:=fP (β:=β) e7;obtain ⟨d1,-⟩:=fZ (β:=β) l;have g:z.cells.size=info.size:=by{rw [<-y,d1];simp [<-r,O]};dsimp only at h;split at h;{cases h};{rename_i i d;have p:(i=src/\M.size=size/\M.bytes=bytes/\e=ty)/\∃base,b.den β=.slice base m c/\((∃s,old=some s/\base=some ⟨β s,0,none⟩/\w.heap[β s]?=some (.cells vs.toArray e (0,0))/\∃b,st.boxes s=some b/\b.live)\/old=none/\base=ba):=by{split at h;{simp only [Q.app.injEq] at h;obtain ⟨rfl,rfl,rfl,rfl,rfl,rfl,rfl,rfl,rfl⟩:=h;exact ⟨⟨rfl,rfl,rfl,rfl⟩,_,rfl,.inr ⟨rfl,rfl⟩⟩};{rename_i s H I;split at h;{rename_i A B D E;split at h;{rename_i he;obtain rfl:=beq_eq.1 he;simp only [Q.app.injEq] at h;obtain ⟨rfl,rfl,rfl,rfl,rfl,rfl,rfl,rfl,rfl⟩:=h;have ⟨F,G⟩:=pU Z D E;exact ⟨⟨rfl,rfl,rfl,rfl⟩,_,rfl,.inl ⟨s,rfl,rfl,F,G⟩⟩};{cases h}};{cases h}};{split at h<;>grind};{cases h}};obtain ⟨⟨rfl,rfl,rfl,rfl⟩,p⟩:=p;refine ⟨O,e6,rfl,by rw [<-e6];exact u,by rw [<-O];exact q,g,p,?_⟩;split at d;{rename_i N k xc;simp only [ÿ] at d;subst d;exact ⟨N,k,xc,rfl,.inl rfl⟩};{rename_i s o k xc;exact Kd (Oo Z O d)};{rename_i s k xc;exact Kc Z O q d};{cases d}}}}
def DZ (Z:ß n V0 bQ β0 st β a w V){e:TypeId}{M:TI}{info:TypeInfo}{z:un}(O:M.size=info.size)(e6:M.bytes=info.bytes)(e7:M.zero=z.cells.toList.map C.ofConst){b x:SV}{s:Nat}{vs:zA un}{m c:Nat}{src:OA×Nat ⊕ zA un}{size bytes:Nat}{ty:TypeId}(h:cW st.boxes e M b x=.xB s vs m c src size bytes ty):size=info.size/\bytes=info.bytes/\ty=e/\info.bytes≠0/\info.size≠0/\z.cells.size=info.size/\(b.den β=.slice (mA (β s) c) m c/\st.boxes s=some ⟨.aB vs,e⟩)/\∃N k xc,x.den β=.slice N k xc/\((src=.inl (N,k))\/∃xs,src=.inr xs/\xs.length=k*info.size/\((∀v∈xs,v.oneCell'=true)->(∃ad,N=some ad/\∀j v,xs[j]?=some v->w.cell? (ad.add j)=some v)\/(N=none/\k=0))):=by unfold cW at h;split at h;{cases h};{rename_i t l;split at h;{cases h};{rename_i f;simp only [Qp0,beq_eq,Qd3,not_or] at f;obtain ⟨⟨u,q⟩,r⟩:=f;have r:M.size=t.length:=by{grind [beq_eq.1]};obtain ⟨y,-⟩:=fP (β:=β) e7;obtain ⟨d1,-⟩:=fZ (β:=β) l;have g:z.cells.size=info.size:=by{rw [<-y,d1];simp [<-r,O]};dsimp only at h;split at h;{cases h};{rename_i i d;have p:(i=src/\M.size=size/\M.bytes=bytes/\e=ty)/\b.den β=.slice (mA (β s) c) m c/\st.boxes s=some ⟨.aB vs,e⟩:=by{split at h;{cases h};{split at h<;>grind};{rename_i E F G;split at h;{rename_i A B D;split at h;{rename_i he;obtain rfl:=beq_eq.1 he;simp only [Q.xB.injEq] at h;obtain ⟨rfl,rfl,rfl,rfl,rfl,rfl,rfl,rfl⟩:=h;exact ⟨⟨rfl,rfl,rfl,rfl⟩,rfl,D⟩};{cases h}};{cases h}};{cases h}};obtain ⟨⟨rfl,rfl,rfl,rfl⟩,p⟩:=p;refine ⟨O,e6,rfl,by rw [<-e6];exact u,by rw [<-O];exact q,g,p,?_⟩;split at d;{rename_i N k xc;simp only [ÿ] at d;subst d;exact ⟨N,k,xc,rfl,.inl rfl⟩};{rename_i s o k xc;exact Kd (Oo Z O d)};{rename_i s k xc;exact Kc Z O q d};{cases d}}}}
theorem PS (hT:dT.ok P T)(hM:ß n V0 bQ β0 st β a w V){o:Oper}{K:St->ut->Prop}{d:Nat}(hd:d<n){old:Option Nat}{ba:OA}{vs:zA un}{m c:Nat}{src:OA×Nat ⊕ zA un}{size bytes:Nat}{ty:TypeId}(h:aT T st.bJ st.boxes o.op=.app old ba vs m c src size bytes ty)(hv:zf (.app old ba vs m c src size bytes ty) (some d) st V K):∃v w' st' β',(execOp a.eval o).run P w=.ok (.value v) w'/\ß n V0 bQ β0 st' β' (a.put (some d) v) w' V/\K st' V:=by
 obtain ⟨cl,L,vq⟩:=(h_ (T:=T) (ρ:=st.bJ) (bx:=st.boxes) (op:=o.op)).2.2 (by rw [h];rfl);rw [L] at h;simp only [aT,vq] at h;split at h
 ·rename_i b x t t' E X;split at h
  ·rename_i i i' hi Y;split at h
   ·rename_i e e' hk M;split at h
    ·rename_i ei I9;obtain ⟨Xw,d0,z0,h1,I,h3,h4,-⟩:=aL (hT _ _ hi);obtain ⟨Zh,a2,a3,a4,a5,a6,Z,-⟩:=aL (hT _ _ Y);have ⟨info,de,z,J,e2,U,e4,e5,e6,e7⟩:=aL (hT _ _ I9);rw [h4] at hk;rw [Z] at M;obtain rfl:=bj hk;obtain rfl:=bj M;obtain ⟨rfl,rfl,rfl,l,N,p,⟨base,a7,hold⟩,F,k,xc,a8,C⟩:=G9 hM e5 e6 e7 h;have ⟨q1,q2⟩:=hZ hM _ _ E;have f1:cl.argTypes=#[t,t']:=by apply ľ;exact X
     have f2:cl.args.map a.eval=#[.slice base m c,.slice F k xc]:=χ
     have O:∀{v w'},(Builtin.append_ #[t,t] o.type #[.slice base m c,.slice F k xc]).run P w=.ok v w'->(execOp a.eval o).run P w=.ok (.value v) w':=by intro v w' hr;simp only [execOp,L,resolve,vq,pure_bind,invoke,f1,f2,builtin];grind [fl,ET]
     have fin:∀{v w' st' β'},(Builtin.append_ #[t,t] o.type #[.slice base m c,.slice F k xc]).run P w=.ok v w'->ß n V0 bQ β0 st' β' (a.put (some d) v) w' V->K st' V ->
       ∃v w' st' β',(execOp a.eval o).run P w=.ok (.value v) w'/\ß n V0 bQ β0 st' β' (a.put (some d) v) w' V/\K st' V:=λq u A=>⟨_,_,_,_,O q,u,A⟩
     have WD:∀xs,V.sl F xs->xs.length=k*info.size->(∀v∈xs,v.oneCell'=true)->Src w F k info.size xs:=by intro xs j f h1;refine ⟨f,h1,?_⟩;(cases F with|some ad=>exact .inl ⟨ad,rfl,Cn hM j⟩|none=>{refine .inr ⟨rfl,?_⟩;have:xs=[]:=by{(cases xs with|nil=>rfl|cons y r=>{obtain ⟨ad,e,-⟩:=j 0 y ψ;cases e})};grind [Nat.mul_eq_zero.1]})
     rcases hold with ⟨s,rfl,rfl,hg,Q⟩|⟨rfl,rfl⟩
     ·rcases C with rfl|⟨xs,rfl,f,g⟩;{obtain ⟨xs,j,f,hv⟩:=hv;have ⟨v,w',st',β',q,u,A⟩:=Ax (ty:=o.type) (xc:=xc) hM hd I J U p l hg Q (WD xs j f hv.2.2.2.2.1) hv;exact fin q u A};{have G:xs.length/info.size=k:=by{rw [f];exact Qf7 _ ω};simp only [zf,G] at hv;have ⟨v,w',st',β',q,u,A⟩:=Ax (ty:=o.type) (xc:=xc) hM hd I J U p l hg Q ⟨f,hv.2.2.2.2.1,g hv.2.2.2.2.1⟩ hv;exact fin q u A}
     ·obtain ⟨vs,D,R,B,S,hv⟩:=hv;rcases C with rfl|⟨xs,rfl,f,g⟩;{obtain ⟨xs,j,f,a0,a1⟩:=hv;by_cases H:k=0;{have W:=a0 H;subst H;refine fin (v:=.slice base m c) (w':=w) ?_ (hM.put (x:=.c (.v (.slice base m c))) hd rfl (λs hs=>by cases hs)) W;(cases F with|none=>exact Aw I J base m c xc B|some ad=>{cases base<;>simp [Builtin.append_,ai I,aR J,Builtin.lenOf,Builtin.firstCells,loadCells,loadCellsFrom,storeCells,B]})};{have W:=a1 H;have ⟨v,w',st',β',q,u,A⟩:=Ay (ty:=o.type) (xc:=xc) hM hd I J U p l D R B S N (WD xs j f W.2.2.2.1) W;exact fin q u A}};{have G:xs.length/info.size=k:=by{rw [f];exact Qf7 _ ω};dsimp only at hv;rw [G] at hv;have ⟨v,w',st',β',q,u,A⟩:=Ay (ty:=o.type) (xc:=xc) hM hd I J U p l D R B S N ⟨f,hv.2.2.2.1,g hv.2.2.2.1⟩ hv;exact fin q u A}
    ·cases h
   ·cases h
  ·cases h
 ·cases h
theorem Mi (hT:dT.ok P T)(hM:ß n V0 bQ β0 st β a w V){o:Oper}{K:St->ut->Prop}{d:Nat}(hd:d<n){s:Nat}{vs:zA un}{m c:Nat}{src:OA×Nat ⊕ zA un}{size bytes:Nat}{ty:TypeId}(h:aT T st.bJ st.boxes o.op=.xB s vs m c src size bytes ty)(hv:zf (.xB s vs m c src size bytes ty) (some d) st V K):∃v w' st' β',(execOp a.eval o).run P w=.ok (.value v) w'/\ß n V0 bQ β0 st' β' (a.put (some d) v) w' V/\K st' V:=by
 obtain ⟨O,q,Q⟩:=(h_ (T:=T) (ρ:=st.bJ) (bx:=st.boxes) (op:=o.op)).2.2 (by rw [h];rfl);rw [q] at h;simp only [aT,Q] at h;split at h
 ·rename_i b x t Z l J;split at h
  ·rename_i i i' hi L;split at h
   ·rename_i e e' R u;split at h
    ·rename_i ei I9;obtain ⟨Xw,d0,z0,S,U,h3,h4,-⟩:=aL (hT _ _ hi);obtain ⟨Zh,a0,a1,a2,a3,a4,M,-⟩:=aL (hT _ _ L);have ⟨info,de,z,W,e2,X,e4,e5,e6,e7⟩:=aL (hT _ _ I9);rw [h4] at R;rw [M] at u;obtain rfl:=bj R;obtain rfl:=bj u;obtain ⟨rfl,rfl,rfl,A,B,C,⟨a5,D⟩,p,k,xc,a6,E⟩:=DZ hM e5 e6 e7 h;have ⟨q1,q2⟩:=hZ hM _ _ l;have f1:O.argTypes=#[t,Z]:=by apply ľ;exact J
     have f2:O.args.map a.eval=#[.slice (mA (β s) c) m c,.slice p k xc]:=χ
     have F:∀{v w'},(Builtin.append_ #[t,t] o.type #[.slice (mA (β s) c) m c,.slice p k xc]).run P w=.ok v w'->(execOp a.eval o).run P w=.ok (.value v) w':=by intro v w' hr;simp only [execOp,q,resolve,Q,pure_bind,invoke,f1,f2,builtin];grind [fl,ET]
     have fin:∀{v w' st' β'},(Builtin.append_ #[t,t] o.type #[.slice (mA (β s) c) m c,.slice p k xc]).run P w=.ok v w'->ß n V0 bQ β0 st' β' (a.put (some d) v) w' V->K st' V ->
       ∃v w' st' β',(execOp a.eval o).run P w=.ok (.value v) w'/\ß n V0 bQ β0 st' β' (a.put (some d) v) w' V/\K st' V:=λG H I=>⟨_,_,_,_,F G,H,I⟩
     have WD:∀xs,V.sl p xs->xs.length=k*info.size->(∀v∈xs,v.oneCell'=true)->Src w p k info.size xs:=by intro xs g f S;refine ⟨f,S,?_⟩;(cases p with|some Y=>exact .inl ⟨Y,rfl,Cn hM g⟩|none=>{refine .inr ⟨rfl,?_⟩;have:xs=[]:=by{(cases xs with|nil=>rfl|cons y r=>{obtain ⟨Y,e,-⟩:=g 0 y ψ;cases e})};grind [Nat.mul_eq_zero.1]})
     rcases E with rfl|⟨xs,rfl,f,j⟩
     ·obtain ⟨xs,g,f,hv⟩:=hv;have ⟨v,w',st',β',G,H,I⟩:=BI (ty:=o.type) (xc:=xc) hM hd U W X C A B D (WD xs g f hv.2.2.2.2.1) hv;exact fin G H I
     ·have N:xs.length/info.size=k:=by{rw [f];exact Qf7 _ ω};simp only [zf,N] at hv;have ⟨v,w',st',β',G,H,I⟩:=BI (ty:=o.type) (xc:=xc) hM hd U W X C A B D ⟨f,hv.2.2.2.2.1,j hv.2.2.2.2.1⟩ hv;exact fin G H I
    ·cases h
   ·cases h
  ·cases h
 ·cases h
theorem JQ (hT:dT.ok P T)(y:ß n V0 bQ β0 st β a w V){o:Oper}{K:St->ut->Prop}{next:Act->World->Prop}{Q:Exit->Act->World->Prop}(z:∀d,o.dst=some d->d<n)(u:zf (aT T st.bJ st.boxes o.op) o.dst st V K)(D:∀E β' M w' V',ß n V0 bQ β0 E β' M w' V'->K E V'->next M w'):o.wp P a w next Q:=by
 unfold Oper.wp;generalize F:aT T st.bJ st.boxes o.op=q at u
 cases q with
 | fail=>exact u.elim
 | ret sc x=>
  obtain ⟨e,f⟩:=(fA sc _).1 u;have ⟨h,g⟩:=PU hT y F e;rw [h];exact D _ _ _ _ _ (y.JM z rfl g) f
 | new sc b x=>
  simp only [zf] at u
  cases hdst:o.dst with
  | none=>rw [hdst] at u;exact u.elim
  | some d=>
   rw [hdst] at u;dsimp only at u;split at u
   ·rename_i k;obtain ⟨e,f⟩:=(fA sc _).1 u;have ⟨v,h,g,l⟩:=PT hT y F e;rw [h]
    have:=(y.new (z d hdst) k l).put (x:=x d) (v:=v) (z d hdst) (g d).1 (by
     intro s i;rw [(g d).2] at i;simp at i;subst i;exact ⟨b,by rw [aj,Ä rfl]⟩)
    grind [Oper.upon_value]
   ·exact u.elim
 | zd sc s b=>
  simp only [zf] at u
  cases hdst:o.dst with
  | some d=>rw [hdst] at u;exact u.elim
  | none=>
   rw [hdst] at u;dsimp only at u;obtain ⟨e,f⟩:=(fA sc _).1 u;have ⟨t,w',h,rx,g⟩:=PV hT y F e;rw [h];rcases rx with rfl|⟨v,rfl⟩
   ·simp only [Oper.upon_skip,hdst];exact D _ _ _ _ _ g f
   ·simp only [Oper.upon_value,hdst];exact D _ _ _ _ _ g f
 | rd p sh=>
  have ⟨x,e,f,j⟩:=Ar.fk sh u;have ⟨h,g⟩:=Ty hT y F e f j;rw [h];exact D _ _ _ _ _ (y.JM z rfl (cu e)) g
 | tm vs of size sh=>
  have ⟨x,e,f,j,r⟩:=Ar.fk sh u;rw [(JP hT y F e f j)];exact D _ _ _ _ _ (y.JM z rfl (cu e)) r
 | xB s vs m c src size bytes ty=>
  cases hdst:o.dst with
  | none=>rw [hdst] at u;exact u.elim
  | some d=>grind [Mi,Oper.upon_value]
 | app old ba vs m c src size bytes ty=>
  cases hdst:o.dst with
  | none=>rw [hdst] at u;exact u.elim
  | some d=>grind [PS,Oper.upon_value]
end
section
variable {P:Program} {T:dT} {n:Nat} {V0:Ó} {bQ:KZ} {β0:Nat->Nat} {st:St} {β:Nat->Nat} {a:Act} {w:World} {V:Ó}
def df (V:Ó)(w:World):Ó:=⟨w,λb=>b<w.heap.size/\∀o,¬V.aW b o,λ_=>False,λ_ h=>h.1,λ_ h=>h.elim⟩
def xW (u:ß n V0 bQ β0 st β a w V):V.Le (df V w):=λb o c=>⟨λh=>h.2 o c,(u.sw b o c).1⟩
def ik.run {f:FuncId}(h:ik P f)(xs:Array un):(callFunc f xs).run P w=.ok (.enter f xs) w:=by obtain ⟨fn,a,b,c⟩:=h;simp only [callFunc,Sem.run_bind,run_program,Result.andThen_ok,a,c,b,ŕ,Ð,Sem.run_pure]
theorem cA {x:Nat}:∀{l:zA Nat},x∈ô l↔x∈l
 | []=>by simp [ô]
 | y::r=>by
  simp only [ô]
  cases h:iK y (ô r) with
  | true=>
   simp only [cond_true,ê];rw [cA];constructor
   ·exact .inr
   ·rintro (rfl|u)
    ·exact cA.1 (dP.1 h)
    ·exact u
  | false=>simp only [cond_false,ê];rw [cA]
theorem fX {bx:Nat->Option aZ}:∀(k:Nat)(l:zA Nat),∀x∈l,x∈ð bx k l
 | 0,_,x,u=>u
 | k+1,l,x,u=>by simp only [ð];exact fX k _ x (cA.2 (Ļ _ u))
def fI {bx:Nat->Option aZ}{l:zA Nat}(h:jo bx l=true){s:Nat}(u:s∈l){b:aZ}(y:bx s=some b):∀t∈b.cs.ids,t∈l:=by unfold jo at h;rw [ĥ] at h;have:=h s u;unfold T0 nY at this;grind [dP.1]
def iM {L:zA Nat}:∀{γ:Nat->Nat} {k:(Nat->Nat)->Prop},m_ L γ k->∀β:Nat->Nat,k (λt=>if t∈L then β t else γ t):=by
 induction L with
 | nil=>
  intro γ k h β;have e:(λt=>if t∈([]:zA Nat) then β t else γ t)=γ:=by funext t;simp
  rw [e];exact h
 | cons s r u=>
  intro γ k h β;have:=u (h (β s)) β;grind [bg,iF]
def BS {bx:Nat->Option aZ}{b:aZ}{γ:Nat->Nat}{s:Nat}:∀{r:zA Nat} {k:Prop},XP bx b γ s r k->(∀t∈r,∀b',bx t=some b'->b.live->b'.live->γ s=γ t->s=t)->(∀t∈r,∃b',bx t=some b')->k
 | [],_,h,_,_=>h
 | t::r,k,h,hi,y=>by
  simp only [XP] at h
  cases D:Nat.beq s t with
  | true=>rw [D] at h;exact BS h (λt u=>hi t (Ă _ u)) (λt u=>y t (Ă _ u))
  | false=>
   rw [D] at h;have ⟨b',z⟩:=y t ψ;simp only [z,cond_false] at h;refine BS (h ?_) (λt u=>hi t (Ă _ u)) (λt u=>y t (Ă _ u))<;>grind [yv,ko,Nat.beq_refl]
def BF {bx:Nat->Option aZ}{γ:Nat->Nat}{V':ut}:∀{L:zA Nat} {k:Prop},j9 bx γ V' L k->(∀s∈L,∀b,bx s=some b->b.live->V'.w.heap[γ s]?=some (b.obj γ)/\V'.H (γ s)) ->(∀s∈L,∀t∈L,∀b b',bx s=some b->b.live->bx t=some b'->b'.live->γ s=γ t->s=t)->(∀s∈L,∃b,bx s=some b)/\k
 | [],k,h,_,_=>⟨λs z=>(nomatch z),h⟩
 | s::r,k,h,u,hi=>by
  simp only [j9] at h;split at h
  ·rename_i b y
   have ⟨D,E⟩:=BF (h (ko.2 λl=>(u s ψ b y l).1) (ko.2 λl=>(u s ψ b y l).2)) (λc a=>u c (Ă _ a))
    (λc a t d=>hi c (Ă _ a) t (Ă _ d))
   have g:=BS E (λt d b' e l f=>hi s ψ t (Ă _ d) b b' y l e f) D;grind
  ·exact h.elim
def iZ {bx:Nat->Option aZ}{γ:Nat->Nat}{V':ut}:∀{L:zA Nat} {k:Prop},uc bx γ V' L k->(∀s∈L,∀b,bx s=some b->b.live->V'.aW (γ s) (b.obj γ))->(∀s∈L,∃b,bx s=some b)/\k
 | [],k,h,_=>⟨λs y=>(nomatch y),h⟩
 | s::r,k,h,u=>by
  simp only [uc] at h;split at h
  ·rename_i b z;have ⟨D,E⟩:=iZ (h (ko.2 (u s ψ b z))) (λc a=>u c (Ă _ a));grind
  ·exact h.elim
def jG {D:Option (Nat×Nat)}:∀(cs E:zA C) {K:zA C->Prop},oF D cs E K->∃u,K u/\∀s∈u.flatMap C.ids,s∈cs.flatMap C.ids\/∃m,D=some (m,s)
 | [],_,_,h=>⟨[],h,λs F=>(nomatch F)⟩
 | c::r,[],_,h=>h.elim
 | c::r,z::y,K,h=>by
  simp only [oF] at h;split at h
  ·split at h
   ·rename_i m M;split at h
    ·obtain ⟨n,c,h⟩:=h;have ⟨u,a,b⟩:=jG r y h;grind [C.ids]
    ·exact h.elim
   ·exact h.elim
  ·split at h
   ·have ⟨v,e,d⟩:=Dq.fk _ h;have ⟨u,a,b⟩:=jG r y d;grind
   ·have ⟨u,a,b⟩:=jG r y h;grind
def ß.fill (h:ß n V0 bQ β0 st β a w V){s:Nat}{y b:aZ}(z:st.boxes s=some y)(D:∀t∈b.cs.ids,∃b',st.boxes t=some b')(E:∀t b',st.boxes t=some b'->b'.live->t≠s->β t≠β s)(F:∀o,¬V.aW (β s) o)(hown:V0.w.heap.size<=β s\/(100000<=s/\bQ.B (β s)))(hw:w.heap[β s]?=some (b.obj β)):ß n V0 bQ β0 (st.box s b) β a w V:=by have d:∀t,(∃b',st.boxes t=some b')->∃b',(st.box s b).boxes t=some b':=by{grind [aj]};refine ⟨h.defers,h.size,h.ay,λt x f u hu=>d u (h.Dv t x f u hu),?_,?_,?_,h.sw,?_,h.ext,?_,h.nX,h.mG,h.small⟩;{grind [aj,h.Du]};{grind [aj,h.boxes]};{grind [aj,h.inj]};{grind [aj,h.yV]};{intro t b' c l;rw [aj] at c;split at c;{rename_i e;rw [e];exact hown};{exact h.own t b' c l}}
def ß.later (u:ß n V0 bQ β0 st β a w V){X:Nat->Prop}{w':World}(y:j_ X w w')(hX:∀t b,st.boxes t=some b->b.live->¬X (β t))(D:∀i,i<V0.w.heap.size->X i->V0.X i){z:ut}(E:∀b o,z.aW b o->w'.heap[b]?=some o/\¬V0.H b)(F:∀t b,st.boxes t=some b->b.live->∀o,¬z.aW (β t) o):ß n V0 bQ β0 st β a w' z:=by refine ⟨u.defers,u.size,u.ay,u.Dv,u.Du,?_,u.inj,E,F,?_,u.own,u.nX,u.mG,u.small⟩;{grind [u.boxes,y.aW]};{refine ⟨ü u.ext.size y.size,λi d c=>?_,y.os.m u.ext.os,y.tape.m u.ext.tape,y.out.m u.ext.out,ü u.ext.dr y.dr⟩<;>grind [y.aW,u.ext.aW]}
def ß.beta (u:ß n V0 bQ β0 st β a w V){d g:Nat}(z:d<n\/200000<=d)(y:st.boxes d=none):ß n V0 bQ β0 st (cR β d g) a w V:=by have j:∀s c,st.boxes s=some c->s≠d:=λs c f e=>by{rw [e,y] at f;cases f};have hβ:∀s c,st.boxes s=some c->cR β d g s=β s:=λs c f=>iF _ _ (j s c f);refine ⟨u.defers,u.size,?_,u.Dv,u.Du,?_,?_,u.sw,?_,u.ext,?_,?_,u.mG,u.small⟩;{intro t x k;rw [u.ay t x k];grind [SV.bX,u.Dv]};{intro s b i l;rw [hβ s b i,u.boxes s b i l];grind [aZ.dz,u.Du]};{grind [u.inj]};{grind [u.yV]};{intro s b i l;rw [hβ s b i];exact u.own s b i l};{intro s f;have ⟨m,o⟩:=u.nX s f;grind [iF,u.small]}
def jL {ty:TypeId}:∀{L:zA Nat} {st:St},(er st L ty).ay=st.ay
 | [],_=>rfl
 | s::r,st=>by unfold er;rw [Ő];exact jL (L:=r)
def bu {ty:TypeId}:∀{L:zA Nat} {st:St} (t:Nat),(er st L ty).boxes t=if t∈L then some ⟨.aB [],ty⟩ else st.boxes t
 | [],st,t=>by simp [er]
 | s::r,st,t=>by
  have:=bu (ty:=ty) (L:=r) (st:=st.box s ⟨.aB [],ty⟩) t;unfold er at this ⊢;grind [aj]
def ß.KR {ty:TypeId}:∀{L:zA Nat} {st:St},ß n V0 bQ β0 st β a w V->ß n V0 bQ β0 (er st L ty) β a w V
 | [],_,h=>h
 | s::r,st,h=>by unfold er;rw [Ő];exact ß.KR (L:=r) h.void
def oG {mv:Option (Nat×Nat)}{γ:Nat->Nat}{V2:ut}{A:zA Nat}(hV2:V2.w=w)(hγA:∀s∈A,γ s=β s)(hinj:∀s∈A,∀s'∈A,β s=β s'->s=s')(yU:∀s∈A,∀o,¬V.aW (β s) o)(hown:∀s∈A,V0.w.heap.size<=β s\/(100000<=s/\bQ.B (β s))):∀(L:zA Nat) (TY D0:St) {k:St->Prop},(∀s∈L,s∈A)->ß n V0 bQ β0 D0 β a w V->TY.ay=D0.ay->(∀t,t∉L->TY.boxes t=D0.boxes t)->(∀s∈L,∃b,D0.boxes s=some b) ->(∀t b,D0.boxes t=some b->b.live->t∉A->∀s∈A,β t≠β s)->(∀s∈L,∀b,TY.boxes s=some b->∀t∈b.cs.ids,(∃b',D0.boxes t=some b')/\γ t=β t)->(∀m nb,mv=some (m,nb)->(∃b',D0.boxes nb=some b')/\γ nb=β nb) ->fL T mv γ V2 L TY k->∃Z,ß n V0 bQ β0 Z β a w V/\Z.ay=D0.ay/\(∀t,(∃b,D0.boxes t=some b)->∃b,Z.boxes t=some b)/\k Z
 | [],TY,D0,k,_,hM,hsl,hag,_,_,_,_,h=>by
  have:TY=D0:=by
   obtain ⟨s1,g⟩:=TY;obtain ⟨s2,Q⟩:=D0;dsimp only at hsl hag;subst hsl;congr 1;grind
  exact ⟨D0,hM,rfl,λ_ h=>h,this▸h⟩
 | s::r,TY,D0,k,hA,hM,hsl,hag,hb,hd,hw,hmv,h=>by
  have f:=hA s ψ;obtain ⟨R,C⟩:=hb s ψ
  have step:∀g:aZ,(∀t∈g.cs.ids,(∃b',D0.boxes t=some b')/\γ t=β t)->w.heap[γ s]?=some (g.obj γ)->fL T mv γ V2 r (TY.box s g) k ->
    ∃Z,ß n V0 bQ β0 Z β a w V/\Z.ay=D0.ay/\(∀t,(∃b,D0.boxes t=some b)->∃b,Z.boxes t=some b)/\k Z:=by
   intro g z H h;rw [hγA s f,aZ.dz λt c=>(z t c).2] at H;by_cases I:s∈r
   ·refine oG hV2 hγA hinj yU hown r (TY.box s g) D0 (λs' d=>hA s' (Ă _ d)) hM hsl ?_ (λs' d=>hb s' (Ă _ d)) hd ?_ hmv h<;>grind [aj]
   ·have D:=hM.fill (b:=g) C (λt c=>(z t c).1) (by
     intro t b' c l E he;by_cases v:t∈A
     ·exact E (hinj t v s f he)
     ·exact hd t b' c l v s f he) (yU s f) (hown s f) H
    have x:∀t,(∃b,D0.boxes t=some b)->∃b,(D0.box s g).boxes t=some b:=by grind [aj]
    have ⟨Z,J,K,M,N⟩:=oG hV2 hγA hinj yU hown r (TY.box s g) (D0.box s g) (λs' d=>hA s' (Ă _ d)) D hsl
     (by
      intro t c;rw [aj,aj];split
      ·rfl
      ·rename_i e;exact hag t (by simp [e,c]))
     (λs' d=>x s' (hb s' (Ă _ d)))
     (by
      intro t b' c l v;rw [aj] at c;split at c
      ·rename_i e;exact Å (e▸f) v
      ·exact hd t b' c l v)
     (by
      intro s' d b' j t c;rw [aj] at j;split at j
      ·cases j;exact ⟨x t (z t c).1,(z t c).2⟩
      ·have:=hw s' (Ă _ d) b' j t c;exact ⟨x t this.1,this.2⟩)
     (λm nb e=>⟨x nb (hmv m nb e).1,(hmv m nb e).2⟩) h
    exact ⟨Z,J,K,λt c=>M t (x t c),N⟩
  simp only [fL] at h;split at h
  ·rename_i cs ty q;split at h;{rename_i i S;have ⟨F,⟨p,y⟩,O⟩:=jG _ _ h;rw [hV2] at p;refine step ⟨.lit F,ty⟩ (λt c=>?_) p y;rcases O t c with G|⟨m,G⟩;{exact hw s ψ _ q t G};{exact hmv m t G}};{exact h.elim}
  ·rename_i P ty q;obtain ⟨u,p,y⟩:=h;rw [hV2] at p;exact step ⟨.row u,ty⟩ (λt c=>(nomatch c)) p y
  ·rename_i P ty q;obtain ⟨-,u,-,p,y⟩:=h;rw [hV2] at p;exact step ⟨.aB u,ty⟩ (λt c=>(nomatch c)) p y
  ·exact h.elim
def BE {y:Option (Nat×Nat)}{V2:ut}:∀{L:zA Nat} {st:St} {k:St->Prop},fL T y β V2 L st k->∀s∈L,∃b,st.boxes s=some b/\b.live
 | [],_,_,_,s,u=>nomatch u
 | s::r,st,k,h,t,z=>by
  have core:∀b1:aZ,(∃b,st.boxes s=some b/\b.live)->fL T y β V2 r (st.box s b1) k->∃b,st.boxes t=some b/\b.live:=by
   intro b1 u h;by_cases e:t=s
   ·rw [e];exact u
   ·have:=BE h t (by simpa [e] using z);grind [aj]
  simp only [fL] at h;split at h
  ·rename_i cs ty a;split at h;{have ⟨i,⟨g,c⟩,l⟩:=jG _ _ h;exact core _ ⟨_,a,dG⟩ c};{exact h.elim}
  ·rename_i j ty a;obtain ⟨d,g,c⟩:=h;exact core _ ⟨_,a,dH⟩ c
  ·rename_i j ty a;obtain ⟨f,d,-,g,c⟩:=h;exact core _ ⟨_,a,λ_ e=>by cases e;exact f⟩ c
  ·exact h.elim
def BD {bx:Nat->Option aZ}{γ:Nat->Nat}{N b:Nat}{L:zA Nat}(y:∀s∈L,∃b,bx s=some b)(z:b∈L.map (eH bx γ N))(hlt:b<N):∃s∈L,∃u,bx s=some u/\u.live/\γ s=b:=by have ⟨s,c,he⟩:=ă.1 z;have ⟨u,a⟩:=y s c;unfold eH at he;rw [a] at he;obtain ⟨cs,ty⟩:=u;(cases cs with|aB vs=>{(cases vs with|nil=>{simp only [vb] at he;omega}|cons v r=>{exact ⟨s,c,_,a,fW ψ,he⟩})}|_=>grind [dG,dH])
def yu {y:Nat}:∀{xs:zA (md×zA C)},(xs.flatMap λx=>x.2.flatMap C.ids)=[]->∀s∈((z_ y xs).flatMap λx=>x.2.flatMap C.ids),s=y
 | [],_,s,u=>nomatch u
 | x::r,h,s,u=>by
  simp only [ē,List.append_eq_nil_iff] at h;unfold z_ at u;split at u
  ·rename_i heq;cases heq
  ·grind [C.ids]
  ·rename_i heq;cases heq;simp only [ē,ø,h.1,ę,false_or] at u;exact yu h.2 s u
def Bq {y:Nat}:∀{cs:zA C},(cs.flatMap C.ids)=[]->∀s∈(GC y cs).flatMap C.ids,s=y
 | [],_,s,u=>nomatch u
 | x::r,h,s,u=>by
  simp only [ē,List.append_eq_nil_iff] at h;unfold GC at u;split at u
  ·rename_i heq;cases heq
  ·grind [C.ids]
  ·rename_i heq;cases heq;simp only [ē,ø,h.1,ę,false_or] at u;exact Bq h.2 s u
def Lz {u:Nat}{x:SV}(h:x.ids=[]):∀s∈(xl u x).ids,s=u:=by intro s a;unfold xl at a;split at a;{simpa [SV.ids,C.ids] using a};{exact Bq h s a};{exact yu h s a};{rw [h] at a;cases a}
def IX {xs:zA SV}(h:∀x∈xs,x.ids=[])(γ δ:Nat->Nat):aI γ xs=aI δ xs:=by unfold aI;grind [kg]
def ß.Yl {w0:World}{V':ut}(M:ß n V0 bQ β0 st β a w V')(hlt:∀s b,st.boxes s=some b->b.live->β s<w0.heap.size)(hsz:V0.w.heap.size<=w0.heap.size){d b:Nat}{cs:zA C}{e:TypeId}(N:d<n)(O:st.boxes d=none)(Z:w0.heap.size<=b)(hw:V'.w=w)(hblk:V'.aW b (.cells (cs.map (C.den λ_=>0)).toArray e (0,0)))(lk:cs.flatMap C.ids=[]):ß n V0 bQ β0 ((st.box d ⟨.lit cs,e⟩).put (some d) (.c (.ptr d 0))) (cR β d b) (a.put (some d) (.pointer (some ⟨b,0,none⟩))) w (V'.Sc b):=by have v:∀s g,st.boxes s=some g->s≠d:=λs g f e=>by{rw [e,O] at f;cases f};have hβ:∀s g,st.boxes s=some g->cR β d b s=β s:=λs g f=>iF _ _ (v s g f);have k:=(M.sw b _ hblk).1;have D:(⟨.lit cs,e⟩:aZ).obj (cR β d b)=.cells (cs.map (C.den λ_=>0)).toArray e (0,0):=by{grind [aZ.obj,ç.den,oE]};have y:ß n V0 bQ β0 (st.box d ⟨.lit cs,e⟩) (cR β d b) a w (V'.Sc b):=by{refine ⟨M.defers,M.size,?_,?_,?_,?_,?_,?_,?_,M.ext,?_,?_,M.mG,M.small⟩;{intro t x q;rw [M.ay t x q];exact SV.bX λs f=>by{have ⟨g,m⟩:=M.Dv t x q s f;exact (hβ s g m).symm}};{intro t x q s f;have ⟨g,m⟩:=M.Dv t x q s f;grind [aj]};{grind [aj,ç.ids,M.Du]};{intro s g f l;rw [aj] at f;split at f;{rename_i p;simp only [ÿ] at f;rw [p,bg,<-f,D];exact k};{rw [hβ s g f,M.boxes s g f l];grind [aZ.dz,M.Du]}};{intro s z A B i E j F he;rw [aj] at i j;split at i<;>split at j;{rename_i r u;rw [r,u]};{rename_i r u;rw [r,bg,hβ z B j] at he;have:=hlt z B j F;omega};{rename_i r u;rw [u,bg,hβ s A i] at he;have:=hlt s A i E;omega};grind [M.inj]};{rintro x o ⟨i,j⟩;exact M.sw x o ⟨λh=>i (.inl h),j⟩};{rintro s g f l o ⟨i,j⟩;rw [aj] at f;split at f;{rename_i p;rw [p,bg] at i;exact i (.inr ⟨rfl,by rw [hw];exact aJ k⟩)};{rw [hβ s g f] at i j;exact M.yV s g f l o ⟨λh=>i (.inl h),j⟩}};{intro s g f l;rw [aj] at f;split at f;{rename_i p;rw [p,bg];exact .inl (ü hsz Z)};{rw [hβ s g f];exact M.own s g f l}};{intro s f;have ⟨i,j⟩:=M.nX s f;grind [iF,M.small]}};refine y.put N ?_ ?_;{simp only [SV.den,C.den,bg]};{intro s f;simp [SV.ids,C.ids] at f;subst f;exact ⟨_,by rw [aj,Ä rfl]⟩}
def BM {L:zA Nat}{m s:Nat}:s∈(L.filter λs=>!(Nat.beq s m))↔s∈L/\s≠m:=by grind [Nat.beq_refl,beq_eq.1]
def qF (hM:ß n V0 bQ β0 st β a w V){L:zA Nat}{γ:Nat->Nat}(jU:∀s∈L,γ s=β s)(hcl:∀s∈L,∀b,st.boxes s=some b->∀t∈b.cs.ids,t∈L)(hlive:∀s∈L,∃b,st.boxes s=some b){give:md}{sh:Sh}{m:Option Nat}{d:Nat}(hd:d<n){ety:TypeId}{K:St->ut->Prop}{w':World}{r:un}(hm:∀k,m=some k->k∈L)(hfree:lC st m d=true)(hx:j_ (λb=>b∈L.map (eH st.boxes γ w.heap.size)/\(df V w).H b) w w')(hr:cF T give sh L m d ety γ st (df V w) K r (((df V w).ar (L.map (eH st.boxes γ w.heap.size))).to w' hx.size)):∃st' β' V',ß n V0 bQ β0 st' β' (a.put (some d) r) w' V'/\K st' V':=by
 have a6:=hM.ext.size;unfold cF at hr;generalize hnb:gK m d=nb at hr;obtain ⟨D,q,P,Zf,Q⟩:=hr;obtain ⟨x,R,rfl,hr⟩:=Sh.fk sh Q;clear Q
 have Y_:st.boxes nb=none:=by unfold lC at hfree;grind
 have Xq:nb<n\/200000<=nb:=by rw [<-hnb];(cases m with|none=>exact .inl hd|some m=>exact GV hd)
 generalize hV1:((((df V w).ar (L.map (eH st.boxes γ w.heap.size))).to w' hx.size).shut.bz (q≠[]) D)=V1 at hr;have S:V1.w=w':=by rw [<-hV1];rfl
 have Pq:∀b o,V1.aW b o->w'.heap[b]?=some o/\¬(b<w.heap.size/\∀o,¬V.aW b o)/\¬(q≠[]/\b=D/\b<w'.heap.size):=by rintro b o ⟨y,C⟩;rw [S] at C;rw [<-hV1] at y;refine ⟨C,λh=>y (.inl h),λh=>y (.inr ⟨h.1,h.2.1,by rw [<-h.2.1];exact h.2.2⟩)⟩
 have Ze:∀b o,V1.aW b o->w'.heap[b]?=some o/\¬V0.H b:=by intro b o h;obtain ⟨y,C,-⟩:=Pq b o h;refine ⟨y,λhH=>?_⟩;by_cases a0:b<w.heap.size;{exact C ⟨a0,λo' a1=>(hM.sw b o' a1).2 hH⟩};{have:=V0.hH b hH;omega}
 have yU:∀s b,st.boxes s=some b->b.live->∀o,¬V1.aW (β s) o:=λs b f l o ho=>
  (Pq _ o ho).2.1 ⟨aJ (hM.boxes s b f l),hM.yV s b f l⟩
 have a2:∀b,(b∈L.map (eH st.boxes γ w.heap.size)/\(df V w).H b)->∃s∈L,∃u,st.boxes s=some u/\u.live/\β s=b:=by rintro b ⟨y,C⟩;have ⟨s,c,u,g,F,he⟩:=BD hlive y C.1;exact ⟨s,c,u,g,F,by rw [<-jU s c];exact he⟩
 have KW:ß n V0 bQ β0 (er st L ety) β a w' V1:=by refine (hM.KR (L:=L) (ty:=ety)).later hx ?_ ?_ Ze ?_;{intro t b f l hX;rw [bu] at f;grind [fN,hM.inj]};{intro i hi hX;obtain ⟨s,c,u,g,F,rfl⟩:=a2 _ hX;rcases hM.own s u g F with h|h<;>grind [hM.mG]};{intro t b f l;rw [bu] at f;grind [fN]}
 have G:(er st L ety).boxes nb=none:=by rw [bu,Ã];{exact Y_};{intro h;have ⟨b,f⟩:=hlive nb h;rw [Y_] at f;cases f}
 have LN:q≠[]->w.heap.size<=D\/∃k u,m=some k/\st.boxes k=some u/\u.live/\D=β k:=by intro p;rcases Zf p with h|h;{exact .inl h};{right;(cases m with|none=>exact h.elim|some k=>{have ⟨u,g⟩:=hlive k (hm k rfl);simp only [Dm,g] at h;obtain ⟨cs,ty⟩:=u;cases cs<;>grind [dG,dH,fW]})}
 have a3:ß n V0 bQ β0 ((er st L ety).box nb ⟨.aB q,ety⟩) (cR β nb D) a w' V1:=by by_cases p:q=[];{subst p;exact (KW.beta Xq G).void};{have I:=P p;refine KW.j8 Xq G rfl ?_ ?_ ?_ I (λ_ _ _=>rfl) (Ù _) rfl rfl rfl;{intro s b f l he;rw [bu] at f;split at f;{cases f;exact fN l};{rename_i a4;rcases LN p with h|⟨k,u,hk,g,F,h⟩;{have:=aJ (hM.boxes s b f l);omega};{exact a4 (hM.inj k s u b g F f l (h▸he.symm)▸hm k hk)}}};{intro o ho;exact (Pq _ o ho).2.2 ⟨p,rfl,aJ I⟩};{rcases LN p with h|⟨k,u,hk,g,F,h⟩;{left;omega};{rcases hM.own k u g F with h'|h';{left;rw [h];exact h'};{right;refine ⟨?_,by rw [h];exact h'.2⟩;rw [<-hnb,hk];exact NN h'.1}}}}
 have LJ:∀s,(∃b,st.boxes s=some b)->s≠nb:=by rintro s ⟨b,f⟩ rfl;rw [Y_] at f;cases f
 generalize hA:Jn m L=A at hr
 have J:∀s∈A,s∈L/\∀k,m=some k->s≠k:=by intro s c;rw [<-hA] at c;(cases m with|none=>exact ⟨c,λk h=>nomatch h⟩|some k=>{obtain ⟨y,C⟩:=BM.1 c;exact ⟨y,λj hj=>by cases hj;exact C⟩})
 have U:∀s∈L,(∀k,m=some k->s≠k)->s∈A:=by intro s c h;rw [<-hA];(cases m with|none=>exact c|some k=>exact BM.2 ⟨c,h k rfl⟩)
 have M:∀s,(∃b,st.boxes s=some b)->cR γ nb D s=γ s/\cR β nb D s=β s:=λs c=>⟨iF _ _ (LJ s c),iF _ _ (LJ s c)⟩
 have N:∀s∈A,((vo m ety st).box nb ⟨.aB q,ety⟩).boxes s=st.boxes s:=by intro s c;obtain ⟨y,C⟩:=J s c;rw [aj,Ã (LJ s (hlive s y))];(cases m with|none=>rfl|some k=>{simp only [vo];rw [aj,Ã (C k rfl)]})
 have W:∀s∈A,∃b,st.boxes s=some b/\b.live:=by intro s c;have:=BE hr s c;rw [N s c] at this;exact this
 have ⟨st',g1,g2,g3,g4⟩:=oG (a:=a) (w:=w') (V:=V1) (γ:=cR γ nb D) (β:=cR β nb D) (by rfl) (λs c=>by
   have:=M s (hlive s (J s c).1);rw [this.1,this.2];exact jU s (J s c).1)
  (by
   intro s c X Y he;rw [(M s (hlive s (J s c).1)).2,(M X (hlive X (J X Y).1)).2] at he;have ⟨z,B,O⟩:=W s c;have ⟨b2,e2,l2⟩:=W X Y;exact hM.inj s X z b2 B O e2 l2 he)
  (by
   intro s c;have ⟨z,B,O⟩:=W s c;rw [(M s ⟨z,B⟩).2];exact yU s z B O)
  (by
   intro s c;have ⟨z,B,O⟩:=W s c;rw [(M s ⟨z,B⟩).2];exact hM.own s z B O)
  A _ ((er st L ety).box nb ⟨.aB q,ety⟩) (λ_ h=>h) a3
  (by
   show _=(er st L ety).ay;rw [jL];cases m<;>rfl)
  (by
   intro t v;rw [aj,aj];split
   ·rfl
   ·rw [bu]
    cases m with
    | none=>
     simp only [vo];rw [Ã λh=>v (U t h λk e=>nomatch e)]
    | some k=>
     simp only [vo];rw [aj];split
     ·rename_i e;rw [Ä (e▸hm k rfl)]
     ·rename_i e;rw [Ã λh=>v (U t h λj hj=>by cases hj;exact e)])
  (by
   intro s c;rw [aj];split
   ·exact ⟨_,rfl⟩
   ·rw [bu,Ä (J s c).1];exact ⟨_,rfl⟩)
  (by
   intro t b v l Vw s c;have ⟨z,B,O⟩:=W s c;rw [(M s ⟨z,B⟩).2];rw [aj] at v;split at v
   ·rename_i e;simp only [ÿ] at v;rw [e,bg];have p:q≠[]:=λe0=>by{rw [<-v,e0] at l;exact fN l};rcases LN p with h|⟨k,u,hk,g,F,h⟩;{have:=aJ (hM.boxes s z B O);omega};grind [hM.inj]
   ·rw [bu] at v;split at v
    ·cases v;exact Å l fN
    ·rename_i Z;intro he;rw [(M t ⟨b,v⟩).2] at he;exact Z (hM.inj t s b z v l B O he▸(J s c).1))
  (by
   intro s c b f t v;rw [N s c] at f;have Z:=hcl s (J s c).1 b f t v;have E:=M t (hlive t Z);refine ⟨?_,by rw [E.1,E.2];exact jU t Z⟩;rw [aj];split
   ·exact ⟨_,rfl⟩
   ·rw [bu,Ä Z];exact ⟨_,rfl⟩)
  (by
   intro k a5 e
   have:a5=nb:=by (cases m with|none=>{cases e}|some m=>{cases e;rfl})
   subst this;exact ⟨⟨_,by rw [aj,Ä rfl]⟩,by rw [bg,bg]⟩)
  hr
 have ⟨b2,E⟩:=g3 nb ⟨_,by rw [aj,Ä rfl]⟩
 have lk:∀s∈(cond give (xl nb x) x).ids,s=nb:=by (cases give with|true=>exact Lz R|false=>{intro s c;rw [cond_false,R] at c;cases c})
 refine ⟨_,_,_,g1.put (x:=cond give (xl nb x) x) hd ?_ ?_,g4⟩
 ·exact SV.bX λs c=>by rw [lk s c,bg,bg]
 ·intro s c;rw [lk s c];exact ⟨b2,E⟩
def mq (hM:ß n V0 bQ β0 st β a w V){m:CM}{f:FuncId}{xs:zA SV}{ty:TypeId}{dst:Option Nat}{K:St->ut->Prop}{next:Act->World->Prop}{Q:Exit->Act->World->Prop}(hd:∀d,dst=some d->d<n)(hv:gS P T m f xs ty dst st V K)(hK:∀st' β' a' w' V',ß n V0 bQ β0 st' β' a' w' V'->K st' V'->next a' w'):ik P f/\Calls P f (aI β xs) w λ
   | .returned v,w''=>next (a.put dst v) w''
   | .panicked chain,w''=>Q (.panic chain) a w''
   | .outgrown,_=>LetsOut Q:=by
 have hle:=xW hM;have b5:=hM.ext.size;unfold gS at hv;split at hv
 ·exact hv.elim
 ·rename_i sh c7;split at hv
  ·
   rename_i lk
   have b6:∀x∈xs,x.ids=[]:=by intro x u;rcases hx':x.ids with _|⟨s,r⟩;{rfl};{exfalso;have:s∈ð st.boxes 3 (ô (xs.flatMap SV.ids)):=fX 3 _ s (cA.2 (ĕ.2 ⟨x,u,by rw [hx'];simp⟩));rw [lk] at this;cases this}
   have b7:∀(w':World)(u:j_ (λ_=>False) w w'),ß n V0 bQ β0 st β a w' ((df V w).to w' u.size):=by intro w' u;refine hM.later u (λ_ _ _ _ h=>h) (λ_ _ h=>h.elim) ?_ ?_;{rintro b o ⟨E,M⟩;refine ⟨M,λhH=>?_⟩;by_cases N:b<w.heap.size;{apply E;refine ⟨N,λo' O=>(hM.sw b o' O).2 hH⟩};{have:=V0.hH b hH;omega}};{rintro s b p l o ⟨E,-⟩;exact E ⟨aJ (hM.boxes s b p l),hM.yV s b p l⟩}
   rw [IX b6 β λ_=>0]
   have plain:(∀V':ut,V.Le V'->aa P f (aI (λ_=>0) xs) V' λr fw=>sh.ex λx=>r=x.den (λ_=>0)/\K (st.put dst x) fw)->ik P f/\Calls P f (aI (λ_=>0) xs) w λ
     | .returned v,w''=>next (a.put dst v) w''
     | .panicked chain,w''=>Q (.panic chain) a w''
     | .outgrown,_=>LetsOut Q:=by
    intro hv;have ⟨hc,U⟩:=hv (df V w) hle;refine ⟨hc,Calls.s U ?_⟩;rintro e w' ⟨r,rfl,u,Y⟩;obtain ⟨x,A,rfl,S⟩:=Sh.fk sh Y;have u:=u;exact hK (st.put dst x) β _ _ _ ((b7 w' u).JM hd (kg A _ _) (cu A)) S
   split at hv
   ·split at hv;{rename_i d Z c8;split at hv;{exact hv.elim};{rename_i q;have ⟨hc,U⟩:=hv (df V w) hle;refine ⟨hc,Calls.s U ?_⟩;rintro e' w' ⟨r,rfl,u,Y⟩;have A:j_ (λb=>b∈([]:zA Nat).map (eH st.boxes (λ_=>0) w.heap.size)/\(df V w).H b) w w':=u.s λ_ h=>h.elim;have b3:cF T true sh [] Option.none d Z (λ_=>0) st (df V w) K r (((df V w).ar (([]:zA Nat).map (eH st.boxes (λ_=>0) w.heap.size))).to w' A.size):=by{unfold cF Jn at Y ⊢;exact Y};have ⟨st',β',V',E,M⟩:=qF (T:=T) (give:=true) (m:=Option.none) hM (λs g=>Å g ψ) (λs g=>Å g ψ) (λs g=>Å g ψ) (hd d rfl) (λk W=>by cases W) q A b3;exact hK _ _ _ _ _ E M}};{exact plain hv};{exact hv.elim}
   ·split at hv;{rename_i d;split at hv;{exact hv.elim};{rename_i hn;split at hv;{rename_i ti c9;split at hv;{rename_i e he;split at hv;{rename_i ei I9;have ⟨hc,U⟩:=hv (df V w) hle;refine ⟨hc,Calls.s U ?_⟩;rintro e' w' ⟨r,rfl,u,b,Y⟩;obtain ⟨cs,E,M,rfl,h4,h5,h6⟩:=vi _ Y;exact hK _ _ _ _ _ ((b7 w' u).Yl (w0:=w) (λs b p l=>aJ (hM.boxes s b p l)) b5 (hd d rfl) hn h4 rfl h5 E) h6};{exact hv.elim}};{exact hv.elim}};{exact hv.elim}}};{exact hv.elim}
   ·exact plain hv
  ·rename_i s0 r0 lk;split at hv
   ·exact hv.elim
   ·rename_i a4;generalize hL:s0::r0=L at hv lk a4
    have a5:∀x∈xs,∀s∈x.ids,s∈L:=by intro x u s g;rw [<-lk];exact fX 3 _ s (cA.2 (ĕ.2 ⟨x,u,g⟩))
    have a3:∀s∈L,∀b,st.boxes s=some b->∀t∈b.cs.ids,t∈L:=λs g b p=>fI a4 g p
    have a8:∀{R:(Nat->Nat)->un->ut->Prop},(m_ L (λ_=>0) λγ=>j9 st.boxes γ (df V w) L (aa P f (aI γ xs) ((df V w).ar (L.map (eH st.boxes γ w.heap.size))) (R γ))) ->
      ∃γ,(∀s∈L,γ s=β s)/\(∀s∈L,∃b,st.boxes s=some b)/\aa P f (aI β xs) ((df V w).ar (L.map (eH st.boxes γ w.heap.size))) (R γ):=by
     intro R hv;have G:=iM hv β;generalize hγ:(λt=>if t∈L then β t else (λ_=>0) t)=γ at G;have F:∀s∈L,γ s=β s:=λs g=>by rw [<-hγ];simp [g]
     have Br:∀s∈L,∀b,st.boxes s=some b->b.obj γ=b.obj β:=λs g b p=>aZ.dz λt X=>F t (a3 s g b p t X)
     have ⟨B,b8⟩:=BF G (by
      intro s g b p l;rw [F s g,Br s g b p];exact ⟨hM.boxes s b p l,aJ (hM.boxes s b p l),hM.yV s b p l⟩) (by
      intro s g t X b b' p l c3 l' e;rw [F s g,F t X] at e;exact hM.inj s t b b' p l c3 l' e)
     refine ⟨γ,F,B,?_⟩
     have D:aI γ xs=aI β xs:=by unfold aI;rw [ś λx u=>SV.bX λs g=>F s (a5 x u s g)]
     rw [<-D];exact b8
    have a1:∀{give:md} {mm:Option Nat} {d:Nat} {Z:TypeId},dst=some d->(∀k,mm=some k->k∈L)->lC st mm d=true ->
      (∀V':ut,V.Le V'->m_ L (λ_=>0) λγ=>j9 st.boxes γ V' L (aa P f (aI γ xs) (V'.ar (L.map (eH st.boxes γ V'.w.heap.size))) (cF T give sh L mm d Z γ st V' K))) ->
      ik P f/\Calls P f (aI β xs) w λ
       | .returned v,w''=>next (a.put dst v) w''
       | .panicked chain,w''=>Q (.panic chain) a w''
       | .outgrown,_=>LetsOut Q:=by
     intro give mm d Z a9 c4 q hv;have ⟨γ,F,B,hc,U⟩:=a8 (R:=λγ=>cF T give sh L mm d Z γ st (df V w) K) (hv (df V w) hle);refine ⟨hc,Calls.s U ?_⟩;rintro e w' ⟨r,rfl,u,Y⟩;have ⟨st',β',V',E,M⟩:=qF hM F a3 B (hd d a9) c4 q u Y;rw [a9];exact hK _ _ _ _ _ E M
    have b9:∀k,k∈vC st.boxes L->k∈L:=by
     intro k W;unfold vC at W;have ⟨s,g,W⟩:=ĕ.1 (cA.1 W);split at W
     ·rename_i cs ty p;refine a3 s g _ p k ?_
      have:∀cs:zA C,k∈t_ cs->k∈cs.flatMap C.ids:=by
       intro cs
       induction cs with
       | nil=>exact λh=>nomatch h
       | cons c r ih=>
        intro h;rw [ē,ø]
        cases c<;>simp only [t_,ê] at h<;>first
         | exact .inr (ih h)
         | (rcases h with h|h
            ·left;simp [C.ids,h]
            ·exact .inr (ih h))
      exact this cs W
     ·cases W
    have c0:∀k,k∈oH xs->k∈L:=by
     intro k W
     have:∀xs:zA SV,k∈oH xs->∃x∈xs,k∈x.ids:=by
      intro xs
      induction xs with
      | nil=>exact λh=>nomatch h
      | cons x r ih=>
       intro h;unfold oH at h;split at h
       ·rename_i heq;cases heq
       ·rename_i s n c r' heq;cases heq;exact ⟨.c (.dI s n c),č,h⟩
       ·rename_i s n c r' heq;cases heq;exact ⟨.c (.mQ s 0 n c),č,h⟩
       ·rename_i heq;cases heq;have ⟨y,hy,W⟩:=ih h;exact ⟨y,by simp [hy],W⟩
     have ⟨x,u,W⟩:=this xs W;exact a5 x u k W
    split at hv
    ·exact hv.elim
    ·exact hv.elim
    ·
     split at hv
     ·split at hv;{exact hv.elim};{rename_i q;exact a1 rfl (λk W=>by cases W) q hv}
     ·rename_i d Z k _ c5 _;split at hv
      ·split at hv;{exact hv.elim};{rename_i q;exact a1 rfl (λj hj=>by cases hj;exact c0 k (by rw [c5];simp)) q hv}
      ·split at hv
       ·exact hv.elim
       ·rename_i q;split at hv
        ·exact hv.elim
        ·
         rename_i z;rw [ĥ] at z;let Vr:ut:=⟨w,λb=>(b<w.heap.size/\∀o,¬V.aW b o)/\¬∃s∈L,∃I,st.boxes s=some I/\I.live/\β s=b,λ_=>False,λ_ h=>h.1.1,λ_ h=>h.elim⟩;have a0:V.Le Vr:=λb o p=>⟨λh=>h.1.2 o p,(hM.sw b o p).1⟩
         have LC:ß n V0 bQ β0 (er st L 0) β a w Vr:=by have KW:=hM.KR (L:=L) (ty:=0);refine ⟨KW.defers,KW.size,KW.ay,KW.Dv,KW.Du,KW.boxes,KW.inj,?_,?_,KW.ext,KW.own,KW.nX,KW.mG,hM.small⟩;{rintro b o ⟨E,M⟩;refine ⟨M,λhH=>?_⟩;have N:=aJ M;apply E;refine ⟨⟨N,λo' O=>(hM.sw b o' O).2 hH⟩,λhm=>?_⟩;obtain ⟨s,g,I,J,l0,rfl⟩:=hm;rcases hM.own s I J l0 with h|h;{have:=V0.hH _ hH;omega};{have:=œ (z s g);omega}};{rintro s b p l o ⟨E,-⟩;rw [bu] at p;split at p;{cases p;exact Å l fN};{rename_i a6;refine E ⟨⟨aJ (hM.boxes s b p l),hM.yV s b p l⟩,λhm=>?_⟩;obtain ⟨s',a2,bs,a7,ls,he⟩:=hm;exact a6 (hM.inj s' s bs b a7 ls p l he▸a2)}}
         have G:=iM (hv (df Vr w) (a0.m (xW LC))) β;generalize hγ:(λt=>if t∈L then β t else (λ_=>0) t)=γ at G;have F:∀s∈L,γ s=β s:=λs g=>by rw [<-hγ];simp [g]
         have ⟨B,hc,U⟩:=iZ G (by
          intro s g b p l;rw [F s g,aZ.dz λt X=>F t (fI a4 g p t X)];exact xW LC _ _ ⟨λh=>h.2 ⟨s,g,b,p,l,rfl⟩,hM.boxes s b p l⟩)
         refine ⟨hc,?_⟩
         have D:aI γ xs=aI β xs:=by unfold aI;rw [ś λx u=>SV.bX λs g=>F s (a5 x u s g)]
         rw [D] at U;refine Calls.s U ?_;rintro e' w' ⟨r,rfl,u,Y⟩;have A:j_ (λb=>b∈([]:zA Nat).map (eH (er st L 0).boxes (λ_=>0) w.heap.size)/\(df Vr w).H b) w w':=u.s λ_ h=>h.elim
         have b3:cF T true sh [] Option.none d Z (λ_=>0) (er st L 0) (df Vr w) K r (((df Vr w).ar (([]:zA Nat).map (eH (er st L 0).boxes (λ_=>0) w.heap.size))).to w' A.size):=by unfold cF Jn at Y ⊢;exact Y
         have ⟨st',β',V',E,M⟩:=qF (T:=T) (give:=true) (m:=Option.none) LC (λs g=>Å g ψ) (λs g=>Å g ψ) (λs g=>Å g ψ) (hd d rfl) (λk W=>by cases W) q A b3;grind
     ·split at hv
      ·exact hv.elim
      ·
       rename_i z;rw [ĥ] at z;let Vr:ut:=⟨w,λb=>(b<w.heap.size/\∀o,¬V.aW b o)/\¬∃s∈L,∃I,st.boxes s=some I/\I.live/\β s=b,λ_=>False,λ_ h=>h.1.1,λ_ h=>h.elim⟩;have a0:V.Le Vr:=λb o p=>⟨λh=>h.1.2 o p,(hM.sw b o p).1⟩;have G:=iM (hv Vr a0) β;generalize hγ:(λt=>if t∈L then β t else (λ_=>0) t)=γ at G;have F:∀s∈L,γ s=β s:=λs g=>by rw [<-hγ];simp [g]
       have ⟨B,hc,U⟩:=iZ G (by
        intro s g b p l;rw [F s g,aZ.dz λt X=>F t (fI a4 g p t X)];exact ⟨λh=>h.2 ⟨s,g,b,p,l,rfl⟩,hM.boxes s b p l⟩)
       refine ⟨hc,?_⟩
       have D:aI γ xs=aI β xs:=by unfold aI;rw [ś λx u=>SV.bX λs g=>F s (a5 x u s g)]
       rw [D] at U;refine Calls.s U ?_;rintro e w' ⟨r,rfl,u,Y⟩;obtain ⟨x,A,rfl,S⟩:=Sh.fk sh Y;have u:=u;refine hK _ β _ _ _ ?_ S
       have b4:ß n V0 bQ β0 (er st L 0) β a w' (Vr.to w' u.size):=by refine (hM.KR (L:=L) (ty:=0)).later u (λ_ _ _ _ h=>h) (λ_ _ h=>h.elim) ?_ ?_;{rintro b o ⟨E,M⟩;refine ⟨M,λhH=>?_⟩;by_cases N:b<w.heap.size;{apply E;refine ⟨⟨N,λo' O=>(hM.sw b o' O).2 hH⟩,λhm=>?_⟩;obtain ⟨s,g,I,J,l0,rfl⟩:=hm;rcases hM.own s I J l0 with h|h;{have:=V0.hH _ hH;omega};{have:=œ (z s g);omega}};{have:=V0.hH b hH;omega}};{rintro s b p l o ⟨E,-⟩;rw [bu] at p;split at p;{cases p;exact Å l fN};{rename_i a6;refine E ⟨⟨aJ (hM.boxes s b p l),hM.yV s b p l⟩,λhm=>?_⟩;obtain ⟨s',a2,bs,a7,ls,he⟩:=hm;exact a6 (hM.inj s' s bs b a7 ls p l he▸a2)}}
       exact b4.JM hd (kg A _ _) (cu A)
     ·exact hv.elim
    ·
     split at hv
     ·have ⟨γ,F,B,hc,U⟩:=a8 (R:=λγ r' fw=>sh.ex λx=>r'=x.den (λ_=>0)/\fL T Option.none γ fw L st λst'=>K (st'.put dst x) fw.shut) (hv (df V w) hle);refine ⟨hc,Calls.s U ?_⟩;rintro e w' ⟨r,rfl,u,Y⟩;obtain ⟨x,A,rfl,S⟩:=Sh.fk sh Y;have u:=u;generalize hV1:(((df V w).ar (L.map (eH st.boxes γ w.heap.size))).to w' u.size)=V2 at S;have c1:V2.w=w':=by rw [<-hV1];rfl
      have c2:∀b,(b∈L.map (eH st.boxes γ w.heap.size)/\(df V w).H b)->∃s∈L,∃I,st.boxes s=some I/\I.live/\β s=b:=by rintro b ⟨E,M⟩;have ⟨s,g,I,J,l0,he⟩:=BD B E M.1;exact ⟨s,g,I,J,l0,by rw [<-F s g];exact he⟩
      have Pq:∀b o,V2.shut.aW b o->w'.heap[b]?=some o/\¬(b<w.heap.size/\∀o,¬V.aW b o):=by rintro b o ⟨E,M⟩;rw [<-hV1] at E M;exact ⟨M,E⟩
      have yU:∀s b,st.boxes s=some b->b.live->∀o,¬V2.shut.aW (β s) o:=λs b p l o ho=>
       (Pq _ o ho).2 ⟨aJ (hM.boxes s b p l),hM.yV s b p l⟩
      have KW:ß n V0 bQ β0 (er st L 0) β a w' V2.shut:=by refine (hM.KR (L:=L) (ty:=0)).later u ?_ ?_ ?_ ?_;{intro t b p l hX;rw [bu] at p;split at p;{cases p;exact fN l};{rename_i X;have ⟨s,g,I,J,l0,he⟩:=c2 _ hX;exact X (hM.inj s t I b J l0 p l he▸g)}};{intro i hi hX;obtain ⟨s,g,I,J,l0,rfl⟩:=c2 _ hX;rcases hM.own s I J l0 with h|h;{omega};{exact hM.mG _ h.2}};{intro b o h;have ⟨E,M⟩:=Pq b o h;refine ⟨E,λhH=>?_⟩;by_cases N:b<w.heap.size;{exact M ⟨N,λo' O=>(hM.sw b o' O).2 hH⟩};{have:=V0.hH b hH;omega}};{intro t b p l;rw [bu] at p;split at p;{cases p;exact Å l fN};{exact yU t b p l}}
      have lj:=BE S
      have ⟨st',g1,g2,g3,g4⟩:=oG (a:=a) (w:=w') (V:=V2.shut) (γ:=γ) (β:=β) c1 F
       (by
        intro s g s' a2 he;have ⟨b1,e1,l1⟩:=lj s g;have ⟨b2,e2,l2⟩:=lj s' a2;exact hM.inj s s' b1 b2 e1 l1 e2 l2 he)
       (by intro s g;have ⟨b1,e1,l1⟩:=lj s g;exact yU s b1 e1 l1)
       (by intro s g;have ⟨b1,e1,l1⟩:=lj s g;exact hM.own s b1 e1 l1)
       L st (er st L 0) (λ_ h=>h) KW jL.symm (by intro t X;rw [bu,Ã X])
       (by intro s g;rw [bu,Ä g];exact ⟨_,rfl⟩)
       (by
        intro t b X l Vw s g he;rw [bu,Ã Vw] at X;have ⟨b1,e1,l1⟩:=lj s g;exact Vw (hM.inj t s b b1 X l e1 l1 he▸g))
       (by
        intro s g b p t X;have Xt:=a3 s g b p t X;exact ⟨by rw [bu,Ä Xt];exact ⟨_,rfl⟩,F t Xt⟩)
       (λm nb e=>by cases e) S
      exact hK _ _ _ _ _ (g1.JM hd (kg A _ _) (cu A)) g4
     ·rename_i k c6;split at hv;{rename_i d Z _;split at hv;{exact hv.elim};{rename_i q;exact a1 rfl (λj hj=>by cases hj;exact b9 k (by rw [c6];simp)) q hv}};{exact hv.elim}
     ·exact hv.elim
    ·
     split at hv
     ·exact hv.elim
     ·rename_i z;rw [ĥ] at z;let Vr:ut:=⟨w,λb=>(b<w.heap.size/\∀o,¬V.aW b o)/\¬∃s∈L,∃I,st.boxes s=some I/\I.live/\β s=b,λ_=>False,λ_ h=>h.1.1,λ_ h=>h.elim⟩;have a0:V.Le Vr:=λb o p=>⟨λh=>h.1.2 o p,(hM.sw b o p).1⟩;have G:=iM (hv Vr a0) β;generalize hγ:(λt=>if t∈L then β t else (λ_=>0) t)=γ at G;have F:∀s∈L,γ s=β s:=λs g=>by rw [<-hγ];simp [g]
      have ⟨B,hc,U⟩:=iZ G (by
       intro s g b p l;rw [F s g,aZ.dz λt X=>F t (fI a4 g p t X)];exact ⟨λh=>h.2 ⟨s,g,b,p,l,rfl⟩,hM.boxes s b p l⟩)
      refine ⟨hc,?_⟩
      have D:aI γ xs=aI β xs:=by unfold aI;rw [ś λx u=>SV.bX λs g=>F s (a5 x u s g)]
      rw [D] at U;refine Calls.s U ?_;rintro e w' ⟨r,rfl,u,Y⟩;obtain ⟨x,A,rfl,S⟩:=Sh.fk sh Y;have u:=u;refine hK ((st.rel L γ (C.den β)).put dst x) β _ _ _ ?_ (S (C.den β))
      have b4:ß n V0 bQ β0 (st.rel L γ (C.den β)) β a w' (Vr.to w' u.size):=by refine (hM.rel (L:=L) (β':=γ) F).later u (λ_ _ _ _ h=>h) (λ_ _ h=>h.elim) ?_ ?_;{rintro b o ⟨E,M⟩;refine ⟨M,λhH=>?_⟩;by_cases N:b<w.heap.size;{apply E;refine ⟨⟨N,λo' O=>(hM.sw b o' O).2 hH⟩,λhm=>?_⟩;obtain ⟨s,g,I,J,l0,rfl⟩:=hm;rcases hM.own s I J l0 with h|h;{have:=V0.hH _ hH;omega};{have:=œ (z s g);omega}};{have:=V0.hH b hH;omega}};{rintro s b p l o ⟨E,-⟩;obtain ⟨a6,y,hy,rfl⟩:=i_ p;have ly:=aZ.iC l;refine E ⟨⟨aJ (hM.boxes s y hy ly),hM.yV s y hy ly⟩,λhm=>?_⟩;obtain ⟨s',a2,bs,a7,ls,he⟩:=hm;exact a6 (hM.inj s' s bs y a7 ls hy ly he▸a2)}
      exact b4.JM hd (kg A _ _) (cu A)
def ß.release (M:ß n V0 bQ β0 st β a w V){l:zA Nat}{K:St->ut->Prop}(N:Oy l st V K):∃O V',ß n V0 bQ β0 O β a w V'/\V.Le V'/\K O V':=by
 unfold Oy at N;split at N
 ·exact ⟨st,V,M,λ_ _ h=>h,N⟩
 ·rename_i B D;split at N
  ·exact N.elim
  ·rename_i k;generalize hL:B::D=L at N k;rw [Č,ĥ] at k;obtain ⟨m,d⟩:=k;let Z:ut:=⟨w,λb=>(b<w.heap.size/\∀o,¬V.aW b o)/\¬∃s∈L,∃j,st.boxes s=some j/\j.live/\β s=b,λ_=>False,λ_ h=>h.1.1,λ_ h=>h.elim⟩;have e:V.Le Z:=λb o f=>⟨λh=>h.1.2 o f,(M.sw b o f).1⟩;have i:=iM (N Z e) β;generalize hγ:(λt=>if t∈L then β t else (λ_=>0) t)=γ at i;have p:∀s∈L,γ s=β s:=λs g=>by rw [<-hγ];simp [g]
   have ⟨q,E⟩:=iZ i (by
    intro s g b f l;rw [p s g,aZ.dz λt F=>p t (fI m g f t F)];exact ⟨λh=>h.2 ⟨s,g,b,f,l,rfl⟩,M.boxes s b f l⟩)
   have c:=M.rel (L:=L) (β':=γ) p;refine ⟨_,Z,?_,e,E (C.den β)⟩;refine ⟨c.defers,c.size,c.ay,c.Dv,c.Du,c.boxes,c.inj,?_,?_,c.ext,c.own,c.nX,c.mG,M.small⟩
   ·rintro b o ⟨r,x⟩;refine ⟨x,λhH=>?_⟩;apply r;refine ⟨⟨(aJ x),λG u=>(M.sw b G u).2 hH⟩,λhm=>?_⟩;obtain ⟨s,g,j,v,H,rfl⟩:=hm;rcases M.own s j v H with h|h;{have:=V0.hH _ hH;omega};{have:=œ (d s g);omega}
   ·rintro s b f l o ⟨r,-⟩;obtain ⟨I,y,z,rfl⟩:=i_ f;have A:=aZ.iC l;refine r ⟨⟨aJ (M.boxes s y z A),M.yV s y z A⟩,λhm=>?_⟩<;>grind [M.inj]
def Ct {bx:Nat->Option aZ}{β:Nat->Nat}:∀{xs u:zA SV} {vs:zA un} {c:Nat},oU bx xs=some (vs,c,u)->c=0->u.map (SV.den β)=xs.map (SV.den β)
 | [],_,_,_,h,_=>nomatch h
 | x::r,u,vs,c,h,y=>by
  simp only [oU] at h;split at h
  ·split at h
   ·cases h;subst y;simp [SV.den,C.den,mA]
   ·cases h
  ·split at h
   ·rename_i e;cases h;rw [Ķ,Ķ,Ct e y]
   ·cases h
def Cu {bx:Nat->Option aZ}:∀{xs u:zA SV} {vs:zA un} {c:Nat},oU bx xs=some (vs,c,u)->∀t∈u.flatMap SV.ids,t∈xs.flatMap SV.ids
 | [],_,_,_,h=>nomatch h
 | x::r,u,vs,c,h=>by
  simp only [oU] at h;split at h
  ·grind [SV.ids,C.ids]
  ·split at h
   ·rename_i e;cases h;intro t y;rw [ē,ø] at y ⊢;exact y.imp_right (Cu e t)
   ·cases h
def vV {bx bx':Nat->Option aZ}:∀{xs:zA SV},(∀s∈xs.flatMap SV.ids,bx' s=bx s)->oU bx' xs=oU bx xs
 | [],_=>rfl
 | x::r,h=>by
  have u:=vV (xs:=r) λs a=>h s (by rw [ē];exact Œ _ a);simp only [oU];grind [SV.ids,C.ids]
def tP (D:ß n V0 bQ β0 st β a w V){m:CM}{f:FuncId}{xs:zA SV}{ty:TypeId}{dst:Option Nat}{K:St->ut->Prop}{next:Act->World->Prop}{Q:Exit->Act->World->Prop}(E:∀d,dst=some d->d<n)(u:lN P T m f xs ty dst st V K)(F:∀z β' M w' V',ß n V0 bQ β0 z β' M w' V'->K z V'->next M w'):ik P f/\Calls P f (aI β xs) w λ
   | .returned v,y=>next (a.put dst v) y
   | .panicked chain,y=>Q (.panic chain) a y
   | .outgrown,_=>LetsOut Q:=by unfold lN at u;split at u;{split at u;{rename_i b c g e;by_cases h:b=[];{have ⟨i,j⟩:=u.1 h;have:=mq (Q:=Q) D E j F;unfold aI at this ⊢;rw [Ct e i] at this;exact this};{exact mq D E (u.2 h) F}};{exact mq D E u F}};{exact mq D E u F}
end
end Go.Eng
