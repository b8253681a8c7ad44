import Derived.Test.YtmamnfmhdcahmaaGreatDoorW2
set_option linter.all false
namespace Go.Eng
section
variable {P:Program} {T:dW} {n:Nat} {V0:Ó} {bQ:Mw} {β0:Nat->Nat} {st:St} {β:Nat->Nat} {a:Act} {w:World} {V:Ó}
def dS {x:Nat}{l:zA Nat}:iZ x l=true↔x∈l:=by
 induction l with
 | nil=>simp [iZ]
 | cons y r u=>
  simp only [iZ,ç];grind [beq_eq.1,Nat.beq_refl]
theorem pP {x l}:iZ x l=false↔x∉l:=by rw [<-dS];cases iZ x l<;>simp
def Kk {l m:zA Nat}:EE l m=true↔∀x∈l,x∉m:=by unfold EE;grind [pP]
theorem C.jK {L β'}(hβ:∀s∈L,β' s=β s)(c:C):(c.rel L β' (C.den β)).den β=c.den β/\∀s∈(c.rel L β' (C.den β)).ids,s∈c.ids/\s∉L:=by cases c<;>grind [C.rel,C.den,dS.1,C.ids,pP.1,Kk.1]
def wJ {L:zA Nat}{β':Nat->Nat}(hβ:∀s∈L,β' s=β s)(cs:zA C):(cs.map (C.rel L β' (C.den β))).map (C.den β)=cs.map (C.den β)/\∀s∈(cs.map (C.rel L β' (C.den β))).flatMap C.ids,s∈cs.flatMap C.ids/\s∉L:=by refine ⟨?_,λs a=>?_⟩;{rw [Qs1];exact Ŗ λc _=>(C.jK hβ c).1};{grind [C.jK]}
theorem SV.jK {L β'}(hβ:∀s∈L,β' s=β s)(x:SV):(x.rel L β' (C.den β)).den β=x.den β/\∀s∈(x.rel L β' (C.den β)).ids,s∈x.ids/\s∉L:=by
 cases x with
 | c c=>exact C.jK hβ c
 | agg cs=>
  have ⟨a,d⟩:=wJ hβ cs;exact ⟨by simp only [SV.rel,SV.den,a],d⟩
 | xD xs=>
  refine ⟨?_,λs e=>?_⟩
  ·simp only [SV.rel,SV.den,Qs1];congr 2;apply Ŗ;rintro ⟨b,cs⟩ -
   have a:=(wJ hβ cs).1
   cases b with
   | true=>simp only [Function.comp,kG,a]
   | false=>
    match cs with
    | []=>rfl
    | [x]=>simp only [Function.comp,ĺ,List.map_nil,kG];exact (C.jK hβ x).1
    | _::_::_=>rfl
  ·have ⟨i,f,e⟩:=ċ.1 e;obtain ⟨y,g,rfl⟩:=ù.1 f;obtain ⟨a,d⟩:=(wJ hβ y.2).2 s e;exact ⟨ċ.2 ⟨y,g,a⟩,d⟩
theorem aY.jK {L β'}(hβ:∀s∈L,β' s=β s)(b:aY):(b.rel L β' (C.den β)).obj β=b.obj β/\∀s∈(b.rel L β' (C.den β)).cs.ids,s∈b.cs.ids/\s∉L:=by obtain ⟨cs,ty⟩:=b;(cases cs with|lit cs=>{have ⟨c,d⟩:=wJ hβ cs;exact ⟨by simp only [aY.rel,aY.obj,è.den,c],d⟩}|row vs=>{exact ⟨rfl,λs a=>by cases a⟩}|aG vs=>{exact ⟨rfl,λs a=>by cases a⟩})
theorem aY.iP {L β' J}{b:aY}(h:(b.rel L β' J).live):b.live:=by obtain ⟨cs,ty⟩:=b;(cases cs with|aG vs=>exact h|_=>grind [dI,dJ])
theorem GC {L β' J t x}(h:(st.rel L β' J).aA t=some x):∃y,st.aA t=some y/\x=y.rel L β' J:=by grind [St.rel]
theorem jw {L β' J t x}(h:(st.rel L β' J).boxes t=some x):t∉L/\∃y,st.boxes t=some y/\x=y.rel L β' J:=by grind [St.rel,pP.1]
def iP {L β' J t}(h:∃b,st.boxes t=some b)(u:t∉L):∃b,(st.rel L β' J).boxes t=some b:=by obtain ⟨b,a⟩:=h;refine ⟨b.rel L β' J,?_⟩<;>grind [St.rel,pP.2]
def Þ.rel (h:Þ n V0 bQ β0 st β a w V){L β'}(hβ:∀s∈L,β' s=β s):Þ n V0 bQ β0 (st.rel L β' (C.den β)) β a w V where
 defers:=h.defers
 size:=h.size
 aA:=by grind [GC,h.aA,SV.jK]
 Eh:=by
  intro t x i s d;obtain ⟨y,c,rfl⟩:=GC i;obtain ⟨e,f⟩:=(SV.jK hβ y).2 s d;exact iP (h.Eh t y c s e) f
 Eg:=by intro t b g s d;obtain ⟨-,y,c,rfl⟩:=jw g;obtain ⟨e,f⟩:=(aY.jK hβ y).2 s d;exact iP (h.Eg t y c s e) f
 boxes:=by grind [jw,h.boxes,aY.iP,aY.jK]
 inj:=by grind [jw,h.inj,aY.iP]
 tJ:=h.tJ
 Af:=by grind [jw,h.Af,aY.iP]
 ext:=h.ext
 own:=by intro t b g l;obtain ⟨-,y,c,rfl⟩:=jw g;exact h.own t y c (aY.iP l)
 oV:=h.oV
 mY:=h.mY
 small:=h.small
def Þ.ko (h:Þ n V0 bQ β0 st β a w V){d g:Nat}{b:aY}(hd:d<n\/200000<=d)(N:st.boxes d=none)(lI:b.cs.ids=[])(M:∀s b',st.boxes s=some b'->b'.live->β s≠g)(O:∀o,¬V.bh g o)(hown:V0.w.heap.size<=g\/(100000<=d/\bQ.B g)){w':World}(hw:w'.heap[g]?=some (b.obj β))(Z:∀i,i<w.heap.size->i≠g->w'.heap[i]?=w.heap[i]?)(hsz:w.heap.size<=w'.heap.size)(hos:w'.os=w.os)(ht:w'.tape=w.tape)(hout:w'.output=w.output)(hdr:w.drawn<=w'.drawn:=by first|exact Ù _|exact Ww9 _):Þ n V0 bQ β0 (st.box d b) (cJ β d g) a w' V:=by have u:∀s b',st.boxes s=some b'->s≠d:=λs b' c e=>by{rw [e,N] at c;cases c};have hβ:∀s b',st.boxes s=some b'->cJ β d g s=β s:=λs b' c=>iU _ _ (u s b' c);have v:∀s b',st.boxes s=some b'->b'.live->β s<w.heap.size:=λs b' c l=>aK (h.boxes s b' c l);have z:∀b' o,V.bh b' o->b'<w.heap.size:=λb' o A=>aK (h.tJ b' o A).1;refine ⟨h.defers,h.size,?_,?_,?_,?_,?_,?_,?_,?_,?_,?_,h.mY,h.small⟩;{intro t x p;rw [h.aA t x p];exact SV.bW λs c=>by{have ⟨b',f⟩:=h.Eh t x p s c;exact (hβ s b' f).symm}};{intro t x p s c;have ⟨b',f⟩:=h.Eh t x p s c;grind [ao]};{grind [ao,h.Eg]};{intro s b' c l;rw [ao] at c;split at c;{rename_i e;simp only [ā] at c;rw [e,a_,hw,<-c];grind [aY.dF]};{rw [hβ s b' c,Z _ (v s b' c l) (M s b' c l),h.boxes s b' c l];grind [aY.dF,h.Eg]}};{intro s y b1 b2 j C k D he;rw [ao] at j k;split at j<;>split at k;{rename_i q r;rw [q,r]};{rename_i q r;rw [q,a_,hβ y b2 k] at he;exact Å he.symm (M y b2 k D)};{rename_i q r;rw [r,a_,hβ s b1 j] at he;exact Å he (M s b1 j C)};grind [h.inj]};{grind [h.tJ]};{intro s b' c l o m;rw [ao] at c;split at c;{rename_i e;rw [e,a_] at m;exact O o m};grind [h.Af]};{refine ⟨Ą h.ext.size hsz,λi E F=>?_,hos.m h.ext.os,ht.m h.ext.tape,hout.m h.ext.out,Ą h.ext.dr hdr⟩<;>grind [h.mY,h.ext.bh]};{intro s b' c l;rw [ao] at c;split at c;{rename_i e;rw [e,a_];exact hown};{rw [hβ s b' c];exact h.own s b' c l}};{intro s c;have ⟨j,k⟩:=h.oV s c;grind [iU,h.small]}
theorem FG {t t' e y ty}(z:P.underlying t=some (.slice e))(Ku:P.underlying t'=some (.slice y))(b u m c k xc):(Builtin.append_ #[t,t'] ty #[.slice b m c,.slice u k xc]).run P w=(Builtin.append_ #[t,t] ty #[.slice b m c,.slice u k xc]).run P w:=by simp [Builtin.append_,aj z,aj Ku]
theorem BC {t e ty info}(u:P.underlying t=some (.slice e))(hi:P.info? e=some info)(base m c y)(z:m<=c):(Builtin.append_ #[t,t] ty #[.slice base m c,.slice none 0 y]).run P w=.ok (.slice base m c) w:=by cases base<;>simp [Builtin.append_,aj u,aS hi,Builtin.lenOf,Builtin.firstCells,storeCells,z]
def qQ (y:Þ n V0 bQ β0 st β a w V){s:Nat}{vs:zA um}{ty:TypeId}(h:fS st.boxes s=some vs)(u:nQ st.boxes s=some ty):w.heap[β s]?=some (.cells vs.toArray ty (0,0))/\∃b,st.boxes s=some b/\b.live:=by unfold fS at h;unfold nQ at u;split at h;{rename_i cs d c;rw [c] at u;simp only [ā] at u;subst u;have:=y.row c dI;grind [è.den,gj,dI]};{rename_i ws d c;rw [c] at u;simp only [ā,ā] at u h;subst u;subst h;exact ⟨y.row c dJ,_,c,dJ⟩};{cases h}
def MG {bx:Nat->Option aY}{s:Nat}{vs:zA um}(h:fS bx s=some vs):∃ty,nQ bx s=some ty:=by unfold fS at h;unfold nQ;split at h;{rename_i a;rw [a];exact ⟨_,rfl⟩};{rename_i a;rw [a];exact ⟨_,rfl⟩};{cases h}
theorem Dh (u:Þ n V0 bQ β0 st β a w V){ad xs}(h:V.sl (some ad) xs):∀j v,xs[j]?=some v->w.cell? (ad.add j)=some v:=by intro j v b;have ⟨c,e,d⟩:=h j v b;grind [u.atV]
def Src (w:World)(u:OA)(k size:Nat)(xs:List Value):Prop:=
 xs.length=k*size/\(∀v∈xs,v.oneCell'=true)/\((∃ad,u=some ad/\∀j v,xs[j]?=some v->w.cell? (ad.add j)=some v)\/u=none/\k=0)
def SJ {t e ty:TypeId}{info:TypeInfo}(F:P.underlying t=some (.slice e))(hi:P.info? e=some info){g m c k xc:Nat}{vs xs:zA um}{y:OA}(z:w.heap[g]?=some (.cells vs.toArray e (0,0)))(u:Src w y k info.size xs)(E:m+k<=c)(M:c*info.size<=vs.length):∃w',(Builtin.append_ #[t,t] ty #[.slice (some ⟨g,0,none⟩) m c,.slice y k xc]).run P w=.ok (.slice (some ⟨g,0,none⟩) (m+k) c) w'/\w'.heap=w.heap.setIfInBounds g (.cells (vs.take (m*info.size)++xs++vs.drop (m*info.size+xs.length)).toArray e (0,0))/\w'.os=w.os/\w'.tape=w.tape/\w'.output=w.output/\w.drawn<=w'.drawn:=by obtain ⟨d,f,u⟩:=u;rcases u with ⟨h,rfl,a⟩|⟨rfl,rfl⟩;{have b:m*info.size+xs.length<=vs.length:=by{rw [d,<-Ē];exact Ą (Ă _ E) M};exact ⟨_,(run_append_room (P:=P) w t ty e info F hi g m c vs.toArray z h k xc xs d a f E (by simpa using b)),by rw [lV z],rfl,rfl,rfl,Ù _⟩};{grind [BC,List.take_append_drop]}
def FF {t e ty:TypeId}{info:TypeInfo}{z:um}(F:P.underlying t=some (.slice e))(hi:P.info? e=some info)(M:info.zero=some z)(hzs:z.cells.size=info.size){m c k xc:Nat}{olds xs:zA um}{base O:OA}(hbase:(∃b,base=some b/\olds.length=m*info.size/\∀j v,olds[j]?=some v->w.cell? (b.add j)=some v)\/base=none/\m=0/\c=0/\olds=[])(u:Src w O k info.size xs)(y:c<m+k)(Z:(m+k)*info.bytes<=2^47)(hb0:info.bytes≠0)(hmc:m<=c):∃(E:Nat)(rest:zA um)(w':World),m+k<=E/\(m+k)*info.size+rest.length=E*info.size/\w'.heap=w.heap/\w'.os=w.os/\w'.tape=w.tape/\w'.output=w.output/\w.drawn<=w'.drawn/\(Builtin.append_ #[t,t] ty #[.slice base m c,.slice O k xc]).run P w=.ok (.slice (some ⟨w.heap.size,0,none⟩) (m+k) E) (w'.alloc (.cells (olds++xs++rest).toArray e)):=by obtain ⟨g,n,u⟩:=u;have f:(m+k:Nat)<=2^47:=by{have:(m+k)*1<=(m+k)*info.bytes:=Ņ _ ω;omega};have a:∀N,(m+k)<=N->(m+k)*info.size+(Builtin.zeroCells z.cells (N-(m+k))).toList.length=N*info.size:=by{intro N o;rw [Wx0,size_zeroCells,hzs,<-Ē];congr 1;omega};rcases u with ⟨h,rfl,d⟩|⟨rfl,rfl⟩;{rcases hbase with ⟨b,rfl,i,hold⟩|⟨rfl,rfl,rfl,rfl⟩;{have l:=run_append_grow (P:=P) w t ty e info z F hi M b m c olds i hold h k xc xs g d y ω (growslice_fits y Z);refine ⟨_,(Builtin.zeroCells z.cells (grownCap w (m+k) c e-(m+k))).toList,w.drew,grownCap_ge w (m+k) c e,a _ (grownCap_ge w (m+k) c e),rfl,rfl,rfl,rfl,Ww9 _,?_⟩;rw [l];congr 3;apply ŀ;simp};{simp only [Ĉ] at y Z f a ⊢;refine ⟨_,(Builtin.zeroCells z.cells (grownCap w k 0 e-k)).toList,w.drew,grownCap_ge w k 0 e,a _ (grownCap_ge w k 0 e),rfl,rfl,rfl,rfl,Ww9 _,?_⟩;rw [(run_append_nil (P:=P) w t ty e info z F hi M h k xc xs g d ω ω ω)];congr 3;apply ŀ;simp}};{omega}
def H5 {s d n:Nat}(u:d<n):ue s d<n\/200000<=ue s d:=by unfold ue;grind
theorem Pv {s d}(u:100000<=s):100000<=ue s d:=by unfold ue;have:Nat.blt s 100000=false:=by{(cases h:Nat.blt s 100000 with|false=>rfl|true=>{have:=ő h;omega})};grind
def JC (hM:Þ n V0 bQ β0 st β a w V){d:Nat}(hd:d<n){t e ty:TypeId}{info:TypeInfo}{z:um}(ht:P.underlying t=some (.slice e))(hi:P.info? e=some info)(hz:info.zero=some z)(hzs:z.cells.size=info.size)(hb0:info.bytes≠0){s:Nat}{vs xs:zA um}{m c k xc:Nat}{base xa:OA}(hbase:(base=some ⟨β s,0,none⟩/\w.heap[β s]?=some (.cells vs.toArray e (0,0))/\∃b,st.boxes s=some b/\b.live)\/(base=none/\m=0/\c=0/\k≠0))(hx:Src w xa k info.size xs)(hb:(m+k)*info.bytes<=2^47)(hmc:m<=c)(hcv:c*info.size<=vs.length)(hxl:xs.length=k*info.size)(hnb:st.boxes (ue s d)=none):∃(spare:zA um)(Z g:Nat)(w':World),m+k<=Z/\Z*info.size<=(m+k)*info.size+spare.length/\((c≠0\/k≠0)->Z≠0)/\(Builtin.append_ #[t,t] ty #[.slice base m c,.slice xa k xc]).run P w=.ok (.slice (some ⟨g,0,none⟩) (m+k) Z) w'/\∀bx:aY,(bx=⟨.row (vs.take (m*info.size)++xs++spare),e⟩\/bx=⟨.aG (vs.take (m*info.size)++xs++spare),e⟩) ->Þ n V0 bQ β0 ((st.box s ⟨.aG [],e⟩).box (ue s d) bx) (cJ β (ue s d) g) a w' V:=by
 have y:Þ n V0 bQ β0 (st.box s ⟨.aG [],e⟩) β a w V:=hM.void
 have C:∀bx:aY,∀l:zA um,(bx=⟨.row l,e⟩\/bx=⟨.aG l,e⟩)->bx.cs.ids=[]/\bx.obj β=.cells l.toArray e (0,0):=by rintro bx l (rfl|rfl)<;>exact ⟨rfl,rfl⟩
 have I:∀t b,(st.box s ⟨.aG [],e⟩).boxes t=some b->b.live->st.boxes t=some b/\t≠s:=by grind [ao,fM]
 have J:(∃b,st.boxes s=some b/\b.live)\/True->(s≠ue s d\/st.boxes s=none)->(st.box s ⟨.aG [],e⟩).boxes (ue s d)=none\/s=ue s d:=by grind [ao]
 have h:c<m+k->((∃b,base=some b/\(vs.take (m*info.size)).length=m*info.size/\∀j v,(vs.take (m*info.size))[j]?=some v->w.cell? (b.add j)=some v)\/base=none/\m=0/\c=0/\vs.take (m*info.size)=[]) ->
   (s=ue s d->st.boxes s=none) ->
   ∃(spare:zA um)(Z g:Nat)(w':World),m+k<=Z/\Z*info.size<=(m+k)*info.size+spare.length/\((c≠0\/k≠0)->Z≠0) /\
   (Builtin.append_ #[t,t] ty #[.slice base m c,.slice xa k xc]).run P w=.ok (.slice (some ⟨g,0,none⟩) (m+k) Z) w' /\
   ∀bx:aY,(bx=⟨.row (vs.take (m*info.size)++xs++spare),e⟩\/bx=⟨.aG (vs.take (m*info.size)++xs++spare),e⟩) ->
    Þ n V0 bQ β0 ((st.box s ⟨.aG [],e⟩).box (ue s d) bx) (cJ β (ue s d) g) a w' V:=by
  intro D hold K;have ⟨Z,rest,w',L,U,B,F,p,q,r,M⟩:=FF (ty:=ty) (xc:=xc) ht hi hz hzs hold hx D hb hb0 hmc;refine ⟨rest,Z,w.heap.size,_,L,by rw [<-U];exact Ù _,ω,M,?_⟩;intro bx f;have ⟨G,H⟩:=C bx _ f;have u:w'.heap.size=w.heap.size:=by rw [B]
  by_cases W:s=ue s d
  ·have X:(st.box s ⟨.aG [],e⟩).box (ue s d) bx=st.box (ue s d) bx:=by{grind [St.box]};rw [X];refine hM.ko (H5 hd) hnb G ?_ ?_ (.inl hM.ext.size) ?_ ?_ ?_ F p q r;{intro N O f l he;have:=aK (hM.boxes N O f l);omega};{intro o f;have:=aK (hM.tJ _ o f).1;omega};{rw [H,<-u];exact heap_alloc_new _ _};{intro i Q _;rw [eY _ _ ω,B]};{simp [u]}
  ·refine y.ko (H5 hd) (by rw [ao,Ã (Ne.symm W)];exact hnb) G ?_ ?_ (.inl hM.ext.size) ?_ ?_ ?_ F p q r;{intro N O f l he;have:=aK (y.boxes N O f l);omega};{intro o f;have:=aK (hM.tJ _ o f).1;omega};{rw [H,<-u];exact heap_alloc_new _ _};{intro i Q _;rw [eY _ _ ω,B]};{simp [u]}
 rcases hbase with ⟨rfl,R,S,A,E⟩|⟨rfl,rfl,rfl,Y⟩
 ·have x:s≠ue s d:=λe=>by{rw [<-e,A] at hnb;cases hnb};by_cases D:m+k<=c;{have ⟨w',M,B,F,p,q,r⟩:=SJ (ty:=ty) (xc:=xc) ht hi R hx D hcv;have T:m*info.size+xs.length<=vs.length:=by{rw [hxl,<-Ē];exact Ą (Ă _ D) hcv};refine ⟨vs.drop (m*info.size+xs.length),c,β s,w',D,by rw [Į,hxl,Ē];omega,ω,M,?_⟩;intro bx f;have ⟨G,H⟩:=C bx _ f;refine y.ko (H5 hd) (by rw [ao,Ã (Ne.symm x)];exact hnb) G ?_ (hM.Af s S A E) ?_ ?_ ?_ (by rw [B];simp) F p q r;{grind [hM.inj]};{rcases hM.own s S A E with L|L<;>grind [Pv]};{rw [B,Array.getElem?_setIfInBounds,Ä rfl,Ä (aK R),H]};grind};{refine h ω (.inl ⟨⟨β s,0,none⟩,rfl,?_,?_⟩) (λe=>Å e x);{rw [ê,ğ];exact Ą (Ă _ hmc) hcv};grind [gN,cell_of_row]}
 ·refine h ω (.inr ⟨rfl,rfl,rfl,ψ⟩) (λe=>by rw [e];exact hnb)
def BD (O:Þ n V0 bQ β0 st β a w V){K:St->un->Prop}{d:Nat}(M:d<n){t e ty:TypeId}{info:TypeInfo}{z:um}(Z:P.underlying t=some (.slice e))(hi:P.info? e=some info)(hz:info.zero=some z)(hzs:z.cells.size=info.size)(F:info.bytes≠0){s:Nat}{vs xs:zA um}{m c k xc:Nat}{N:OA}(hg:w.heap[β s]?=some (.cells vs.toArray e (0,0)))(hbb:∃b,st.boxes s=some b/\b.live)(hx:Src w N k info.size xs)(h:JA s vs m c info.size info.bytes e d st V K k xs):∃v w' E β',(Builtin.append_ #[t,t] ty #[.slice (some ⟨β s,0,none⟩) m c,.slice N k xc]).run P w=.ok v w'/\Þ n V0 bQ β0 E β' (a.put (some d) v) w' V/\K E V:=by obtain ⟨q,f,i,j,r,h⟩:=h;split at h;{exact h.elim};{rename_i l;obtain ⟨spare,p,g,w',u,y,-,A,o⟩:=JC (ty:=ty) (xc:=xc) O M Z hi hz hzs F (.inl ⟨rfl,hg,hbb⟩) hx q f i j l;refine ⟨_,w',_,_,A,(o _ (.inl rfl)).put (x:=.c (.mS (ue s d) 0 (m+k) p)) M ?_ ?_,h 0 (λ_=>.bool true) spare p u y⟩<;>grind [SV.den,C.den,a_,SV.ids,C.ids,ao]}
def CC (hM:Þ n V0 bQ β0 st β a w V){K:St->un->Prop}{d:Nat}(hd:d<n){t e ty:TypeId}{info:TypeInfo}{z:um}(ht:P.underlying t=some (.slice e))(hi:P.info? e=some info)(hz:info.zero=some z)(hzs:z.cells.size=info.size)(hb0:info.bytes≠0)(hs0:info.size≠0){s:Nat}{vs xs:zA um}{m c k xc:Nat}{xa:OA}(hbb:st.boxes s=some ⟨.aG vs,e⟩)(hx:Src w xa k info.size xs)(h:zG s vs m c info.size info.bytes e d st V K k xs):∃v w' Z β',(Builtin.append_ #[t,t] ty #[.slice (mA (β s) c) m c,.slice xa k xc]).run P w=.ok v w'/\Þ n V0 bQ β0 Z β' (a.put (some d) v) w' V/\K Z V:=by
 obtain ⟨F,o,p,i,G,h⟩:=h;split at h
 ·exact h.elim
 ·rename_i q
  have fin:((mA (β s) c=some ⟨β s,0,none⟩/\w.heap[β s]?=some (.cells vs.toArray e (0,0))/\∃b,st.boxes s=some b/\b.live)\/(mA (β s) c=none/\m=0/\c=0/\k≠0))->(c≠0\/k≠0) ->
    ∃v w' Z β',(Builtin.append_ #[t,t] ty #[.slice (mA (β s) c) m c,.slice xa k xc]).run P w=.ok v w'/\Þ n V0 bQ β0 Z β' (a.put (some d) v) w' V/\K Z V:=by
   intro f r;have ⟨spare,D,g,w',H,I,J,L,u⟩:=JC (ty:=ty) (xc:=xc) hM hd ht hi hz hzs hb0 f hx F o p i q;refine ⟨_,w',_,_,L,(u _ (.inr rfl)).put (x:=.c (.d_ (ue s d) (m+k) D)) hd ?_ ?_,h spare D H I⟩
   ·simp [SV.den,C.den,a_,mA,J r]
   ·grind [SV.ids,C.ids,ao]
  by_cases j:c=0
  ·have hm:m=0:=ω;by_cases y:k=0;{subst j hm y;have E:=h [] 0 ω ψ;have A:=Ĝ.1 (by simpa using i);subst A;have M:vs.take (0*info.size)++[]++[]=([]:zA um):=ψ;rw [M] at E;have B:Þ n V0 bQ β0 ((st.box s ⟨.aG [],e⟩).box (ue s d) ⟨.aG [],e⟩) β a w V:=hM.void.void;refine ⟨.slice none 0 0,w,_,_,?_,B.put (x:=.c (.d_ (ue s d) 0 0)) hd ?_ ?_,E⟩;{have N:mA (β s) 0=none:=rfl;rw [N];(cases xa with|none=>{exact BC ht hi none 0 0 xc ω}|some ad=>simp [Builtin.append_,aj ht,aS hi,Builtin.lenOf,Builtin.firstCells,loadCells,loadCellsFrom])};{simp [SV.den,C.den,mA]};grind [SV.ids,C.ids,ao]};{exact fin (.inr ⟨by rw [j];rfl,hm,j,y⟩) (.inr y)}
  ·have l:aY.live ⟨.aG vs,e⟩:=f_ λO=>by{grind [Nat.mul_eq_zero.1]};exact fin (.inl ⟨by simp [mA,j],hM.row hbb l,_,hbb,l⟩) (.inl j)
def BE (hM:Þ n V0 bQ β0 st β a w V){K:St->un->Prop}{d:Nat}(hd:d<n){t e ty:TypeId}{info:TypeInfo}{z:um}(ht:P.underlying t=some (.slice e))(hi:P.info? e=some info)(hz:info.zero=some z)(hzs:z.cells.size=info.size)(hb0:info.bytes≠0){vs xs:zA um}{m c k xc:Nat}{xa ba:OA}(hsl:V.sl ba vs)(hvl:vs.length=m*info.size)(hmc:m<=c)(hn0:ba.isNone=true->c=0)(hs0:info.size≠0)(hx:Src w xa k info.size xs)(h:JB vs m c info.size info.bytes e d st V K k xs):∃v w' Z β',(Builtin.append_ #[t,t] ty #[.slice ba m c,.slice xa k xc]).run P w=.ok v w'/\Þ n V0 bQ β0 Z β' (a.put (some d) v) w' V/\K Z V:=by
 obtain ⟨F,s,G,H,h⟩:=h;have f:(∃b,ba=some b/\vs.length=m*info.size/\∀j v,vs[j]?=some v->w.cell? (b.add j)=some v)\/ba=none/\m=0/\c=0/\vs=[]:=by cases ba<;>grind [Dh,List.length_eq_zero_iff.1]
 have ⟨D,rest,w',I,J,E,L,u,y,A,M⟩:=FF (ty:=ty) (xc:=xc) (base:=ba) (olds:=vs) ht hi hz hzs f hx s F hb0 hmc;split at h
 ·exact h.elim
 ·rename_i N;have q:w'.heap.size=w.heap.size:=by rw [E]
  have B:=Þ.ko hM (d:=d) (g:=w.heap.size) (b:=⟨.row (vs++xs++rest),e⟩) (w':=w'.alloc (.cells (vs++xs++rest).toArray e)) (.inl hd) N rfl
   (by
    intro O Q p l he;have:=aK (hM.boxes O Q p l);omega)
   (by intro o p;have:=aK (hM.tJ _ o p).1;omega) (.inl hM.ext.size)
   (by rw [<-q];exact heap_alloc_new _ _)
   (by intro i R _;rw [eY _ _ ω,E])
   (by simp [q]) L u y A
  refine ⟨_,_,_,_,M,B.put (x:=.c (.mS d 0 (m+k) D)) hd ?_ ?_,(h rest D I (by rw [<-J];exact Ù _))⟩
  ·simp [SV.den,C.den,a_]
  ·intro S r;simp [SV.ids,C.ids] at r;subst r;exact ⟨_,by rw [ao,Ä rfl]⟩
end
section
variable {P:Program} {T:dW} {n:Nat} {V0:Ó} {bQ:Mw} {β0:Nat->Nat} {st:St} {β:Nat->Nat} {a:Act} {w:World} {V:Ó}
theorem zL (ws o n):(aL ws o n).length=n:=by unfold aL;(cases h:Nat.ble (o+n) ws.length with|true=>{have:=ő h;grind}|false=>simp)
def zK {ws:zA um}{o n:Nat}(u:∀v∈aL ws o n,v.oneCell'=true){j:Nat}{v:um}(y:(aL ws o n)[j]?=some v):ws[o+j]?=some v:=by unfold aL at u y;(cases h:Nat.ble (o+n) ws.length with|true=>grind|false=>{rw [h] at y u;simp only [cond_false] at y u;have hm:=ı y;have:=u v hm;rw [Qs2 hm] at this;cases this})
def P8 (z:Þ n V0 bQ β0 st β a w V){u:TI}{info:TypeInfo}(E:u.size=info.size){s o k xc:Nat}{src:OA×Nat ⊕ zA um}(hsrc:(match st.boxes s with
    | some ⟨.row ws,_⟩=>some (.inr (aL ws o (k*u.size)))
    | _=>match fS st.boxes s with
     | some ws=>if Nat.ble (o+k*u.size) ws.length then some (.inr ((ws.drop o).take (k*u.size))) else none
     | none=>none)=some src) :
  ∃y k' F,(SV.c (.mS s o k xc)).den β=.slice y k' F/\((src=.inl (y,k'))\/∃xs,src=.inr xs/\xs.length=k'*info.size/\∃ad,y=some ad/\((∀v∈xs,v.oneCell'=true)->∀j v,xs[j]?=some v->w.cell? (ad.add j)=some v)):=by split at hsrc;{rename_i ws ty e;simp only [ā] at hsrc;subst hsrc;have b:fS st.boxes s=some ws:=by{unfold fS;rw [e]};have d:nQ st.boxes s=some ty:=by{unfold nQ;rw [e]};obtain ⟨f,-⟩:=qQ z b d;refine ⟨_,k,xc,rfl,.inr ⟨_,rfl,?_,⟨β s,o,none⟩,rfl,?_⟩⟩;{rw [zL,<-E]};{intro g j v h;rw [gN,cell_of_row f];exact zK g h}};{split at hsrc;{rename_i ws b;split at hsrc;{rename_i hle;have hle:=ő hle;simp only [ā] at hsrc;subst hsrc;have ⟨i,d⟩:=MG b;obtain ⟨f,-⟩:=qQ z b d;refine ⟨_,k,xc,rfl,.inr ⟨_,rfl,?_,⟨β s,o,none⟩,rfl,?_⟩⟩<;>grind [gN,cell_of_row]};{cases hsrc}};{cases hsrc}}
def Lq {y:um}{src:OA×Nat ⊕ zA um}{sz:Nat}(h:∃u k' z,y=.slice u k' z/\((src=.inl (u,k'))\/∃xs,src=.inr xs/\xs.length=k'*sz/\∃ad,u=some ad/\((∀v∈xs,v.oneCell'=true)->∀j v,xs[j]?=some v->w.cell? (ad.add j)=some v))):∃u k xc,y=.slice u k xc/\((src=.inl (u,k))\/∃xs,src=.inr xs/\xs.length=k*sz/\((∀v∈xs,v.oneCell'=true)->(∃ad,u=some ad/\∀j v,xs[j]?=some v->w.cell? (ad.add j)=some v)\/(u=none/\k=0))):=by obtain ⟨u,k,xc,e,h⟩:=h;refine ⟨u,k,xc,e,h.imp id ?_⟩;rintro ⟨xs,a,b,ad,c,d⟩;exact ⟨xs,a,b,λf=>.inl ⟨ad,c,d f⟩⟩
def Lp (z:Þ n V0 bQ β0 st β a w V){u:TI}{info:TypeInfo}(M:u.size=info.size)(E:¬u.size=0){s k xc:Nat}{src:OA×Nat ⊕ zA um}(hsrc:(match st.boxes s with
    | some ⟨.aG ws,_⟩=>some (.inr (rR ws k xc u.size))
    | _=>none)=some src) :
  ∃y k' F,(SV.c (.d_ s k xc)).den β=.slice y k' F/\((src=.inl (y,k'))\/∃xs,src=.inr xs/\xs.length=k'*info.size/\((∀v∈xs,v.oneCell'=true)->(∃ad,y=some ad/\∀j v,xs[j]?=some v->w.cell? (ad.add j)=some v)\/(y=none/\k'=0))):=by split at hsrc;{rename_i ws ty g;simp only [ā] at hsrc;subst hsrc;refine ⟨_,k,xc,rfl,.inr ⟨_,rfl,?_,λb=>?_⟩⟩;{unfold rR;grind [zL]};{unfold rR at b ⊢;by_cases m:xc=0;{subst m;(cases k with|zero=>exact .inr ⟨rfl,rfl⟩|succ k=>{have d:Nat.ble (k+1) 0=false:=rfl;rw [d,cond_false] at b;have:(Value.agg #[])∈List.replicate ((k+1)*u.size) (Value.agg #[]):=List.mem_replicate.2 ⟨Ō ω E,rfl⟩;have:=b _ this;cases this})};{left;obtain ⟨h,rfl⟩:∃h,xc=h+1:=⟨xc-1,ω⟩;refine ⟨⟨β s,0,none⟩,rfl,λj v f=>?_⟩;(cases d:Nat.ble k (h+1) with|false=>{rw [d,cond_false] at b f;have hm:=ı f;have:=b v hm;rw [Qs2 hm] at this;cases this}|true=>{rw [d,cond_true] at b f;have i:=zK b f;have l:ws≠[]:=λe=>by{rw [e] at i;simp at i};rw [gN,cell_of_row (z.boxes s _ g (f_ l))];exact i})}}};{cases hsrc}
def Im (Z:Þ n V0 bQ β0 st β a w V){e:TypeId}{M:TI}{info:TypeInfo}{z:um}(O:M.size=info.size)(e6:M.bytes=info.bytes)(e7:M.zero=z.cells.toList.map C.ofConst){b x:SV}{old:Option Nat}{ba:OA}{vs:zA um}{m c:Nat}{src:OA×Nat ⊕ zA um}{size bytes:Nat}{ty:TypeId}(h:cY st.boxes e M b x=.app old ba vs m c src size bytes ty):size=info.size/\bytes=info.bytes/\ty=e/\info.bytes≠0/\info.size≠0/\z.cells.size=info.size/\(∃base,b.den β=.slice base m c/\((∃s,old=some s/\base=some ⟨β s,0,none⟩/\w.heap[β s]?=some (.cells vs.toArray e (0,0))/\∃b,st.boxes s=some b/\b.live)\/old=none/\base=ba))/\∃N k xc,x.den β=.slice N k xc/\((src=.inl (N,k))\/∃xs,src=.inr xs/\xs.length=k*info.size/\((∀v∈xs,v.oneCell'=true)->(∃ad,N=some ad/\∀j v,xs[j]?=some v->w.cell? (ad.add j)=some v)\/(N=none/\k=0))):=by unfold cY at h;split at h;{cases h};{rename_i t l;split at h;{cases h};{rename_i f;simp only [Qf6,beq_eq,Qd4,not_or] at f;obtain ⟨⟨u,q⟩,r⟩:=f;have r:M.size=t.length:=by{grind [beq_eq.1]};obtain ⟨y,-⟩:=fO (β:=β) e7;obtain ⟨d1,-⟩:=gj (β:=β) l;have g:z.cells.size=info.size:=by{rw [<-y,d1];simp [<-r,O]};dsimp only at h;split at h;{cases h};{rename_i i d;have p:(i=src/\M.size=size/\M.bytes=bytes/\e=ty)/\∃base,b.den β=.slice base m c/\((∃s,old=some s/\base=some ⟨β s,0,none⟩/\w.heap[β s]?=some (.cells vs.toArray e (0,0))/\∃b,st.boxes s=some b/\b.live)\/old=none/\base=ba):=by{split at h;{simp only [Q.app.injEq] at h;obtain ⟨rfl,rfl,rfl,rfl,rfl,rfl,rfl,rfl,rfl⟩:=h;exact ⟨⟨rfl,rfl,rfl,rfl⟩,_,rfl,.inr ⟨rfl,rfl⟩⟩};{rename_i s H I;split at h;{rename_i A B D E;split at h;{rename_i he;obtain rfl:=beq_eq.1 he;simp only [Q.app.injEq] at h;obtain ⟨rfl,rfl,rfl,rfl,rfl,rfl,rfl,rfl,rfl⟩:=h;have ⟨F,G⟩:=qQ Z D E;exact ⟨⟨rfl,rfl,rfl,rfl⟩,_,rfl,.inl ⟨s,rfl,rfl,F,G⟩⟩};{cases h}};{cases h}};{split at h<;>grind};{cases h}};obtain ⟨⟨rfl,rfl,rfl,rfl⟩,p⟩:=p;refine ⟨O,e6,rfl,by rw [<-e6];exact u,by rw [<-O];exact q,g,p,?_⟩;split at d;{rename_i N k xc;simp only [ā] at d;subst d;exact ⟨N,k,xc,rfl,.inl rfl⟩};{rename_i s o k xc;exact Lq (P8 Z O d)};{rename_i s k xc;exact Lp Z O q d};{cases d}}}}
def EK (Z:Þ n V0 bQ β0 st β a w V){e:TypeId}{M:TI}{info:TypeInfo}{z:um}(O:M.size=info.size)(e6:M.bytes=info.bytes)(e7:M.zero=z.cells.toList.map C.ofConst){b x:SV}{s:Nat}{vs:zA um}{m c:Nat}{src:OA×Nat ⊕ zA um}{size bytes:Nat}{ty:TypeId}(h:cY st.boxes e M b x=.yy s vs m c src size bytes ty):size=info.size/\bytes=info.bytes/\ty=e/\info.bytes≠0/\info.size≠0/\z.cells.size=info.size/\(b.den β=.slice (mA (β s) c) m c/\st.boxes s=some ⟨.aG vs,e⟩)/\∃N k xc,x.den β=.slice N k xc/\((src=.inl (N,k))\/∃xs,src=.inr xs/\xs.length=k*info.size/\((∀v∈xs,v.oneCell'=true)->(∃ad,N=some ad/\∀j v,xs[j]?=some v->w.cell? (ad.add j)=some v)\/(N=none/\k=0))):=by unfold cY at h;split at h;{cases h};{rename_i t l;split at h;{cases h};{rename_i f;simp only [Qf6,beq_eq,Qd4,not_or] at f;obtain ⟨⟨u,q⟩,r⟩:=f;have r:M.size=t.length:=by{grind [beq_eq.1]};obtain ⟨y,-⟩:=fO (β:=β) e7;obtain ⟨d1,-⟩:=gj (β:=β) l;have g:z.cells.size=info.size:=by{rw [<-y,d1];simp [<-r,O]};dsimp only at h;split at h;{cases h};{rename_i i d;have p:(i=src/\M.size=size/\M.bytes=bytes/\e=ty)/\b.den β=.slice (mA (β s) c) m c/\st.boxes s=some ⟨.aG vs,e⟩:=by{split at h;{cases h};{split at h<;>grind};{rename_i E F G;split at h;{rename_i A B D;split at h;{rename_i he;obtain rfl:=beq_eq.1 he;simp only [Q.yy.injEq] at h;obtain ⟨rfl,rfl,rfl,rfl,rfl,rfl,rfl,rfl⟩:=h;exact ⟨⟨rfl,rfl,rfl,rfl⟩,rfl,D⟩};{cases h}};{cases h}};{cases h}};obtain ⟨⟨rfl,rfl,rfl,rfl⟩,p⟩:=p;refine ⟨O,e6,rfl,by rw [<-e6];exact u,by rw [<-O];exact q,g,p,?_⟩;split at d;{rename_i N k xc;simp only [ā] at d;subst d;exact ⟨N,k,xc,rfl,.inl rfl⟩};{rename_i s o k xc;exact Lq (P8 Z O d)};{rename_i s k xc;exact Lp Z O q d};{cases d}}}}
theorem RU (hT:dW.ok P T)(hM:Þ n V0 bQ β0 st β a w V){o}{K:St->un->Prop}{d}(hd:d<n){old ba vs m c src size bytes ty}(h:aT T st.bK st.boxes o.op=.app old ba vs m c src size bytes ty)(hv:Ap (.app old ba vs m c src size bytes ty) (some d) st V K):∃v w' st' β',(execOp a.eval o).run P w=.ok (.value v) w'/\Þ n V0 bQ β0 st' β' (a.put (some d) v) w' V/\K st' V:=by
 obtain ⟨cl,L,wb⟩:=(iC (T:=T) (ρ:=st.bK) (bx:=st.boxes) (op:=o.op)).2.2 (by rw [h];rfl);rw [L] at h;simp only [aT,wb] at h;split at h
 ·rename_i b x t t' E Y;split at h
  ·rename_i i i' hi Z;split at h
   ·rename_i e e' hk M;split at h
    ·rename_i ei Kr;obtain ⟨Zw,d0,z0,h1,I,h3,h4,-⟩:=aM (hT _ _ hi);obtain ⟨U,a3,a4,a5,a6,a7,a0,-⟩:=aM (hT _ _ Z);have ⟨info,de,z,J,e2,W,e4,e5,e6,e7⟩:=aM (hT _ _ Kr);rw [h4] at hk;rw [a0] at M;obtain rfl:=bo hk;obtain rfl:=bo M;obtain ⟨rfl,rfl,rfl,l,N,p,⟨base,a8,hold⟩,F,k,xc,a9,C⟩:=Im hM e5 e6 e7 h;have ⟨q1,q2⟩:=iB hM _ _ E;have f1:cl.argTypes=#[t,t']:=by apply ŀ;exact Y
     have f2:cl.args.map a.eval=#[.slice base m c,.slice F k xc]:=χ
     have O:∀{v w'},(Builtin.append_ #[t,t] o.type #[.slice base m c,.slice F k xc]).run P w=.ok v w'->(execOp a.eval o).run P w=.ok (.value v) w':=by intro v w' hr;simp only [execOp,L,resolve,wb,pure_bind,invoke,f1,f2,builtin];grind [fk,FG]
     have fin:∀{v w' st' β'},(Builtin.append_ #[t,t] o.type #[.slice base m c,.slice F k xc]).run P w=.ok v w'->Þ n V0 bQ β0 st' β' (a.put (some d) v) w' V->K st' V ->
       ∃v w' st' β',(execOp a.eval o).run P w=.ok (.value v) w'/\Þ n V0 bQ β0 st' β' (a.put (some d) v) w' V/\K st' V:=λq u A=>⟨_,_,_,_,O q,u,A⟩
     have YA:∀xs,V.sl F xs->xs.length=k*info.size->(∀v∈xs,v.oneCell'=true)->Src w F k info.size xs:=by intro xs j f h1;refine ⟨f,h1,?_⟩;(cases F with|some ad=>exact .inl ⟨ad,rfl,Dh hM j⟩|none=>{refine .inr ⟨rfl,?_⟩;have:xs=[]:=by{(cases xs with|nil=>rfl|cons y r=>{obtain ⟨ad,e,-⟩:=j 0 y ψ;cases e})};grind [Nat.mul_eq_zero.1]})
     rcases hold with ⟨s,rfl,rfl,hg,Q⟩|⟨rfl,rfl⟩
     ·rcases C with rfl|⟨xs,rfl,f,g⟩;{obtain ⟨xs,j,f,hv⟩:=hv;have ⟨v,w',st',β',q,u,A⟩:=BD (ty:=o.type) (xc:=xc) hM hd I J W p l hg Q (YA xs j f hv.2.2.2.2.1) hv;exact fin q u A};{have G:xs.length/info.size=k:=by{rw [f];exact Qf9 _ ω};simp only [Ap,G] at hv;have ⟨v,w',st',β',q,u,A⟩:=BD (ty:=o.type) (xc:=xc) hM hd I J W p l hg Q ⟨f,hv.2.2.2.2.1,g hv.2.2.2.2.1⟩ hv;exact fin q u A}
     ·obtain ⟨vs,D,R,B,S,hv⟩:=hv;rcases C with rfl|⟨xs,rfl,f,g⟩;{obtain ⟨xs,j,f,a1,a2⟩:=hv;by_cases H:k=0;{have X:=a1 H;subst H;refine fin (v:=.slice base m c) (w':=w) ?_ (hM.put (x:=.c (.v (.slice base m c))) hd rfl (λs hs=>by cases hs)) X;(cases F with|none=>exact BC I J base m c xc B|some ad=>{cases base<;>simp [Builtin.append_,aj I,aS J,Builtin.lenOf,Builtin.firstCells,loadCells,loadCellsFrom,storeCells,B]})};{have X:=a2 H;have ⟨v,w',st',β',q,u,A⟩:=BE (ty:=o.type) (xc:=xc) hM hd I J W p l D R B S N (YA xs j f X.2.2.2.1) X;exact fin q u A}};{have G:xs.length/info.size=k:=by{rw [f];exact Qf9 _ ω};dsimp only at hv;rw [G] at hv;have ⟨v,w',st',β',q,u,A⟩:=BE (ty:=o.type) (xc:=xc) hM hd I J W p l D R B S N ⟨f,hv.2.2.2.1,g hv.2.2.2.1⟩ hv;exact fin q u A}
    ·cases h
   ·cases h
  ·cases h
 ·cases h
theorem NT (hT:dW.ok P T)(hM:Þ n V0 bQ β0 st β a w V){o}{K:St->un->Prop}{d}(hd:d<n){s vs m c src size bytes ty}(h:aT T st.bK st.boxes o.op=.yy s vs m c src size bytes ty)(hv:Ap (.yy s vs m c src size bytes ty) (some d) st V K):∃v w' st' β',(execOp a.eval o).run P w=.ok (.value v) w'/\Þ n V0 bQ β0 st' β' (a.put (some d) v) w' V/\K st' V:=by
 obtain ⟨Q,q,R⟩:=(iC (T:=T) (ρ:=st.bK) (bx:=st.boxes) (op:=o.op)).2.2 (by rw [h];rfl);rw [q] at h;simp only [aT,R] at h;split at h
 ·rename_i b x t t' l L;split at h
  ·rename_i i i' hi M;split at h
   ·rename_i e e' S u;split at h
    ·rename_i ei Kr;obtain ⟨Zw,d0,z0,U,W,h3,h4,-⟩:=aM (hT _ _ hi);obtain ⟨J,a0,a1,a2,a3,a4,N,-⟩:=aM (hT _ _ M);have ⟨info,de,z,X,e2,Y,e4,e5,e6,e7⟩:=aM (hT _ _ Kr);rw [h4] at S;rw [N] at u;obtain rfl:=bo S;obtain rfl:=bo u;obtain ⟨rfl,rfl,rfl,A,B,C,⟨a5,D⟩,p,k,xc,a6,E⟩:=EK hM e5 e6 e7 h;have ⟨q1,q2⟩:=iB hM _ _ l;have f1:Q.argTypes=#[t,t']:=by apply ŀ;exact L
     have f2:Q.args.map a.eval=#[.slice (mA (β s) c) m c,.slice p k xc]:=χ
     have F:∀{v w'},(Builtin.append_ #[t,t] o.type #[.slice (mA (β s) c) m c,.slice p k xc]).run P w=.ok v w'->(execOp a.eval o).run P w=.ok (.value v) w':=by intro v w' hr;simp only [execOp,q,resolve,R,pure_bind,invoke,f1,f2,builtin];grind [fk,FG]
     have fin:∀{v w' st' β'},(Builtin.append_ #[t,t] o.type #[.slice (mA (β s) c) m c,.slice p k xc]).run P w=.ok v w'->Þ n V0 bQ β0 st' β' (a.put (some d) v) w' V->K st' V ->
       ∃v w' st' β',(execOp a.eval o).run P w=.ok (.value v) w'/\Þ n V0 bQ β0 st' β' (a.put (some d) v) w' V/\K st' V:=λG H I=>⟨_,_,_,_,F G,H,I⟩
     have YA:∀xs,V.sl p xs->xs.length=k*info.size->(∀v∈xs,v.oneCell'=true)->Src w p k info.size xs:=by intro xs g f U;refine ⟨f,U,?_⟩;(cases p with|some Z=>exact .inl ⟨Z,rfl,Dh hM g⟩|none=>{refine .inr ⟨rfl,?_⟩;have:xs=[]:=by{(cases xs with|nil=>rfl|cons y r=>{obtain ⟨Z,e,-⟩:=g 0 y ψ;cases e})};grind [Nat.mul_eq_zero.1]})
     rcases E with rfl|⟨xs,rfl,f,j⟩
     ·obtain ⟨xs,g,f,hv⟩:=hv;have ⟨v,w',st',β',G,H,I⟩:=CC (ty:=o.type) (xc:=xc) hM hd W X Y C A B D (YA xs g f hv.2.2.2.2.1) hv;exact fin G H I
     ·have O:xs.length/info.size=k:=by{rw [f];exact Qf9 _ ω};simp only [Ap,O] at hv;have ⟨v,w',st',β',G,H,I⟩:=CC (ty:=o.type) (xc:=xc) hM hd W X Y C A B D ⟨f,hv.2.2.2.2.1,j hv.2.2.2.2.1⟩ hv;exact fin G H I
    ·cases h
   ·cases h
  ·cases h
 ·cases h
theorem K5 (hT:dW.ok P T)(y:Þ n V0 bQ β0 st β a w V){o:Oper}{K:St->un->Prop}{next:Act->World->Prop}{Q:Exit->Act->World->Prop}(z:∀d,o.dst=some d->d<n)(u:Ap (aT T st.bK st.boxes o.op) o.dst st V K)(E:∀F β' N w' V',Þ n V0 bQ β0 F β' N w' V'->K F V'->next N w'):o.wp P a w next Q:=by
 unfold Oper.wp;generalize M:aT T st.bK st.boxes o.op=q at u
 cases q with
 | fail=>exact u.elim
 | ret sc x=>
  obtain ⟨e,f⟩:=(fy sc _).1 u;have ⟨h,g⟩:=RX hT y M e;rw [h];exact E _ _ _ _ _ (y.K0 z rfl g) f
 | new sc b x=>
  simp only [Ap] at u
  cases hdst:o.dst with
  | none=>rw [hdst] at u;exact u.elim
  | some d=>
   rw [hdst] at u;dsimp only at u;split at u
   ·rename_i k;obtain ⟨e,f⟩:=(fy sc _).1 u;have ⟨v,h,g,l⟩:=RV hT y M e;rw [h]
    have:=(y.new (z d hdst) k l).put (x:=x d) (v:=v) (z d hdst) (g d).1 (by
     intro s i;rw [(g d).2] at i;simp at i;subst i;exact ⟨b,by rw [ao,Ä rfl]⟩)
    grind [Oper.upon_value]
   ·exact u.elim
 | Ao sc s b=>
  simp only [Ap] at u
  cases hdst:o.dst with
  | some d=>rw [hdst] at u;exact u.elim
  | none=>
   rw [hdst] at u;dsimp only at u;obtain ⟨e,f⟩:=(fy sc _).1 u;have ⟨t,w',h,rx,g⟩:=RY hT y M e;rw [h];rcases rx with rfl|⟨v,rfl⟩
   ·simp only [Oper.upon_skip,hdst];exact E _ _ _ _ _ g f
   ·simp only [Oper.upon_value,hdst];exact E _ _ _ _ _ g f
 | rd p sh=>
  have ⟨x,e,f,j⟩:=Bv.fg sh u;have ⟨h,g⟩:=Vh hT y M e f j;rw [h];exact E _ _ _ _ _ (y.K0 z rfl (cw e)) g
 | ug vs of size sh=>
  have ⟨x,e,f,j,r⟩:=Bv.fg sh u;rw [(K4 hT y M e f j)];exact E _ _ _ _ _ (y.K0 z rfl (cw e)) r
 | yy s vs m c src size bytes ty=>
  cases hdst:o.dst with
  | none=>rw [hdst] at u;exact u.elim
  | some d=>grind [NT,Oper.upon_value]
 | app old ba vs m c src size bytes ty=>
  cases hdst:o.dst with
  | none=>rw [hdst] at u;exact u.elim
  | some d=>grind [RU,Oper.upon_value]
end
section
variable {P:Program} {T:dW} {n:Nat} {V0:Ó} {bQ:Mw} {β0:Nat->Nat} {st:St} {β:Nat->Nat} {a:Act} {w:World} {V:Ó}
def dq (V:Ó)(w:World):Ó:=⟨w,λb=>b<w.heap.size/\∀o,¬V.bh b o,λ_=>False,λ_ h=>h.1,λ_ h=>h.elim⟩
def yU (u:Þ n V0 bQ β0 st β a w V):V.Le (dq V w):=λb o c=>⟨λh=>h.2 o c,(u.tJ b o c).1⟩
def iF.run {f:FuncId}(h:iF P f)(xs:Array um):(callFunc f xs).run P w=.ok (.enter f xs) w:=by obtain ⟨fn,a,b,c⟩:=h;simp only [callFunc,Sem.run_bind,run_program,Result.andThen_ok,a,c,b,Ŏ,Ð,Sem.run_pure]
theorem cA {x:Nat}:∀{l:zA Nat},x∈ó l↔x∈l
 | []=>by simp [ó]
 | y::r=>by
  simp only [ó]
  cases h:iZ y (ó r) with
  | true=>
   simp only [cond_true,ç];rw [cA];constructor
   ·exact .inr
   ·rintro (rfl|u)
    ·exact cA.1 (dS.1 h)
    ·exact u
  | false=>simp only [cond_false,ç];rw [cA]
theorem gg {bx}:∀(k:Nat)(l:zA Nat),∀x∈l,x∈ð bx k l
 | 0,_,x,u=>u
 | k+1,l,x,u=>by simp only [ð];exact gg k _ x (cA.2 (Ĩ _ u))
def fH {bx:Nat->Option aY}{l:zA Nat}(h:jG bx l=true){s:Nat}(u:s∈l){b:aY}(y:bx s=some b):∀t∈b.cs.ids,t∈l:=by unfold jG at h;rw [Ħ] at h;have:=h s u;unfold VN oW at this;grind [dS.1]
def je {L:zA Nat}:∀{γ:Nat->Nat} {k:(Nat->Nat)->Prop},nN L γ k->∀β:Nat->Nat,k (λt=>if t∈L then β t else γ t):=by
 induction L with
 | nil=>
  intro γ k h β;have e:(λt=>if t∈([]:zA Nat) then β t else γ t)=γ:=by funext t;simp
  rw [e];exact h
 | cons s r u=>
  intro γ k h β;have:=u (h (β s)) β;grind [a_,iU]
def CN {bx:Nat->Option aY}{b:aY}{γ:Nat->Nat}{s:Nat}:∀{r:zA Nat} {k:Prop},ZK bx b γ s r k->(∀t∈r,∀b',bx t=some b'->b.live->b'.live->γ s=γ t->s=t)->(∀t∈r,∃b',bx t=some b')->k
 | [],_,h,_,_=>h
 | t::r,k,h,hi,y=>by
  simp only [ZK] at h
  cases E:Nat.beq s t with
  | true=>rw [E] at h;exact CN h (λt u=>hi t (ø _ u)) (λt u=>y t (ø _ u))
  | false=>
   rw [E] at h;have ⟨b',z⟩:=y t ψ;simp only [z,cond_false] at h;refine CN (h ?_) (λt u=>hi t (ø _ u)) (λt u=>y t (ø _ u))<;>grind [zy,kK,Nat.beq_refl]
def CA {bx:Nat->Option aY}{γ:Nat->Nat}{V':un}:∀{L:zA Nat} {k:Prop},kq bx γ V' L k->(∀s∈L,∀b,bx s=some b->b.live->V'.w.heap[γ s]?=some (b.obj γ)/\V'.H (γ s)) ->(∀s∈L,∀t∈L,∀b b',bx s=some b->b.live->bx t=some b'->b'.live->γ s=γ t->s=t)->(∀s∈L,∃b,bx s=some b)/\k
 | [],k,h,_,_=>⟨λs z=>(nomatch z),h⟩
 | s::r,k,h,u,hi=>by
  simp only [kq] at h;split at h
  ·rename_i b y
   have ⟨E,F⟩:=CA (h (kK.2 λl=>(u s ψ b y l).1) (kK.2 λl=>(u s ψ b y l).2)) (λc a=>u c (ø _ a))
    (λc a t d=>hi c (ø _ a) t (ø _ d))
   have g:=CN F (λt d b' e l f=>hi s ψ t (ø _ d) b b' y l e f) E;grind
  ·exact h.elim
def jv {bx:Nat->Option aY}{γ:Nat->Nat}{V':un}:∀{L:zA Nat} {k:Prop},uZ bx γ V' L k->(∀s∈L,∀b,bx s=some b->b.live->V'.bh (γ s) (b.obj γ))->(∀s∈L,∃b,bx s=some b)/\k
 | [],k,h,_=>⟨λs y=>(nomatch y),h⟩
 | s::r,k,h,u=>by
  simp only [uZ] at h;split at h
  ·rename_i b z;have ⟨E,F⟩:=jv (h (kK.2 (u s ψ b z))) (λc a=>u c (ø _ a));grind
  ·exact h.elim
def jS {E:Option (Nat×Nat)}:∀(cs F:zA C) {K:zA C->Prop},pJ E cs F K->∃u,K u/\∀s∈u.flatMap C.ids,s∈cs.flatMap C.ids\/∃m,E=some (m,s)
 | [],_,_,h=>⟨[],h,λs M=>(nomatch M)⟩
 | c::r,[],_,h=>h.elim
 | c::r,z::y,K,h=>by
  simp only [pJ] at h;split at h
  ·split at h
   ·rename_i m N;split at h
    ·obtain ⟨n,c,h⟩:=h;have ⟨u,a,b⟩:=jS r y h;grind [C.ids]
    ·exact h.elim
   ·exact h.elim
  ·split at h
   ·have ⟨v,e,d⟩:=Eb.fg _ h;have ⟨u,a,b⟩:=jS r y d;grind
   ·have ⟨u,a,b⟩:=jS r y h;grind
def Þ.fill (h:Þ n V0 bQ β0 st β a w V){s:Nat}{y b:aY}(z:st.boxes s=some y)(E:∀t∈b.cs.ids,∃b',st.boxes t=some b')(F:∀t b',st.boxes t=some b'->b'.live->t≠s->β t≠β s)(M:∀o,¬V.bh (β s) o)(hown:V0.w.heap.size<=β s\/(100000<=s/\bQ.B (β s)))(hw:w.heap[β s]?=some (b.obj β)):Þ n V0 bQ β0 (st.box s b) β a w V:=by have d:∀t,(∃b',st.boxes t=some b')->∃b',(st.box s b).boxes t=some b':=by{grind [ao]};refine ⟨h.defers,h.size,h.aA,λt x f u hu=>d u (h.Eh t x f u hu),?_,?_,?_,h.tJ,?_,h.ext,?_,h.oV,h.mY,h.small⟩;{grind [ao,h.Eg]};{grind [ao,h.boxes]};{grind [ao,h.inj]};{grind [ao,h.Af]};{intro t b' c l;rw [ao] at c;split at c;{rename_i e;rw [e];exact hown};{exact h.own t b' c l}}
def Þ.later (u:Þ n V0 bQ β0 st β a w V){X:Nat->Prop}{w':World}(y:kv X w w')(hX:∀t b,st.boxes t=some b->b.live->¬X (β t))(E:∀i,i<V0.w.heap.size->X i->V0.X i){z:un}(hvis:∀b o,z.bh b o->w'.heap[b]?=some o/\¬V0.H b)(F:∀t b,st.boxes t=some b->b.live->∀o,¬z.bh (β t) o):Þ n V0 bQ β0 st β a w' z:=by refine ⟨u.defers,u.size,u.aA,u.Eh,u.Eg,?_,u.inj,hvis,F,?_,u.own,u.oV,u.mY,u.small⟩;{grind [u.boxes,y.bh]};{refine ⟨Ą u.ext.size y.size,λi d c=>?_,y.os.m u.ext.os,y.tape.m u.ext.tape,y.out.m u.ext.out,Ą u.ext.dr y.dr⟩<;>grind [y.bh,u.ext.bh]}
def Þ.beta (u:Þ n V0 bQ β0 st β a w V){d g:Nat}(z:d<n\/200000<=d)(y:st.boxes d=none):Þ n V0 bQ β0 st (cJ β d g) a w V:=by have j:∀s c,st.boxes s=some c->s≠d:=λs c f e=>by{rw [e,y] at f;cases f};have hβ:∀s c,st.boxes s=some c->cJ β d g s=β s:=λs c f=>iU _ _ (j s c f);refine ⟨u.defers,u.size,?_,u.Eh,u.Eg,?_,?_,u.tJ,?_,u.ext,?_,?_,u.mY,u.small⟩;{intro t x k;rw [u.aA t x k];grind [SV.bW,u.Eh]};{intro s b i l;rw [hβ s b i,u.boxes s b i l];grind [aY.dF,u.Eg]};{grind [u.inj]};{grind [u.Af]};{intro s b i l;rw [hβ s b i];exact u.own s b i l};{intro s f;have ⟨m,o⟩:=u.oV s f;grind [iU,u.small]}
def jY {ty:TypeId}:∀{L:zA Nat} {st:St},(ef st L ty).aA=st.aA
 | [],_=>rfl
 | s::r,st=>by unfold ef;rw [Š];exact jY (L:=r)
def br {ty:TypeId}:∀{L:zA Nat} {st:St} (t:Nat),(ef st L ty).boxes t=if t∈L then some ⟨.aG [],ty⟩ else st.boxes t
 | [],st,t=>by simp [ef]
 | s::r,st,t=>by
  have:=br (ty:=ty) (L:=r) (st:=st.box s ⟨.aG [],ty⟩) t;unfold ef at this ⊢;grind [ao]
def Þ.Mm {ty:TypeId}:∀{L:zA Nat} {st:St},Þ n V0 bQ β0 st β a w V->Þ n V0 bQ β0 (ef st L ty) β a w V
 | [],_,h=>h
 | s::r,st,h=>by unfold ef;rw [Š];exact Þ.Mm (L:=r) h.void
def pK {mv:Option (Nat×Nat)}{γ:Nat->Nat}{V2:un}{A:zA Nat}(hV2:V2.w=w)(hγA:∀s∈A,γ s=β s)(hinj:∀s∈A,∀s'∈A,β s=β s'->s=s')(Ae:∀s∈A,∀o,¬V.bh (β s) o)(hown:∀s∈A,V0.w.heap.size<=β s\/(100000<=s/\bQ.B (β s))):∀(L:zA Nat) (VL EN:St) {k:St->Prop},(∀s∈L,s∈A)->Þ n V0 bQ β0 EN β a w V->VL.aA=EN.aA->(∀t,t∉L->VL.boxes t=EN.boxes t)->(∀s∈L,∃b,EN.boxes s=some b) ->(∀t b,EN.boxes t=some b->b.live->t∉A->∀s∈A,β t≠β s)->(∀s∈L,∀b,VL.boxes s=some b->∀t∈b.cs.ids,(∃b',EN.boxes t=some b')/\γ t=β t)->(∀m nb,mv=some (m,nb)->(∃b',EN.boxes nb=some b')/\γ nb=β nb) ->fL T mv γ V2 L VL k->∃Z,Þ n V0 bQ β0 Z β a w V/\Z.aA=EN.aA/\(∀t,(∃b,EN.boxes t=some b)->∃b,Z.boxes t=some b)/\k Z
 | [],VL,EN,k,_,hM,hsl,hag,_,_,_,_,h=>by
  have:VL=EN:=by
   obtain ⟨s1,b1⟩:=VL;obtain ⟨s2,b2⟩:=EN;dsimp only at hsl hag;subst hsl;congr 1;grind
  exact ⟨EN,hM,rfl,λ_ h=>h,this▸h⟩
 | s::r,VL,EN,k,hA,hM,hsl,hag,hb,hd,hw,hmv,h=>by
  have f:=hA s ψ;have ⟨P,z⟩:=hb s ψ
  have step:∀b1:aY,(∀t∈b1.cs.ids,(∃b',EN.boxes t=some b')/\γ t=β t)->w.heap[γ s]?=some (b1.obj γ)->fL T mv γ V2 r (VL.box s b1) k ->
    ∃Z,Þ n V0 bQ β0 Z β a w V/\Z.aA=EN.aA/\(∀t,(∃b,EN.boxes t=some b)->∃b,Z.boxes t=some b)/\k Z:=by
   intro b1 y G h;rw [hγA s f,aY.dF λt c=>(y t c).2] at G;by_cases H:s∈r
   ·refine pK hV2 hγA hinj Ae hown r (VL.box s b1) EN (λs' d=>hA s' (ø _ d)) hM hsl ?_ (λs' d=>hb s' (ø _ d)) hd ?_ hmv h<;>grind [ao]
   ·have C:=hM.fill (b:=b1) z (λt c=>(y t c).1) (by
     intro t b' c l D he;by_cases u:t∈A
     ·exact D (hinj t u s f he)
     ·exact hd t b' c l u s f he) (Ae s f) (hown s f) G
    have v:∀t,(∃b,EN.boxes t=some b)->∃b,(EN.box s b1).boxes t=some b:=by grind [ao]
    have ⟨Z,I,J,K,M⟩:=pK hV2 hγA hinj Ae hown r (VL.box s b1) (EN.box s b1) (λs' d=>hA s' (ø _ d)) C hsl
     (by
      intro t c;rw [ao,ao];split
      ·rfl
      ·rename_i e;exact hag t (by simp [e,c]))
     (λs' d=>v s' (hb s' (ø _ d)))
     (by
      intro t b' c l u;rw [ao] at c;split at c
      ·rename_i e;exact Å (e▸f) u
      ·exact hd t b' c l u)
     (by
      intro s' d b' g t c;rw [ao] at g;split at g
      ·cases g;exact ⟨v t (y t c).1,(y t c).2⟩
      ·have:=hw s' (ø _ d) b' g t c;exact ⟨v t this.1,this.2⟩)
     (λm nb e=>⟨v nb (hmv m nb e).1,(hmv m nb e).2⟩) h
    exact ⟨Z,I,J,λt c=>K t (v t c),M⟩
  simp only [fL] at h;split at h
  ·rename_i cs ty p;split at h;{rename_i i Q;have ⟨E,⟨j,x⟩,N⟩:=jS _ _ h;rw [hV2] at j;refine step ⟨.lit E,ty⟩ (λt c=>?_) j x;rcases N t c with F|⟨m,F⟩;{exact hw s ψ _ p t F};{exact hmv m t F}};{exact h.elim}
  ·rename_i O ty p;obtain ⟨q,j,x⟩:=h;rw [hV2] at j;exact step ⟨.row q,ty⟩ (λt c=>(nomatch c)) j x
  ·rename_i O ty p;obtain ⟨-,q,-,j,x⟩:=h;rw [hV2] at j;exact step ⟨.aG q,ty⟩ (λt c=>(nomatch c)) j x
  ·exact h.elim
def Cz {y:Option (Nat×Nat)}{V2:un}:∀{L:zA Nat} {st:St} {k:St->Prop},fL T y β V2 L st k->∀s∈L,∃b,st.boxes s=some b/\b.live
 | [],_,_,_,s,u=>nomatch u
 | s::r,st,k,h,t,z=>by
  have core:∀b1:aY,(∃b,st.boxes s=some b/\b.live)->fL T y β V2 r (st.box s b1) k->∃b,st.boxes t=some b/\b.live:=by
   intro b1 u h;by_cases e:t=s
   ·rw [e];exact u
   ·have:=Cz h t (by simpa [e] using z);grind [ao]
  simp only [fL] at h;split at h
  ·rename_i cs ty a;split at h;{have ⟨i,⟨g,c⟩,l⟩:=jS _ _ h;exact core _ ⟨_,a,dI⟩ c};{exact h.elim}
  ·rename_i j ty a;obtain ⟨d,g,c⟩:=h;exact core _ ⟨_,a,dJ⟩ c
  ·rename_i j ty a;obtain ⟨f,d,-,g,c⟩:=h;exact core _ ⟨_,a,λ_ e=>by cases e;exact f⟩ c
  ·exact h.elim
def Cy {bx:Nat->Option aY}{γ:Nat->Nat}{N b:Nat}{L:zA Nat}(y:∀s∈L,∃b,bx s=some b)(z:b∈L.map (eJ bx γ N))(hlt:b<N):∃s∈L,∃u,bx s=some u/\u.live/\γ s=b:=by have ⟨s,c,he⟩:=ù.1 z;have ⟨u,a⟩:=y s c;unfold eJ at he;rw [a] at he;obtain ⟨cs,ty⟩:=u;(cases cs with|aG vs=>{(cases vs with|nil=>{simp only [vb] at he;omega}|cons v r=>{exact ⟨s,c,_,a,f_ ψ,he⟩})}|_=>grind [dI,dJ])
def zx {y:Nat}:∀{xs:zA (ut×zA C)},(xs.flatMap λx=>x.2.flatMap C.ids)=[]->∀s∈((A_ y xs).flatMap λx=>x.2.flatMap C.ids),s=y
 | [],_,s,u=>nomatch u
 | x::r,h,s,u=>by
  simp only [Ė,List.append_eq_nil_iff] at h;unfold A_ at u;split at u
  ·rename_i heq;cases heq
  ·grind [C.ids]
  ·rename_i heq;cases heq;simp only [Ė,ú,h.1,Ġ,false_or] at u;exact zx h.2 s u
def Cl {y:Nat}:∀{cs:zA C},(cs.flatMap C.ids)=[]->∀s∈(HN y cs).flatMap C.ids,s=y
 | [],_,s,u=>nomatch u
 | x::r,h,s,u=>by
  simp only [Ė,List.append_eq_nil_iff] at h;unfold HN at u;split at u
  ·rename_i heq;cases heq
  ·grind [C.ids]
  ·rename_i heq;cases heq;simp only [Ė,ú,h.1,Ġ,false_or] at u;exact Cl h.2 s u
def Na {u:Nat}{x:SV}(h:x.ids=[]):∀s∈(yi u x).ids,s=u:=by intro s a;unfold yi at a;split at a;{simpa [SV.ids,C.ids] using a};{exact Cl h s a};{exact zx h s a};{rw [h] at a;cases a}
def Ke {xs:zA SV}(h:∀x∈xs,x.ids=[])(γ δ:Nat->Nat):aI γ xs=aI δ xs:=by unfold aI;grind [kH]
def Þ.adopt1 {w0:World}{V':un}(E:Þ n V0 bQ β0 st β a w V')(hlt:∀s b,st.boxes s=some b->b.live->β s<w0.heap.size)(hsz:V0.w.heap.size<=w0.heap.size){d b:Nat}{cs:zA C}{e:TypeId}(F:d<n)(M:st.boxes d=none)(N:w0.heap.size<=b)(hw:V'.w=w)(hblk:V'.bh b (.cells (cs.map (C.den λ_=>0)).toArray e (0,0)))(O:cs.flatMap C.ids=[]):Þ n V0 bQ β0 ((st.box d ⟨.lit cs,e⟩).put (some d) (.c (.ptr d 0))) (cJ β d b) (a.put (some d) (.pointer (some ⟨b,0,none⟩))) w (V'.T7 b):=by have v:∀s g,st.boxes s=some g->s≠d:=λs g f e=>by{rw [e,M] at f;cases f};have hβ:∀s g,st.boxes s=some g->cJ β d b s=β s:=λs g f=>iU _ _ (v s g f);have k:=(E.tJ b _ hblk).1;have A:(⟨.lit cs,e⟩:aY).obj (cJ β d b)=.cells (cs.map (C.den λ_=>0)).toArray e (0,0):=by{grind [aY.obj,è.den,pI]};have y:Þ n V0 bQ β0 (st.box d ⟨.lit cs,e⟩) (cJ β d b) a w (V'.T7 b):=by{refine ⟨E.defers,E.size,?_,?_,?_,?_,?_,?_,?_,E.ext,?_,?_,E.mY,E.small⟩;{intro t x q;rw [E.aA t x q];exact SV.bW λs f=>by{have ⟨g,m⟩:=E.Eh t x q s f;exact (hβ s g m).symm}};{intro t x q s f;have ⟨g,m⟩:=E.Eh t x q s f;grind [ao]};{grind [ao,è.ids,E.Eg]};{intro s g f l;rw [ao] at f;split at f;{rename_i p;simp only [ā] at f;rw [p,a_,<-f,A];exact k};{rw [hβ s g f,E.boxes s g f l];grind [aY.dF,E.Eg]}};{intro s z b1 b2 i B j D he;rw [ao] at i j;split at i<;>split at j;{rename_i r u;rw [r,u]};{rename_i r u;rw [r,a_,hβ z b2 j] at he;have:=hlt z b2 j D;omega};{rename_i r u;rw [u,a_,hβ s b1 i] at he;have:=hlt s b1 i B;omega};grind [E.inj]};{rintro x o ⟨i,j⟩;exact E.tJ x o ⟨λh=>i (.inl h),j⟩};{rintro s g f l o ⟨i,j⟩;rw [ao] at f;split at f;{rename_i p;rw [p,a_] at i;exact i (.inr ⟨rfl,by rw [hw];exact aK k⟩)};{rw [hβ s g f] at i j;exact E.Af s g f l o ⟨λh=>i (.inl h),j⟩}};{intro s g f l;rw [ao] at f;split at f;{rename_i p;rw [p,a_];exact .inl (Ą hsz N)};{rw [hβ s g f];exact E.own s g f l}};{intro s f;have ⟨i,j⟩:=E.oV s f;grind [iU,E.small]}};refine y.put F ?_ ?_;{simp only [SV.den,C.den,a_]};{intro s f;simp [SV.ids,C.ids] at f;subst f;exact ⟨_,by rw [ao,Ä rfl]⟩}
def CG {L:zA Nat}{m s:Nat}:s∈(L.filter λs=>!(Nat.beq s m))↔s∈L/\s≠m:=by grind [Nat.beq_refl,beq_eq.1]
def rG (hM:Þ n V0 bQ β0 st β a w V){L:zA Nat}{γ:Nat->Nat}(kg:∀s∈L,γ s=β s)(hcl:∀s∈L,∀b,st.boxes s=some b->∀t∈b.cs.ids,t∈L)(hlive:∀s∈L,∃b,st.boxes s=some b){give:ut}{sh:Sh}{m:Option Nat}{d:Nat}(hd:d<n){ety:TypeId}{K:St->un->Prop}{w':World}{r:um}(hm:∀k,m=some k->k∈L)(hfree:lN st m d=true)(hx:kv (λb=>b∈L.map (eJ st.boxes γ w.heap.size)/\(dq V w).H b) w w')(hr:cG T give sh L m d ety γ st (dq V w) K r (((dq V w).aw (L.map (eJ st.boxes γ w.heap.size))).to w' hx.size)):∃st' β' V',Þ n V0 bQ β0 st' β' (a.put (some d) r) w' V'/\K st' V':=by
 have a7:=hM.ext.size;unfold cG at hr;generalize hnb:gR m d=nb at hr;obtain ⟨D,q,Q,E,R⟩:=hr;obtain ⟨x,S,rfl,hr⟩:=Sh.fg sh R;clear R
 have y:st.boxes nb=none:=by unfold lN at hfree;grind
 have Zq:nb<n\/200000<=nb:=by rw [<-hnb];(cases m with|none=>exact .inl hd|some m=>exact H5 hd)
 generalize hV1:((((dq V w).aw (L.map (eJ st.boxes γ w.heap.size))).to w' hx.size).shut.bf (q≠[]) D)=V1 at hr;have U:V1.w=w':=by rw [<-hV1];rfl
 have Rf:∀b o,V1.bh b o->w'.heap[b]?=some o/\¬(b<w.heap.size/\∀o,¬V.bh b o)/\¬(q≠[]/\b=D/\b<w'.heap.size):=by rintro b o ⟨z,C⟩;rw [U] at C;rw [<-hV1] at z;refine ⟨C,λh=>z (.inl h),λh=>z (.inr ⟨h.1,h.2.1,by rw [<-h.2.1];exact h.2.2⟩)⟩
 have W:∀b o,V1.bh b o->w'.heap[b]?=some o/\¬V0.H b:=by intro b o h;obtain ⟨z,C,-⟩:=Rf b o h;refine ⟨z,λhH=>?_⟩;by_cases a1:b<w.heap.size;{exact C ⟨a1,λo' a2=>(hM.tJ b o' a2).2 hH⟩};{have:=V0.hH b hH;omega}
 have Ae:∀s b,st.boxes s=some b->b.live->∀o,¬V1.bh (β s) o:=λs b f l o ho=>
  (Rf _ o ho).2.1 ⟨aK (hM.boxes s b f l),hM.Af s b f l⟩
 have a3:∀b,(b∈L.map (eJ st.boxes γ w.heap.size)/\(dq V w).H b)->∃s∈L,∃u,st.boxes s=some u/\u.live/\β s=b:=by rintro b ⟨z,C⟩;have ⟨s,c,u,g,G,he⟩:=Cy hlive z C.1;exact ⟨s,c,u,g,G,by rw [<-kg s c];exact he⟩
 have Mq:Þ n V0 bQ β0 (ef st L ety) β a w' V1:=by refine (hM.Mm (L:=L) (ty:=ety)).later hx ?_ ?_ W ?_;{intro t b f l hX;rw [br] at f;grind [fM,hM.inj]};{intro i hi hX;obtain ⟨s,c,u,g,G,rfl⟩:=a3 _ hX;rcases hM.own s u g G with h|h<;>grind [hM.mY]};{intro t b f l;rw [br] at f;grind [fM]}
 have I:(ef st L ety).boxes nb=none:=by rw [br,Ã];{exact y};{intro h;have ⟨b,f⟩:=hlive nb h;rw [y] at f;cases f}
 have Nk:q≠[]->w.heap.size<=D\/∃k u,m=some k/\st.boxes k=some u/\u.live/\D=β k:=by intro p;rcases E p with h|h;{exact .inl h};{right;(cases m with|none=>exact h.elim|some k=>{have ⟨u,g⟩:=hlive k (hm k rfl);simp only [D9,g] at h;obtain ⟨cs,ty⟩:=u;cases cs<;>grind [dI,dJ,f_]})}
 have a4:Þ n V0 bQ β0 ((ef st L ety).box nb ⟨.aG q,ety⟩) (cJ β nb D) a w' V1:=by by_cases p:q=[];{subst p;exact (Mq.beta Zq I).void};{have J:=Q p;refine Mq.ko Zq I rfl ?_ ?_ ?_ J (λ_ _ _=>rfl) (Ù _) rfl rfl rfl;{intro s b f l he;rw [br] at f;split at f;{cases f;exact fM l};{rename_i a5;rcases Nk p with h|⟨k,u,hk,g,G,h⟩;{have:=aK (hM.boxes s b f l);omega};{exact a5 (hM.inj k s u b g G f l (h▸he.symm)▸hm k hk)}}};{intro o ho;exact (Rf _ o ho).2.2 ⟨p,rfl,aK J⟩};{rcases Nk p with h|⟨k,u,hk,g,G,h⟩;{left;omega};{rcases hM.own k u g G with h'|h';{left;rw [h];exact h'};{right;refine ⟨?_,by rw [h];exact h'.2⟩;rw [<-hnb,hk];exact Pv h'.1}}}}
 have Ni:∀s,(∃b,st.boxes s=some b)->s≠nb:=by rintro s ⟨b,f⟩ rfl;rw [y] at f;cases f
 generalize hA:KG m L=A at hr
 have M:∀s∈A,s∈L/\∀k,m=some k->s≠k:=by intro s c;rw [<-hA] at c;(cases m with|none=>exact ⟨c,λk h=>nomatch h⟩|some k=>{obtain ⟨z,C⟩:=CG.1 c;exact ⟨z,λj hj=>by cases hj;exact C⟩})
 have X:∀s∈L,(∀k,m=some k->s≠k)->s∈A:=by intro s c h;rw [<-hA];(cases m with|none=>exact c|some k=>exact CG.2 ⟨c,h k rfl⟩)
 have N:∀s,(∃b,st.boxes s=some b)->cJ γ nb D s=γ s/\cJ β nb D s=β s:=λs c=>⟨iU _ _ (Ni s c),iU _ _ (Ni s c)⟩
 have O:∀s∈A,((v_ m ety st).box nb ⟨.aG q,ety⟩).boxes s=st.boxes s:=by intro s c;obtain ⟨z,C⟩:=M s c;rw [ao,Ã (Ni s (hlive s z))];(cases m with|none=>rfl|some k=>{simp only [v_];rw [ao,Ã (C k rfl)]})
 have Y:∀s∈A,∃b,st.boxes s=some b/\b.live:=by intro s c;have:=Cz hr s c;rw [O s c] at this;exact this
 have ⟨st',g1,g2,g3,g4⟩:=pK (a:=a) (w:=w') (V:=V1) (γ:=cJ γ nb D) (β:=cJ β nb D) (by rfl) (λs c=>by
   have:=N s (hlive s (M s c).1);rw [this.1,this.2];exact kg s (M s c).1)
  (by
   intro s c Z a0 he;rw [(N s (hlive s (M s c).1)).2,(N Z (hlive Z (M Z a0).1)).2] at he;obtain ⟨b1,B,P⟩:=Y s c;obtain ⟨b2,e2,l2⟩:=Y Z a0;exact hM.inj s Z b1 b2 B P e2 l2 he)
  (by
   intro s c;obtain ⟨b1,B,P⟩:=Y s c;rw [(N s ⟨b1,B⟩).2];exact Ae s b1 B P)
  (by
   intro s c;obtain ⟨b1,B,P⟩:=Y s c;rw [(N s ⟨b1,B⟩).2];exact hM.own s b1 B P)
  A _ ((ef st L ety).box nb ⟨.aG q,ety⟩) (λ_ h=>h) a4
  (by
   show _=(ef st L ety).aA;rw [jY];cases m<;>rfl)
  (by
   intro t v;rw [ao,ao];split
   ·rfl
   ·rw [br]
    cases m with
    | none=>
     simp only [v_];rw [Ã λh=>v (X t h λk e=>nomatch e)]
    | some k=>
     simp only [v_];rw [ao];split
     ·rename_i e;rw [Ä (e▸hm k rfl)]
     ·rename_i e;rw [Ã λh=>v (X t h λj hj=>by cases hj;exact e)])
  (by
   intro s c;rw [ao];split
   ·exact ⟨_,rfl⟩
   ·rw [br,Ä (M s c).1];exact ⟨_,rfl⟩)
  (by
   intro t b v l XA s c;obtain ⟨b1,B,P⟩:=Y s c;rw [(N s ⟨b1,B⟩).2];rw [ao] at v;split at v
   ·rename_i e;simp only [ā] at v;rw [e,a_];have p:q≠[]:=λe0=>by{rw [<-v,e0] at l;exact fM l};rcases Nk p with h|⟨k,u,hk,g,G,h⟩;{have:=aK (hM.boxes s b1 B P);omega};grind [hM.inj]
   ·rw [br] at v;split at v
    ·cases v;exact Å l fM
    ·rename_i Zt;intro he;rw [(N t ⟨b,v⟩).2] at he;exact Zt (hM.inj t s b b1 v l B P he▸(M s c).1))
  (by
   intro s c b f t v;rw [O s c] at f;have Zt:=hcl s (M s c).1 b f t v;have F:=N t (hlive t Zt);refine ⟨?_,by rw [F.1,F.2];exact kg t Zt⟩;rw [ao];split
   ·exact ⟨_,rfl⟩
   ·rw [br,Ä Zt];exact ⟨_,rfl⟩)
  (by
   intro k a6 e
   have:a6=nb:=by (cases m with|none=>{cases e}|some m=>{cases e;rfl})
   subst this;exact ⟨⟨_,by rw [ao,Ä rfl]⟩,by rw [a_,a_]⟩)
  hr
 obtain ⟨b2,F⟩:=g3 nb ⟨_,by rw [ao,Ä rfl]⟩
 have lI:∀s∈(cond give (yi nb x) x).ids,s=nb:=by (cases give with|true=>exact Na S|false=>{intro s c;rw [cond_false,S] at c;cases c})
 refine ⟨_,_,_,g1.put (x:=cond give (yi nb x) x) hd ?_ ?_,g4⟩
 ·exact SV.bW λs c=>by rw [lI s c,a_,a_]
 ·intro s c;rw [lI s c];exact ⟨b2,F⟩
def mJ (hM:Þ n V0 bQ β0 st β a w V){m:CM}{f:FuncId}{xs:zA SV}{ty:TypeId}{dst:Option Nat}{K:St->un->Prop}{next:Act->World->Prop}{Q:Exit->Act->World->Prop}(hd:∀d,dst=some d->d<n)(hv:gY P T m f xs ty dst st V K)(hK:∀st' β' a' w' V',Þ n V0 bQ β0 st' β' a' w' V'->K st' V'->next a' w'):iF P f/\Calls P f (aI β xs) w λ
   | .returned v,w''=>next (a.put dst v) w''
   | .panicked chain,w''=>Q (.panic chain) a w''
   | .outgrown,_=>LetsOut Q:=by
 have hle:=yU hM;have b7:=hM.ext.size;unfold gY at hv;split at hv
 ·exact hv.elim
 ·rename_i sh c9;split at hv
  ·
   rename_i lI
   have b8:∀x∈xs,x.ids=[]:=by intro x u;rcases hx':x.ids with _|⟨s,r⟩;{rfl};{exfalso;have:s∈ð st.boxes 3 (ó (xs.flatMap SV.ids)):=gg 3 _ s (cA.2 (ċ.2 ⟨x,u,by rw [hx'];simp⟩));rw [lI] at this;cases this}
   have b9:∀(w':World)(u:kv (λ_=>False) w w'),Þ n V0 bQ β0 st β a w' ((dq V w).to w' u.size):=by intro w' u;refine hM.later u (λ_ _ _ _ h=>h) (λ_ _ h=>h.elim) ?_ ?_;{rintro b o ⟨E,M⟩;refine ⟨M,λhH=>?_⟩;by_cases N:b<w.heap.size;{apply E;refine ⟨N,λo' O=>(hM.tJ b o' O).2 hH⟩};{have:=V0.hH b hH;omega}};{rintro s b p l o ⟨E,-⟩;exact E ⟨aK (hM.boxes s b p l),hM.Af s b p l⟩}
   rw [Ke b8 β λ_=>0]
   have plain:(∀V':un,V.Le V'->ae P f (aI (λ_=>0) xs) V' λr fo=>sh.ex λx=>r=x.den (λ_=>0)/\K (st.put dst x) fo)->iF P f/\Calls P f (aI (λ_=>0) xs) w λ
     | .returned v,w''=>next (a.put dst v) w''
     | .panicked chain,w''=>Q (.panic chain) a w''
     | .outgrown,_=>LetsOut Q:=by
    intro hv;have ⟨hc,U⟩:=hv (dq V w) hle;refine ⟨hc,Calls.s U ?_⟩;rintro e w' ⟨r,rfl,u,Y⟩;obtain ⟨x,A,rfl,S⟩:=Sh.fg sh Y;have u:=u;exact hK (st.put dst x) β _ _ _ ((b9 w' u).K0 hd (kH A _ _) (cw A)) S
   split at hv
   ·split at hv;{rename_i d Z d0;split at hv;{exact hv.elim};{rename_i q;have ⟨hc,U⟩:=hv (dq V w) hle;refine ⟨hc,Calls.s U ?_⟩;rintro e' w' ⟨r,rfl,u,Y⟩;have A:kv (λb=>b∈([]:zA Nat).map (eJ st.boxes (λ_=>0) w.heap.size)/\(dq V w).H b) w w':=u.s λ_ h=>h.elim;have b5:cG T true sh [] Option.none d Z (λ_=>0) st (dq V w) K r (((dq V w).aw (([]:zA Nat).map (eJ st.boxes (λ_=>0) w.heap.size))).to w' A.size):=by{unfold cG KG at Y ⊢;exact Y};have ⟨st',β',V',E,M⟩:=rG (T:=T) (give:=true) (m:=Option.none) hM (λs g=>Å g ψ) (λs g=>Å g ψ) (λs g=>Å g ψ) (hd d rfl) (λk W=>by cases W) q A b5;exact hK _ _ _ _ _ E M}};{exact plain hv};{exact hv.elim}
   ·split at hv;{rename_i d;split at hv;{exact hv.elim};{rename_i hn;split at hv;{rename_i ti d1;split at hv;{rename_i e he;split at hv;{rename_i ei Kr;have ⟨hc,U⟩:=hv (dq V w) hle;refine ⟨hc,Calls.s U ?_⟩;rintro e' w' ⟨r,rfl,u,b,Y⟩;obtain ⟨cs,E,M,rfl,h4,h5,h6⟩:=vX _ Y;exact hK _ _ _ _ _ ((b9 w' u).adopt1 (w0:=w) (λs b p l=>aK (hM.boxes s b p l)) b7 (hd d rfl) hn h4 rfl h5 E) h6};{exact hv.elim}};{exact hv.elim}};{exact hv.elim}}};{exact hv.elim}
   ·exact plain hv
  ·rename_i s0 r0 lI;split at hv
   ·exact hv.elim
   ·rename_i a4;generalize hL:s0::r0=L at hv lI a4
    have a5:∀x∈xs,∀s∈x.ids,s∈L:=by intro x u s g;rw [<-lI];exact gg 3 _ s (cA.2 (ċ.2 ⟨x,u,g⟩))
    have a3:∀s∈L,∀b,st.boxes s=some b->∀t∈b.cs.ids,t∈L:=λs g b p=>fH a4 g p
    have a8:∀{R:(Nat->Nat)->um->un->Prop},(nN L (λ_=>0) λγ=>kq st.boxes γ (dq V w) L (ae P f (aI γ xs) ((dq V w).aw (L.map (eJ st.boxes γ w.heap.size))) (R γ))) ->
      ∃γ,(∀s∈L,γ s=β s)/\(∀s∈L,∃b,st.boxes s=some b)/\ae P f (aI β xs) ((dq V w).aw (L.map (eJ st.boxes γ w.heap.size))) (R γ):=by
     intro R hv;have G:=je hv β;generalize hγ:(λt=>if t∈L then β t else (λ_=>0) t)=γ at G;have F:∀s∈L,γ s=β s:=λs g=>by rw [<-hγ];simp [g]
     have Cm:∀s∈L,∀b,st.boxes s=some b->b.obj γ=b.obj β:=λs g b p=>aY.dF λt X=>F t (a3 s g b p t X)
     have ⟨B,c0⟩:=CA G (by
      intro s g b p l;rw [F s g,Cm s g b p];exact ⟨hM.boxes s b p l,aK (hM.boxes s b p l),hM.Af s b p l⟩) (by
      intro s g t X b b' p l c5 l' e;rw [F s g,F t X] at e;exact hM.inj s t b b' p l c5 l' e)
     refine ⟨γ,F,B,?_⟩
     have D:aI γ xs=aI β xs:=by unfold aI;rw [Ŗ λx u=>SV.bW λs g=>F s (a5 x u s g)]
     rw [<-D];exact c0
    have a1:∀{give:ut} {mm:Option Nat} {d:Nat} {Z:TypeId},dst=some d->(∀k,mm=some k->k∈L)->lN st mm d=true ->
      (∀V':un,V.Le V'->nN L (λ_=>0) λγ=>kq st.boxes γ V' L (ae P f (aI γ xs) (V'.aw (L.map (eJ st.boxes γ V'.w.heap.size))) (cG T give sh L mm d Z γ st V' K))) ->
      iF P f/\Calls P f (aI β xs) w λ
       | .returned v,w''=>next (a.put dst v) w''
       | .panicked chain,w''=>Q (.panic chain) a w''
       | .outgrown,_=>LetsOut Q:=by
     intro give mm d Z a9 c6 q hv;have ⟨γ,F,B,hc,U⟩:=a8 (R:=λγ=>cG T give sh L mm d Z γ st (dq V w) K) (hv (dq V w) hle);refine ⟨hc,Calls.s U ?_⟩;rintro e w' ⟨r,rfl,u,Y⟩;have ⟨st',β',V',E,M⟩:=rG hM F a3 B (hd d a9) c6 q u Y;rw [a9];exact hK _ _ _ _ _ E M
    have c1:∀k,k∈wB st.boxes L->k∈L:=by
     intro k W;unfold wB at W;have ⟨s,g,W⟩:=ċ.1 (cA.1 W);split at W
     ·rename_i cs ty p;refine a3 s g _ p k ?_
      have:∀cs:zA C,k∈uX cs->k∈cs.flatMap C.ids:=by
       intro cs
       induction cs with
       | nil=>exact λh=>nomatch h
       | cons c r ih=>
        intro h;rw [Ė,ú]
        cases c<;>simp only [uX,ç] at h<;>first
         | exact .inr (ih h)
         | (rcases h with h|h
            ·left;simp [C.ids,h]
            ·exact .inr (ih h))
      exact this cs W
     ·cases W
    have c2:∀k,k∈pL xs->k∈L:=by
     intro k W
     have:∀xs:zA SV,k∈pL xs->∃x∈xs,k∈x.ids:=by
      intro xs
      induction xs with
      | nil=>exact λh=>nomatch h
      | cons x r ih=>
       intro h;unfold pL at h;split at h
       ·rename_i heq;cases heq
       ·rename_i s n c r' heq;cases heq;exact ⟨.c (.d_ s n c),Ć,h⟩
       ·rename_i s n c r' heq;cases heq;exact ⟨.c (.mS s 0 n c),Ć,h⟩
       ·rename_i heq;cases heq;have ⟨y,hy,W⟩:=ih h;exact ⟨y,by simp [hy],W⟩
     have ⟨x,u,W⟩:=this xs W;exact a5 x u k W
    split at hv
    ·exact hv.elim
    ·exact hv.elim
    ·
     split at hv
     ·split at hv;{exact hv.elim};{rename_i q;exact a1 rfl (λk W=>by cases W) q hv}
     ·rename_i d Z k _ c7 _;split at hv
      ·split at hv;{exact hv.elim};{rename_i q;exact a1 rfl (λj hj=>by cases hj;exact c2 k (by rw [c7];simp)) q hv}
      ·split at hv
       ·exact hv.elim
       ·rename_i q;split at hv
        ·exact hv.elim
        ·
         rename_i z;rw [Ħ] at z;let Vr:un:=⟨w,λb=>(b<w.heap.size/\∀o,¬V.bh b o)/\¬∃s∈L,∃I,st.boxes s=some I/\I.live/\β s=b,λ_=>False,λ_ h=>h.1.1,λ_ h=>h.elim⟩;have a0:V.Le Vr:=λb o p=>⟨λh=>h.1.2 o p,(hM.tJ b o p).1⟩
         have Nf:Þ n V0 bQ β0 (ef st L 0) β a w Vr:=by have Mq:=hM.Mm (L:=L) (ty:=0);refine ⟨Mq.defers,Mq.size,Mq.aA,Mq.Eh,Mq.Eg,Mq.boxes,Mq.inj,?_,?_,Mq.ext,Mq.own,Mq.oV,Mq.mY,hM.small⟩;{rintro b o ⟨E,M⟩;refine ⟨M,λhH=>?_⟩;have N:=aK M;apply E;refine ⟨⟨N,λo' O=>(hM.tJ b o' O).2 hH⟩,λhm=>?_⟩;obtain ⟨s,g,I,J,l0,rfl⟩:=hm;rcases hM.own s I J l0 with h|h;{have:=V0.hH _ hH;omega};{have:=ő (z s g);omega}};{rintro s b p l o ⟨E,-⟩;rw [br] at p;split at p;{cases p;exact Å l fM};{rename_i a6;refine E ⟨⟨aK (hM.boxes s b p l),hM.Af s b p l⟩,λhm=>?_⟩;obtain ⟨s',a2,bs,a7,ls,he⟩:=hm;exact a6 (hM.inj s' s bs b a7 ls p l he▸a2)}}
         have G:=je (hv (dq Vr w) (a0.m (yU Nf))) β;generalize hγ:(λt=>if t∈L then β t else (λ_=>0) t)=γ at G;have F:∀s∈L,γ s=β s:=λs g=>by rw [<-hγ];simp [g]
         have ⟨B,hc,U⟩:=jv G (by
          intro s g b p l;rw [F s g,aY.dF λt X=>F t (fH a4 g p t X)];exact yU Nf _ _ ⟨λh=>h.2 ⟨s,g,b,p,l,rfl⟩,hM.boxes s b p l⟩)
         refine ⟨hc,?_⟩
         have D:aI γ xs=aI β xs:=by unfold aI;rw [Ŗ λx u=>SV.bW λs g=>F s (a5 x u s g)]
         rw [D] at U;refine Calls.s U ?_;rintro e' w' ⟨r,rfl,u,Y⟩;have A:kv (λb=>b∈([]:zA Nat).map (eJ (ef st L 0).boxes (λ_=>0) w.heap.size)/\(dq Vr w).H b) w w':=u.s λ_ h=>h.elim
         have b5:cG T true sh [] Option.none d Z (λ_=>0) (ef st L 0) (dq Vr w) K r (((dq Vr w).aw (([]:zA Nat).map (eJ (ef st L 0).boxes (λ_=>0) w.heap.size))).to w' A.size):=by unfold cG KG at Y ⊢;exact Y
         have ⟨st',β',V',E,M⟩:=rG (T:=T) (give:=true) (m:=Option.none) Nf (λs g=>Å g ψ) (λs g=>Å g ψ) (λs g=>Å g ψ) (hd d rfl) (λk W=>by cases W) q A b5;grind
     ·split at hv
      ·exact hv.elim
      ·
       rename_i z;rw [Ħ] at z;let Vr:un:=⟨w,λb=>(b<w.heap.size/\∀o,¬V.bh b o)/\¬∃s∈L,∃I,st.boxes s=some I/\I.live/\β s=b,λ_=>False,λ_ h=>h.1.1,λ_ h=>h.elim⟩;have a0:V.Le Vr:=λb o p=>⟨λh=>h.1.2 o p,(hM.tJ b o p).1⟩;have G:=je (hv Vr a0) β;generalize hγ:(λt=>if t∈L then β t else (λ_=>0) t)=γ at G;have F:∀s∈L,γ s=β s:=λs g=>by rw [<-hγ];simp [g]
       have ⟨B,hc,U⟩:=jv G (by
        intro s g b p l;rw [F s g,aY.dF λt X=>F t (fH a4 g p t X)];exact ⟨λh=>h.2 ⟨s,g,b,p,l,rfl⟩,hM.boxes s b p l⟩)
       refine ⟨hc,?_⟩
       have D:aI γ xs=aI β xs:=by unfold aI;rw [Ŗ λx u=>SV.bW λs g=>F s (a5 x u s g)]
       rw [D] at U;refine Calls.s U ?_;rintro e w' ⟨r,rfl,u,Y⟩;obtain ⟨x,A,rfl,S⟩:=Sh.fg sh Y;have u:=u;refine hK _ β _ _ _ ?_ S
       have b6:Þ n V0 bQ β0 (ef st L 0) β a w' (Vr.to w' u.size):=by refine (hM.Mm (L:=L) (ty:=0)).later u (λ_ _ _ _ h=>h) (λ_ _ h=>h.elim) ?_ ?_;{rintro b o ⟨E,M⟩;refine ⟨M,λhH=>?_⟩;by_cases N:b<w.heap.size;{apply E;refine ⟨⟨N,λo' O=>(hM.tJ b o' O).2 hH⟩,λhm=>?_⟩;obtain ⟨s,g,I,J,l0,rfl⟩:=hm;rcases hM.own s I J l0 with h|h;{have:=V0.hH _ hH;omega};{have:=ő (z s g);omega}};{have:=V0.hH b hH;omega}};{rintro s b p l o ⟨E,-⟩;rw [br] at p;split at p;{cases p;exact Å l fM};{rename_i a6;refine E ⟨⟨aK (hM.boxes s b p l),hM.Af s b p l⟩,λhm=>?_⟩;obtain ⟨s',a2,bs,a7,ls,he⟩:=hm;exact a6 (hM.inj s' s bs b a7 ls p l he▸a2)}}
       exact b6.K0 hd (kH A _ _) (cw A)
     ·exact hv.elim
    ·
     split at hv
     ·have ⟨γ,F,B,hc,U⟩:=a8 (R:=λγ r' fo=>sh.ex λx=>r'=x.den (λ_=>0)/\fL T Option.none γ fo L st λst'=>K (st'.put dst x) fo.shut) (hv (dq V w) hle);refine ⟨hc,Calls.s U ?_⟩;rintro e w' ⟨r,rfl,u,Y⟩;obtain ⟨x,A,rfl,S⟩:=Sh.fg sh Y;have u:=u;generalize hV1:(((dq V w).aw (L.map (eJ st.boxes γ w.heap.size))).to w' u.size)=V2 at S;have c3:V2.w=w':=by rw [<-hV1];rfl
      have c4:∀b,(b∈L.map (eJ st.boxes γ w.heap.size)/\(dq V w).H b)->∃s∈L,∃I,st.boxes s=some I/\I.live/\β s=b:=by rintro b ⟨E,M⟩;have ⟨s,g,I,J,l0,he⟩:=Cy B E M.1;exact ⟨s,g,I,J,l0,by rw [<-F s g];exact he⟩
      have Rf:∀b o,V2.shut.bh b o->w'.heap[b]?=some o/\¬(b<w.heap.size/\∀o,¬V.bh b o):=by rintro b o ⟨E,M⟩;rw [<-hV1] at E M;exact ⟨M,E⟩
      have Ae:∀s b,st.boxes s=some b->b.live->∀o,¬V2.shut.bh (β s) o:=λs b p l o ho=>
       (Rf _ o ho).2 ⟨aK (hM.boxes s b p l),hM.Af s b p l⟩
      have Mq:Þ n V0 bQ β0 (ef st L 0) β a w' V2.shut:=by refine (hM.Mm (L:=L) (ty:=0)).later u ?_ ?_ ?_ ?_;{intro t b p l hX;rw [br] at p;split at p;{cases p;exact fM l};{rename_i X;have ⟨s,g,I,J,l0,he⟩:=c4 _ hX;exact X (hM.inj s t I b J l0 p l he▸g)}};{intro i hi hX;obtain ⟨s,g,I,J,l0,rfl⟩:=c4 _ hX;rcases hM.own s I J l0 with h|h;{omega};{exact hM.mY _ h.2}};{intro b o h;have ⟨E,M⟩:=Rf b o h;refine ⟨E,λhH=>?_⟩;by_cases N:b<w.heap.size;{exact M ⟨N,λo' O=>(hM.tJ b o' O).2 hH⟩};{have:=V0.hH b hH;omega}};{intro t b p l;rw [br] at p;split at p;{cases p;exact Å l fM};{exact Ae t b p l}}
      have lH:=Cz S
      have ⟨st',g1,g2,g3,g4⟩:=pK (a:=a) (w:=w') (V:=V2.shut) (γ:=γ) (β:=β) c3 F
       (by
        intro s g s' a2 he;obtain ⟨b1,e1,l1⟩:=lH s g;obtain ⟨b2,e2,l2⟩:=lH s' a2;exact hM.inj s s' b1 b2 e1 l1 e2 l2 he)
       (by intro s g;obtain ⟨b1,e1,l1⟩:=lH s g;exact Ae s b1 e1 l1)
       (by intro s g;obtain ⟨b1,e1,l1⟩:=lH s g;exact hM.own s b1 e1 l1)
       L st (ef st L 0) (λ_ h=>h) Mq jY.symm (by intro t X;rw [br,Ã X])
       (by intro s g;rw [br,Ä g];exact ⟨_,rfl⟩)
       (by
        intro t b X l XA s g he;rw [br,Ã XA] at X;obtain ⟨b1,e1,l1⟩:=lH s g;exact XA (hM.inj t s b b1 X l e1 l1 he▸g))
       (by
        intro s g b p t X;have Zt:=a3 s g b p t X;exact ⟨by rw [br,Ä Zt];exact ⟨_,rfl⟩,F t Zt⟩)
       (λm nb e=>by cases e) S
      exact hK _ _ _ _ _ (g1.K0 hd (kH A _ _) (cw A)) g4
     ·rename_i k c8;split at hv;{rename_i d Z _;split at hv;{exact hv.elim};{rename_i q;exact a1 rfl (λj hj=>by cases hj;exact c1 k (by rw [c8];simp)) q hv}};{exact hv.elim}
     ·exact hv.elim
    ·
     split at hv
     ·exact hv.elim
     ·rename_i z;rw [Ħ] at z;let Vr:un:=⟨w,λb=>(b<w.heap.size/\∀o,¬V.bh b o)/\¬∃s∈L,∃I,st.boxes s=some I/\I.live/\β s=b,λ_=>False,λ_ h=>h.1.1,λ_ h=>h.elim⟩;have a0:V.Le Vr:=λb o p=>⟨λh=>h.1.2 o p,(hM.tJ b o p).1⟩;have G:=je (hv Vr a0) β;generalize hγ:(λt=>if t∈L then β t else (λ_=>0) t)=γ at G;have F:∀s∈L,γ s=β s:=λs g=>by rw [<-hγ];simp [g]
      have ⟨B,hc,U⟩:=jv G (by
       intro s g b p l;rw [F s g,aY.dF λt X=>F t (fH a4 g p t X)];exact ⟨λh=>h.2 ⟨s,g,b,p,l,rfl⟩,hM.boxes s b p l⟩)
      refine ⟨hc,?_⟩
      have D:aI γ xs=aI β xs:=by unfold aI;rw [Ŗ λx u=>SV.bW λs g=>F s (a5 x u s g)]
      rw [D] at U;refine Calls.s U ?_;rintro e w' ⟨r,rfl,u,Y⟩;obtain ⟨x,A,rfl,S⟩:=Sh.fg sh Y;have u:=u;refine hK ((st.rel L γ (C.den β)).put dst x) β _ _ _ ?_ (S (C.den β))
      have b6:Þ n V0 bQ β0 (st.rel L γ (C.den β)) β a w' (Vr.to w' u.size):=by refine (hM.rel (L:=L) (β':=γ) F).later u (λ_ _ _ _ h=>h) (λ_ _ h=>h.elim) ?_ ?_;{rintro b o ⟨E,M⟩;refine ⟨M,λhH=>?_⟩;by_cases N:b<w.heap.size;{apply E;refine ⟨⟨N,λo' O=>(hM.tJ b o' O).2 hH⟩,λhm=>?_⟩;obtain ⟨s,g,I,J,l0,rfl⟩:=hm;rcases hM.own s I J l0 with h|h;{have:=V0.hH _ hH;omega};{have:=ő (z s g);omega}};{have:=V0.hH b hH;omega}};{rintro s b p l o ⟨E,-⟩;obtain ⟨a6,y,hy,rfl⟩:=jw p;have ly:=aY.iP l;refine E ⟨⟨aK (hM.boxes s y hy ly),hM.Af s y hy ly⟩,λhm=>?_⟩;obtain ⟨s',a2,bs,a7,ls,he⟩:=hm;exact a6 (hM.inj s' s bs y a7 ls hy ly he▸a2)}
      exact b6.K0 hd (kH A _ _) (cw A)
def Þ.release (M:Þ n V0 bQ β0 st β a w V){l:zA Nat}{K:St->un->Prop}(N:Qj l st V K):∃O V',Þ n V0 bQ β0 O β a w V'/\V.Le V'/\K O V':=by
 unfold Qj at N;split at N
 ·exact ⟨st,V,M,λ_ _ h=>h,N⟩
 ·rename_i B D;split at N
  ·exact N.elim
  ·rename_i k;generalize hL:B::D=L at N k;rw [Ċ,Ħ] at k;obtain ⟨m,d⟩:=k;let Z:un:=⟨w,λb=>(b<w.heap.size/\∀o,¬V.bh b o)/\¬∃s∈L,∃j,st.boxes s=some j/\j.live/\β s=b,λ_=>False,λ_ h=>h.1.1,λ_ h=>h.elim⟩;have e:V.Le Z:=λb o f=>⟨λh=>h.1.2 o f,(M.tJ b o f).1⟩;have i:=je (N Z e) β;generalize hγ:(λt=>if t∈L then β t else (λ_=>0) t)=γ at i;have p:∀s∈L,γ s=β s:=λs g=>by rw [<-hγ];simp [g]
   have ⟨q,E⟩:=jv i (by
    intro s g b f l;rw [p s g,aY.dF λt F=>p t (fH m g f t F)];exact ⟨λh=>h.2 ⟨s,g,b,f,l,rfl⟩,M.boxes s b f l⟩)
   have c:=M.rel (L:=L) (β':=γ) p;refine ⟨_,Z,?_,e,E (C.den β)⟩;refine ⟨c.defers,c.size,c.aA,c.Eh,c.Eg,c.boxes,c.inj,?_,?_,c.ext,c.own,c.oV,c.mY,M.small⟩
   ·rintro b o ⟨r,x⟩;refine ⟨x,λhH=>?_⟩;apply r;refine ⟨⟨(aK x),λG u=>(M.tJ b G u).2 hH⟩,λhm=>?_⟩;obtain ⟨s,g,j,v,H,rfl⟩:=hm;rcases M.own s j v H with h|h;{have:=V0.hH _ hH;omega};{have:=ő (d s g);omega}
   ·rintro s b f l o ⟨r,-⟩;obtain ⟨I,y,z,rfl⟩:=jw f;have A:=aY.iP l;refine r ⟨⟨aK (M.boxes s y z A),M.Af s y z A⟩,λhm=>?_⟩<;>grind [M.inj]
def Dl {bx:Nat->Option aY}{β:Nat->Nat}:∀{xs u:zA SV} {vs:zA um} {c:Nat},p_ bx xs=some (vs,c,u)->c=0->u.map (SV.den β)=xs.map (SV.den β)
 | [],_,_,_,h,_=>nomatch h
 | x::r,u,vs,c,h,y=>by
  simp only [p_] at h;split at h
  ·split at h
   ·cases h;subst y;simp [SV.den,C.den,mA]
   ·cases h
  ·split at h
   ·rename_i e;cases h;rw [ĺ,ĺ,Dl e y]
   ·cases h
def Dm {bx:Nat->Option aY}:∀{xs u:zA SV} {vs:zA um} {c:Nat},p_ bx xs=some (vs,c,u)->∀t∈u.flatMap SV.ids,t∈xs.flatMap SV.ids
 | [],_,_,_,h=>nomatch h
 | x::r,u,vs,c,h=>by
  simp only [p_] at h;split at h
  ·grind [SV.ids,C.ids]
  ·split at h
   ·rename_i e;cases h;intro t y;rw [Ė,ú] at y ⊢;exact y.imp_right (Dm e t)
   ·cases h
def wU {bx bx':Nat->Option aY}:∀{xs:zA SV},(∀s∈xs.flatMap SV.ids,bx' s=bx s)->p_ bx' xs=p_ bx xs
 | [],_=>rfl
 | x::r,h=>by
  have u:=wU (xs:=r) λs a=>h s (by rw [Ė];exact Ĺ _ a);simp only [p_];grind [SV.ids,C.ids]
def uN (E:Þ n V0 bQ β0 st β a w V){m:CM}{f:FuncId}{xs:zA SV}{ty:TypeId}{dst:Option Nat}{K:St->un->Prop}{next:Act->World->Prop}{Q:Exit->Act->World->Prop}(F:∀d,dst=some d->d<n)(u:mc P T m f xs ty dst st V K)(M:∀z β' N w' V',Þ n V0 bQ β0 z β' N w' V'->K z V'->next N w'):iF P f/\Calls P f (aI β xs) w λ
   | .returned v,y=>next (a.put dst v) y
   | .panicked chain,y=>Q (.panic chain) a y
   | .outgrown,_=>LetsOut Q:=by unfold mc at u;split at u;{split at u;{rename_i b c g e;by_cases h:b=[];{have ⟨i,j⟩:=u.1 h;have:=mJ (Q:=Q) E F j M;unfold aI at this ⊢;rw [Dl e i] at this;exact this};{exact mJ E F (u.2 h) M}};{exact mJ E F u M}};{exact mJ E F u M}
end
end Go.Eng
