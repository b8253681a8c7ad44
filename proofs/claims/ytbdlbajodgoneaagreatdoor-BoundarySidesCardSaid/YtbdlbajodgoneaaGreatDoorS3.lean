import Derived.Test.YtbdlbajodgoneaaGreatDoorS2
set_option linter.all false
open Go.IntKind (i64 u64 u32)
namespace Go.Eng
section
variable{P:Program}{T:eA}{n:Nat}{V0:Ó}{bQ:MN}{β0:Nat->Nat}{st:St}{β:Nat->Nat}{a:Act}{w:World}{V:Ó}
def d_ {x:Nat}{l:zA Nat}:jf x l=true↔x∈l:=by
 induction l with
 | nil=>simp [jf]
 | cons y r u=>
  simp only [jf,í];grind [beq_eq.1,Nat.beq_refl]
theorem pK {x:Nat}{l:zA Nat}:jf x l=false↔x∉l:=by rw [<-d_];cases jf x l<;>simp
def Ko {l m:zA Nat}:ES l m=true↔∀x∈l,x∉m:=by unfold ES;grind [pK]
theorem C.jR {L:zA Nat}{β':Nat->Nat}(hβ:∀s∈L,β' s=β s)(c:C):(c.rel L β' (C.den β)).den β=c.den β/\∀s∈(c.rel L β' (C.den β)).ids,s∈c.ids/\s∉L:=by cases c<;>grind [C.rel,C.den,d_.1,C.ids,pK.1,Ko.1]
def wU {L:zA Nat}{β':Nat->Nat}(hβ:∀s∈L,β' s=β s)(cs:zA C):(cs.map (C.rel L β' (C.den β))).map (C.den β)=cs.map (C.den β)/\∀s∈(cs.map (C.rel L β' (C.den β))).flatMap C.ids,s∈cs.flatMap C.ids/\s∉L:=by refine ⟨?_,λs a=>?_⟩;{rw [Wq2];exact š λc _=>(C.jR hβ c).1};grind [C.jR]
theorem SV.jR {L:zA Nat}{β':Nat->Nat}(hβ:∀s∈L,β' s=β s)(x:SV):(x.rel L β' (C.den β)).den β=x.den β/\∀s∈(x.rel L β' (C.den β)).ids,s∈x.ids/\s∉L:=by
 cases x with
 | c c=>exact C.jR hβ c
 | agg cs=>
  have ⟨a,d⟩:=wU hβ cs;exact ⟨by simp only [SV.rel,SV.den,a],d⟩
 | xP xs=>
  refine ⟨?_,λs e=>?_⟩
  ·simp only [SV.rel,SV.den,Wq2];congr 2;apply š;rintro ⟨b,cs⟩ -
   have a:=(wU hβ cs).1
   cases b with
   | true=>simp only [Function.comp,kO,a]
   | false=>
    match cs with
    | []=>rfl
    | [x]=>simp only [Function.comp,Ł,Wk6,kO];exact (C.jR hβ x).1
    | _::_::_=>rfl
  ·have ⟨i,f,e⟩:=ė.1 e;obtain ⟨y,g,rfl⟩:=ÿ.1 f;obtain ⟨a,d⟩:=(wU hβ y.2).2 s e;exact ⟨ė.2 ⟨y,g,a⟩,d⟩
theorem a_.jR {L:zA Nat}{β':Nat->Nat}(hβ:∀s∈L,β' s=β s)(b:a_):(b.rel L β' (C.den β)).obj β=b.obj β/\∀s∈(b.rel L β' (C.den β)).cs.ids,s∈b.cs.ids/\s∉L:=by obtain ⟨cs,ty⟩:=b;(cases cs with|lit cs=>{have ⟨c,d⟩:=wU hβ cs;exact ⟨by simp only [a_.rel,a_.obj,ë.den,c],d⟩}|row vs=>{exact ⟨rfl,λs a=>by cases a⟩}|aF vs=>{exact ⟨rfl,λs a=>by cases a⟩})
theorem a_.iX {L:zA Nat}{β':Nat->Nat}{J:C->un}{b:a_}(h:(b.rel L β' J).live):b.live:=by obtain ⟨cs,ty⟩:=b;(cases cs with|aF vs=>exact h|_=>grind [dP,dQ])
theorem G2 {L:zA Nat}{β':Nat->Nat}{J:C->un}{t:Nat}{x:SV}(h:(st.rel L β' J).aC t=some x):∃y,st.aC t=some y/\x=y.rel L β' J:=by grind [St.rel]
theorem jB {L:zA Nat}{β':Nat->Nat}{J:C->un}{t:Nat}{x:a_}(h:(st.rel L β' J).boxes t=some x):t∉L/\∃y,st.boxes t=some y/\x=y.rel L β' J:=by grind [St.rel,pK.1]
theorem iX {L:zA Nat}{β':Nat->Nat}{J:C->un}{t:Nat}(h:∃b,st.boxes t=some b)(u:t∉L):∃b,(st.rel L β' J).boxes t=some b:=by obtain ⟨b,a⟩:=h;refine ⟨b.rel L β' J,?_⟩<;>grind [St.rel,pK.2]
theorem à.rel (h:à n V0 bQ β0 st β a w V){L:zA Nat}{β':Nat->Nat}(hβ:∀s∈L,β' s=β s):à n V0 bQ β0 (st.rel L β' (C.den β)) β a w V where
 defers:=h.defers
 size:=h.size
 aC:=by grind [G2,h.aC,SV.jR]
 Ew:=by
  intro t x i s d;obtain ⟨y,c,rfl⟩:=G2 i;obtain ⟨e,f⟩:=(SV.jR hβ y).2 s d;exact iX (h.Ew t y c s e) f
 Ev:=by intro t b g s d;obtain ⟨-,y,c,rfl⟩:=jB g;obtain ⟨e,f⟩:=(a_.jR hβ y).2 s d;exact iX (h.Ev t y c s e) f
 boxes:=by grind [jB,h.boxes,a_.iX,a_.jR]
 inj:=by grind [jB,h.inj,a_.iX]
 tP:=h.tP
 Ak:=by grind [jB,h.Ak,a_.iX]
 ext:=h.ext
 own:=by intro t b g l;obtain ⟨-,y,c,rfl⟩:=jB g;exact h.own t y c (a_.iX l)
 oP:=h.oP
 nh:=h.nh
 small:=h.small
def à.kE (h:à n V0 bQ β0 st β a w V){d g:Nat}{b:a_}(hd:d<n\/200000<=d)(N:st.boxes d=none)(lT:b.cs.ids=[])(M:∀s b',st.boxes s=some b'->b'.live->β s≠g)(O:∀o,¬V.aX g o)(hown:V0.w.heap.size<=g\/(100000<=d/\bQ.B g)){w':World}(hw:w'.heap[g]?=some (b.obj β))(Z:∀i,i<w.heap.size->i≠g->w'.heap[i]?=w.heap[i]?)(hsz:w.heap.size<=w'.heap.size)(hos:w'.os=w.os)(ht:w'.tape=w.tape)(hout:w'.output=w.output)(hdr:w.drawn<=w'.drawn:=by first|exact Ú _|exact Ww8 _):à n V0 bQ β0 (st.box d b) (cK β d g) a w' V:=by have u:∀s b',st.boxes s=some b'->s≠d:=λs b' c e=>by{rw [e,N] at c;cases c};have hβ:∀s b',st.boxes s=some b'->cK β d g s=β s:=λs b' c=>i_ _ _ (u s b' c);have v:∀s b',st.boxes s=some b'->b'.live->β s<w.heap.size:=λs b' c l=>aJ (h.boxes s b' c l);have C:∀b' o,V.aX b' o->b'<w.heap.size:=λb' o D=>aJ (h.tP b' o D).1;refine ⟨h.defers,h.size,?_,?_,?_,?_,?_,?_,?_,?_,?_,?_,h.nh,h.small⟩;{intro t x p;rw [h.aC t x p];exact SV.cg λs c=>by{have ⟨b',f⟩:=h.Ew t x p s c;exact (hβ s b' f).symm}};{intro t x p s c;have ⟨b',f⟩:=h.Ew t x p s c;grind [aj]};{grind [aj,h.Ev]};{intro s b' c l;rw [aj] at c;split at c;{rename_i e;simp only [ą] at c;rw [e,bg,hw,<-c];grind [a_.dJ]};rw [hβ s b' c,Z _ (v s b' c l) (M s b' c l),h.boxes s b' c l];grind [a_.dJ,h.Ev]};{intro s y z A j E k F he;rw [aj] at j k;split at j<;>split at k;{rename_i q r;rw [q,r]};{rename_i q r;rw [q,bg,hβ y A k] at he;exact Å he.symm (M y A k F)};{rename_i q r;rw [r,bg,hβ s z j] at he;exact Å he (M s z j E)};grind [h.inj]};{grind [h.tP]};{intro s b' c l o m;rw [aj] at c;split at c;{rename_i e;rw [e,bg] at m;exact O o m};grind [h.Ak]};{refine ⟨Ā h.ext.size hsz,λi G H=>?_,hos.m h.ext.os,ht.m h.ext.tape,hout.m h.ext.out,Ā h.ext.dr hdr⟩<;>grind [h.nh,h.ext.aX]};{intro s b' c l;rw [aj] at c;split at c;{rename_i e;rw [e,bg];exact hown};rw [hβ s b' c];exact h.own s b' c l};intro s c;have ⟨j,k⟩:=h.oP s c;grind [i_,h.small]
theorem F2 {t t' e y:TypeId}{ty:TypeId}(z:P.underlying t=some (.slice e))(Kx:P.underlying t'=some (.slice y))(b u:OA)(m c k xc:Nat):(Builtin.append_ #[t,t'] ty #[.slice b m c,.slice u k xc]).run P w=(Builtin.append_ #[t,t] ty #[.slice b m c,.slice u k xc]).run P w:=by simp [Builtin.append_,ai z,ai Kx]
theorem BH {t e:TypeId}{ty:TypeId}{info:TypeInfo}(u:P.underlying t=some (.slice e))(hi:P.info? e=some info)(base:OA)(m c y:Nat)(z:m<=c):(Builtin.append_ #[t,t] ty #[.slice base m c,.slice none 0 y]).run P w=.ok (.slice base m c) w:=by cases base<;>simp [Builtin.append_,ai u,aT hi,Builtin.lenOf,Builtin.firstCells,storeCells,z]
def qP (y:à n V0 bQ β0 st β a w V){s:Nat}{vs:zA un}{ty:TypeId}(h:gG st.boxes s=some vs)(u:nU st.boxes s=some ty):w.heap[β s]?=some (.cells vs.toArray ty (0,0))/\∃b,st.boxes s=some b/\b.live:=by unfold gG at h;unfold nU at u;split at h;{rename_i cs d c;rw [c] at u;simp only [ą] at u;subst u;have:=y.row c dP;grind [ë.den,gR,dP]};{rename_i ws d c;rw [c] at u;simp only [ą,ą] at u h;subst u;subst h;exact ⟨y.row c dQ,_,c,dQ⟩};cases h
def MW {bx:Nat->Option a_}{s:Nat}{vs:zA un}(h:gG bx s=some vs):∃ty,nU bx s=some ty:=by unfold gG at h;unfold nU;split at h;{rename_i a;rw [a];exact ⟨_,rfl⟩};{rename_i a;rw [a];exact ⟨_,rfl⟩};cases h
theorem Ds (u:à n V0 bQ β0 st β a w V){ad:Addr}{xs:zA un}(h:V.sl (some ad) xs):∀j v,xs[j]?=some v->w.cell? (ad.add j)=some v:=by intro j v b;have ⟨c,e,d⟩:=h j v b;grind [u.atV]
def Src (w:World)(u:OA)(k size:Nat)(xs:List Value):Prop:=
 xs.length=k*size/\(∀v∈xs,v.oneCell'=true)/\((∃ad,u=some ad/\∀j v,xs[j]?=some v->w.cell? (ad.add j)=some v)\/u=none/\k=0)
def SL {t e ty:TypeId}{info:TypeInfo}(E:P.underlying t=some (.slice e))(hi:P.info? e=some info){g m c k xc:Nat}{vs xs:zA un}{y:OA}(z:w.heap[g]?=some (.cells vs.toArray e (0,0)))(u:Src w y k info.size xs)(D:m+k<=c)(F:c*info.size<=vs.length):∃w',(Builtin.append_ #[t,t] ty #[.slice (some ⟨g,0,none⟩) m c,.slice y k xc]).run P w=.ok (.slice (some ⟨g,0,none⟩) (m+k) c) w'/\w'.heap=w.heap.setIfInBounds g (.cells (vs.take (m*info.size)++xs++vs.drop (m*info.size+xs.length)).toArray e (0,0))/\w'.os=w.os/\w'.tape=w.tape/\w'.output=w.output/\w.drawn<=w'.drawn:=by obtain ⟨d,f,u⟩:=u;rcases u with ⟨h,rfl,a⟩|⟨rfl,rfl⟩;{have b:m*info.size+xs.length<=vs.length:=by{rw [d,<-ĕ];exact Ā (ć _ D) F};exact ⟨_,(run_append_room (P:=P) w t ty e info E hi g m c vs.toArray z h k xc xs d a f D (by simpa using b)),by rw [mr z],rfl,rfl,rfl,Ú _⟩};grind [BH,List.take_append_drop]
def F0 {t e ty:TypeId}{info:TypeInfo}{z:un}(E:P.underlying t=some (.slice e))(hi:P.info? e=some info)(F:info.zero=some z)(hzs:z.cells.size=info.size){m c k xc:Nat}{olds xs:zA un}{base M:OA}(hbase:(∃b,base=some b/\olds.length=m*info.size/\∀j v,olds[j]?=some v->w.cell? (b.add j)=some v)\/base=none/\m=0/\c=0/\olds=[])(u:Src w M k info.size xs)(y:c<m+k)(O:(m+k)*info.bytes<=2^47)(Z:info.bytes≠0)(hmc:m<=c):∃(D:Nat)(rest:zA un)(w':World),m+k<=D/\(m+k)*info.size+rest.length=D*info.size/\w'.heap=w.heap/\w'.os=w.os/\w'.tape=w.tape/\w'.output=w.output/\w.drawn<=w'.drawn/\(Builtin.append_ #[t,t] ty #[.slice base m c,.slice M k xc]).run P w=.ok (.slice (some ⟨w.heap.size,0,none⟩) (m+k) D) (w'.alloc (.cells (olds++xs++rest).toArray e)):=by obtain ⟨g,n,u⟩:=u;have f:(m+k:Nat)<=2^47:=by{have:(m+k)*1<=(m+k)*info.bytes:=Ő _ ω;omega};have a:∀N,(m+k)<=N->(m+k)*info.size+(Builtin.zeroCells z.cells (N-(m+k))).toList.length=N*info.size:=by{intro N o;rw [Wx1,size_zeroCells,hzs,<-ĕ];congr 1;omega};rcases u with ⟨h,rfl,d⟩|⟨rfl,rfl⟩;{rcases hbase with ⟨b,rfl,i,hold⟩|⟨rfl,rfl,rfl,rfl⟩;{have l:=run_append_grow (P:=P) w t ty e info z E hi F b m c olds i hold h k xc xs g d y ω (growslice_fits y O);refine ⟨_,(Builtin.zeroCells z.cells (grownCap w (m+k) c e-(m+k))).toList,w.drew,grownCap_ge w (m+k) c e,a _ (grownCap_ge w (m+k) c e),rfl,rfl,rfl,rfl,Ww8 _,?_⟩;rw [l];congr 3;apply ņ;simp};simp only [č] at y O f a ⊢;refine ⟨_,(Builtin.zeroCells z.cells (grownCap w k 0 e-k)).toList,w.drew,grownCap_ge w k 0 e,a _ (grownCap_ge w k 0 e),rfl,rfl,rfl,rfl,Ww8 _,?_⟩;rw [(run_append_nil (P:=P) w t ty e info z E hi F h k xc xs g d ω ω ω)];congr 3;apply ņ;simp};omega
def Ie {s d n:Nat}(u:d<n):uo s d<n\/200000<=uo s d:=by unfold uo;grind
theorem PH {s d:Nat}(u:100000<=s):100000<=uo s d:=by unfold uo;have:Nat.blt s 100000=false:=by{(cases h:Nat.blt s 100000 with|false=>rfl|true=>{have:=Ş h;omega})};grind
def JJ (hM:à n V0 bQ β0 st β a w V){d:Nat}(hd:d<n){t e ty:TypeId}{info:TypeInfo}{z:un}(ht:P.underlying t=some (.slice e))(hi:P.info? e=some info)(hz:info.zero=some z)(hzs:z.cells.size=info.size)(hb0:info.bytes≠0){s:Nat}{vs xs:zA un}{m c k xc:Nat}{base xa:OA}(hbase:(base=some ⟨β s,0,none⟩/\w.heap[β s]?=some (.cells vs.toArray e (0,0))/\∃b,st.boxes s=some b/\b.live)\/(base=none/\m=0/\c=0/\k≠0))(hx:Src w xa k info.size xs)(hb:(m+k)*info.bytes<=2^47)(hmc:m<=c)(hcv:c*info.size<=vs.length)(hxl:xs.length=k*info.size)(hnb:st.boxes (uo s d)=none):∃(spare:zA un)(Z g:Nat)(w':World),m+k<=Z/\Z*info.size<=(m+k)*info.size+spare.length/\((c≠0\/k≠0)->Z≠0)/\(Builtin.append_ #[t,t] ty #[.slice base m c,.slice xa k xc]).run P w=.ok (.slice (some ⟨g,0,none⟩) (m+k) Z) w'/\∀bx:a_,(bx=⟨.row (vs.take (m*info.size)++xs++spare),e⟩\/bx=⟨.aF (vs.take (m*info.size)++xs++spare),e⟩) ->à n V0 bQ β0 ((st.box s ⟨.aF [],e⟩).box (uo s d) bx) (cK β (uo s d) g) a w' V:=by
 have y:à n V0 bQ β0 (st.box s ⟨.aF [],e⟩) β a w V:=hM.void
 have C:∀bx:a_,∀l:zA un,(bx=⟨.row l,e⟩\/bx=⟨.aF l,e⟩)->bx.cs.ids=[]/\bx.obj β=.cells l.toArray e (0,0):=by rintro bx l (rfl|rfl)<;>exact ⟨rfl,rfl⟩
 have I:∀t b,(st.box s ⟨.aF [],e⟩).boxes t=some b->b.live->st.boxes t=some b/\t≠s:=by grind [aj,fY]
 have J:(∃b,st.boxes s=some b/\b.live)\/True->(s≠uo s d\/st.boxes s=none)->(st.box s ⟨.aF [],e⟩).boxes (uo s d)=none\/s=uo s d:=by grind [aj]
 have h:c<m+k->((∃b,base=some b/\(vs.take (m*info.size)).length=m*info.size/\∀j v,(vs.take (m*info.size))[j]?=some v->w.cell? (b.add j)=some v)\/base=none/\m=0/\c=0/\vs.take (m*info.size)=[]) ->
   (s=uo s d->st.boxes s=none) ->
   ∃(spare:zA un)(Z g:Nat)(w':World),m+k<=Z/\Z*info.size<=(m+k)*info.size+spare.length/\((c≠0\/k≠0)->Z≠0) /\
   (Builtin.append_ #[t,t] ty #[.slice base m c,.slice xa k xc]).run P w=.ok (.slice (some ⟨g,0,none⟩) (m+k) Z) w' /\
   ∀bx:a_,(bx=⟨.row (vs.take (m*info.size)++xs++spare),e⟩\/bx=⟨.aF (vs.take (m*info.size)++xs++spare),e⟩) ->
    à n V0 bQ β0 ((st.box s ⟨.aF [],e⟩).box (uo s d) bx) (cK β (uo s d) g) a w' V:=by
  intro D hold K;have ⟨Z,rest,w',L,U,B,F,p,q,r,M⟩:=F0 (ty:=ty) (xc:=xc) ht hi hz hzs hold hx D hb hb0 hmc;refine ⟨rest,Z,w.heap.size,_,L,by rw [<-U];exact Ú _,ω,M,?_⟩;intro bx f;have ⟨G,H⟩:=C bx _ f;have u:w'.heap.size=w.heap.size:=by rw [B]
  by_cases W:s=uo s d
  ·have X:(st.box s ⟨.aF [],e⟩).box (uo s d) bx=st.box (uo s d) bx:=by{grind [St.box]};rw [X];refine hM.kE (Ie hd) hnb G ?_ ?_ (.inl hM.ext.size) ?_ ?_ ?_ F p q r;{intro N O f l he;have:=aJ (hM.boxes N O f l);omega};{intro o f;have:=aJ (hM.tP _ o f).1;omega};{rw [H,<-u];exact heap_alloc_new _ _};{intro i Q _;rw [fG _ _ ω,B]};simp [u]
  ·refine y.kE (Ie hd) (by rw [aj,Ã (Ne.symm W)];exact hnb) G ?_ ?_ (.inl hM.ext.size) ?_ ?_ ?_ F p q r;{intro N O f l he;have:=aJ (y.boxes N O f l);omega};{intro o f;have:=aJ (hM.tP _ o f).1;omega};{rw [H,<-u];exact heap_alloc_new _ _};{intro i Q _;rw [fG _ _ ω,B]};simp [u]
 rcases hbase with ⟨rfl,R,S,A,E⟩|⟨rfl,rfl,rfl,Y⟩
 ·have x:s≠uo s d:=λe=>by{rw [<-e,A] at hnb;cases hnb};by_cases D:m+k<=c;{have ⟨w',M,B,F,p,q,r⟩:=SL (ty:=ty) (xc:=xc) ht hi R hx D hcv;have T:m*info.size+xs.length<=vs.length:=by{rw [hxl,<-ĕ];exact Ā (ć _ D) hcv};refine ⟨vs.drop (m*info.size+xs.length),c,β s,w',D,by rw [į,hxl,ĕ];omega,ω,M,?_⟩;intro bx f;have ⟨G,H⟩:=C bx _ f;refine y.kE (Ie hd) (by rw [aj,Ã (Ne.symm x)];exact hnb) G ?_ (hM.Ak s S A E) ?_ ?_ ?_ (by rw [B];simp) F p q r;{grind [hM.inj]};{rcases hM.own s S A E with L|L<;>grind [PH]};{rw [B,Array.getElem?_setIfInBounds,Ä rfl,Ä (aJ R),H]};grind};refine h ω (.inl ⟨⟨β s,0,none⟩,rfl,?_,?_⟩) (λe=>Å e x);{rw [ì,Ħ];exact Ā (ć _ hmc) hcv};grind [g_,cell_of_row]
 ·refine h ω (.inr ⟨rfl,rfl,rfl,ψ⟩) (λe=>by rw [e];exact hnb)
def BI (N:à n V0 bQ β0 st β a w V){K:St->ut->Prop}{d:Nat}(F:d<n){t e ty:TypeId}{info:TypeInfo}{z:un}(O:P.underlying t=some (.slice e))(hi:P.info? e=some info)(Z:info.zero=some z)(hzs:z.cells.size=info.size)(E:info.bytes≠0){s:Nat}{vs xs:zA un}{m c k xc:Nat}{M:OA}(hg:w.heap[β s]?=some (.cells vs.toArray e (0,0)))(hbb:∃b,st.boxes s=some b/\b.live)(hx:Src w M k info.size xs)(h:JH s vs m c info.size info.bytes e d st V K k xs):∃v w' D β',(Builtin.append_ #[t,t] ty #[.slice (some ⟨β s,0,none⟩) m c,.slice M k xc]).run P w=.ok v w'/\à n V0 bQ β0 D β' (a.put (some d) v) w' V/\K D V:=by obtain ⟨q,f,i,j,r,h⟩:=h;split at h;{exact h.elim};rename_i l;obtain ⟨spare,p,g,w',u,y,-,A,o⟩:=JJ (ty:=ty) (xc:=xc) N F O hi Z hzs E (.inl ⟨rfl,hg,hbb⟩) hx q f i j l;refine ⟨_,w',_,_,A,(o _ (.inl rfl)).put (x:=.c (.nG (uo s d) 0 (m+k) p)) F ?_ ?_,h 0 (λ_=>.bool true) spare p u y⟩<;>grind [SV.den,C.den,bg,SV.ids,C.ids,aj]
def CP (hM:à n V0 bQ β0 st β a w V){K:St->ut->Prop}{d:Nat}(hd:d<n){t e ty:TypeId}{info:TypeInfo}{z:un}(ht:P.underlying t=some (.slice e))(hi:P.info? e=some info)(hz:info.zero=some z)(hzs:z.cells.size=info.size)(hb0:info.bytes≠0)(hs0:info.size≠0){s:Nat}{vs xs:zA un}{m c k xc:Nat}{xa:OA}(hbb:st.boxes s=some ⟨.aF vs,e⟩)(hx:Src w xa k info.size xs)(h:zN s vs m c info.size info.bytes e d st V K k xs):∃v w' Z β',(Builtin.append_ #[t,t] ty #[.slice (mA (β s) c) m c,.slice xa k xc]).run P w=.ok v w'/\à n V0 bQ β0 Z β' (a.put (some d) v) w' V/\K Z V:=by
 obtain ⟨F,o,p,i,G,h⟩:=h;split at h
 ·exact h.elim
 ·rename_i q
  have fin:((mA (β s) c=some ⟨β s,0,none⟩/\w.heap[β s]?=some (.cells vs.toArray e (0,0))/\∃b,st.boxes s=some b/\b.live)\/(mA (β s) c=none/\m=0/\c=0/\k≠0))->(c≠0\/k≠0) ->
    ∃v w' Z β',(Builtin.append_ #[t,t] ty #[.slice (mA (β s) c) m c,.slice xa k xc]).run P w=.ok v w'/\à n V0 bQ β0 Z β' (a.put (some d) v) w' V/\K Z V:=by
   intro f r;have ⟨spare,D,g,w',H,I,J,L,u⟩:=JJ (ty:=ty) (xc:=xc) hM hd ht hi hz hzs hb0 f hx F o p i q;refine ⟨_,w',_,_,L,(u _ (.inr rfl)).put (x:=.c (.dT (uo s d) (m+k) D)) hd ?_ ?_,h spare D H I⟩
   ·simp [SV.den,C.den,bg,mA,J r]
   ·grind [SV.ids,C.ids,aj]
  by_cases j:c=0
  ·have hm:m=0:=ω;by_cases y:k=0;{subst j hm y;have E:=h [] 0 ω ψ;have A:=Ĥ.1 (by simpa using i);subst A;have M:vs.take (0*info.size)++[]++[]=([]:zA un):=ψ;rw [M] at E;have B:à n V0 bQ β0 ((st.box s ⟨.aF [],e⟩).box (uo s d) ⟨.aF [],e⟩) β a w V:=hM.void.void;refine ⟨.slice none 0 0,w,_,_,?_,B.put (x:=.c (.dT (uo s d) 0 0)) hd ?_ ?_,E⟩;{have N:mA (β s) 0=none:=rfl;rw [N];(cases xa with|none=>{exact BH ht hi none 0 0 xc ω}|some ad=>simp [Builtin.append_,ai ht,aT hi,Builtin.lenOf,Builtin.firstCells,loadCells,loadCellsFrom])};{simp [SV.den,C.den,mA]};grind [SV.ids,C.ids,aj]};exact fin (.inr ⟨by rw [j];rfl,hm,j,y⟩) (.inr y)
  ·have l:a_.live ⟨.aF vs,e⟩:=gN λO=>by{grind [Nat.mul_eq_zero.1]};exact fin (.inl ⟨by simp [mA,j],hM.row hbb l,_,hbb,l⟩) (.inl j)
def BJ (hM:à n V0 bQ β0 st β a w V){K:St->ut->Prop}{d:Nat}(hd:d<n){t e ty:TypeId}{info:TypeInfo}{z:un}(ht:P.underlying t=some (.slice e))(hi:P.info? e=some info)(hz:info.zero=some z)(hzs:z.cells.size=info.size)(hb0:info.bytes≠0){vs xs:zA un}{m c k xc:Nat}{xa ba:OA}(hsl:V.sl ba vs)(hvl:vs.length=m*info.size)(hmc:m<=c)(hn0:ba.isNone=true->c=0)(hs0:info.size≠0)(hx:Src w xa k info.size xs)(h:JI vs m c info.size info.bytes e d st V K k xs):∃v w' Z β',(Builtin.append_ #[t,t] ty #[.slice ba m c,.slice xa k xc]).run P w=.ok v w'/\à n V0 bQ β0 Z β' (a.put (some d) v) w' V/\K Z V:=by
 obtain ⟨F,s,G,H,h⟩:=h;have f:(∃b,ba=some b/\vs.length=m*info.size/\∀j v,vs[j]?=some v->w.cell? (b.add j)=some v)\/ba=none/\m=0/\c=0/\vs=[]:=by cases ba<;>grind [Ds,List.length_eq_zero_iff.1]
 have ⟨D,rest,w',I,J,E,L,u,y,A,M⟩:=F0 (ty:=ty) (xc:=xc) (base:=ba) (olds:=vs) ht hi hz hzs f hx s F hb0 hmc;split at h
 ·exact h.elim
 ·rename_i N;have q:w'.heap.size=w.heap.size:=by rw [E]
  have B:=à.kE hM (d:=d) (g:=w.heap.size) (b:=⟨.row (vs++xs++rest),e⟩) (w':=w'.alloc (.cells (vs++xs++rest).toArray e)) (.inl hd) N rfl
   (by
    intro O Q p l he;have:=aJ (hM.boxes O Q p l);omega)
   (by intro o p;have:=aJ (hM.tP _ o p).1;omega) (.inl hM.ext.size)
   (by rw [<-q];exact heap_alloc_new _ _)
   (by intro i R _;rw [fG _ _ ω,E])
   (by simp [q]) L u y A
  refine ⟨_,_,_,_,M,B.put (x:=.c (.nG d 0 (m+k) D)) hd ?_ ?_,(h rest D I (by rw [<-J];exact Ú _))⟩
  ·simp [SV.den,C.den,bg]
  ·intro S r;simp [SV.ids,C.ids] at r;subst r;exact ⟨_,by rw [aj,Ä rfl]⟩
theorem zR (ws:zA un)(o n:Nat):(aw ws o n).length=n:=by unfold aw;(cases h:Nat.ble (o+n) ws.length with|true=>{have:=Ş h;grind}|false=>simp)
def zQ {ws:zA un}{o n:Nat}(u:∀v∈aw ws o n,v.oneCell'=true){j:Nat}{v:un}(y:(aw ws o n)[j]?=some v):ws[o+j]?=some v:=by unfold aw at u y;(cases h:Nat.ble (o+n) ws.length with|true=>grind|false=>{rw [h] at y u;simp only [cond_false] at y u;have hm:=Qb7 y;have:=u v hm;rw [Qs3 hm] at this;cases this})
def Qj (z:à n V0 bQ β0 st β a w V){u:TI}{info:TypeInfo}(D:u.size=info.size){s o k xc:Nat}{src:OA×Nat ⊕ zA un}(hsrc:(match st.boxes s with
    | some ⟨.row ws,_⟩=>some (.inr (aw ws o (k*u.size)))
    | _=>match gG st.boxes s with
     | some ws=>if Nat.ble (o+k*u.size) ws.length then some (.inr ((ws.drop o).take (k*u.size))) else none
     | none=>none)=some src) :
  ∃y k' E,(SV.c (.nG s o k xc)).den β=.slice y k' E/\((src=.inl (y,k'))\/∃xs,src=.inr xs/\xs.length=k'*info.size/\∃ad,y=some ad/\((∀v∈xs,v.oneCell'=true)->∀j v,xs[j]?=some v->w.cell? (ad.add j)=some v)):=by split at hsrc;{rename_i ws ty e;simp only [ą] at hsrc;subst hsrc;have b:gG st.boxes s=some ws:=by{unfold gG;rw [e]};have d:nU st.boxes s=some ty:=by{unfold nU;rw [e]};obtain ⟨f,-⟩:=qP z b d;refine ⟨_,k,xc,rfl,.inr ⟨_,rfl,?_,⟨β s,o,none⟩,rfl,?_⟩⟩;{rw [zR,<-D]};intro g j v h;rw [g_,cell_of_row f];exact zQ g h};split at hsrc;{rename_i ws b;split at hsrc;{rename_i hle;have hle:=Ş hle;simp only [ą] at hsrc;subst hsrc;have ⟨i,d⟩:=MW b;obtain ⟨f,-⟩:=qP z b d;refine ⟨_,k,xc,rfl,.inr ⟨_,rfl,?_,⟨β s,o,none⟩,rfl,?_⟩⟩<;>grind [g_,cell_of_row]};cases hsrc};cases hsrc
def LG {y:un}{src:OA×Nat ⊕ zA un}{sz:Nat}(h:∃u k' z,y=.slice u k' z/\((src=.inl (u,k'))\/∃xs,src=.inr xs/\xs.length=k'*sz/\∃ad,u=some ad/\((∀v∈xs,v.oneCell'=true)->∀j v,xs[j]?=some v->w.cell? (ad.add j)=some v))):∃u k xc,y=.slice u k xc/\((src=.inl (u,k))\/∃xs,src=.inr xs/\xs.length=k*sz/\((∀v∈xs,v.oneCell'=true)->(∃ad,u=some ad/\∀j v,xs[j]?=some v->w.cell? (ad.add j)=some v)\/(u=none/\k=0))):=by obtain ⟨u,k,xc,e,h⟩:=h;refine ⟨u,k,xc,e,h.imp id ?_⟩;rintro ⟨xs,a,b,ad,c,d⟩;exact ⟨xs,a,b,λf=>.inl ⟨ad,c,d f⟩⟩
def LD (z:à n V0 bQ β0 st β a w V){u:TI}{info:TypeInfo}(F:u.size=info.size)(D:¬u.size=0){s k xc:Nat}{src:OA×Nat ⊕ zA un}(hsrc:(match st.boxes s with
    | some ⟨.aF ws,_⟩=>some (.inr (rV ws k xc u.size))
    | _=>none)=some src) :
  ∃y k' E,(SV.c (.dT s k xc)).den β=.slice y k' E/\((src=.inl (y,k'))\/∃xs,src=.inr xs/\xs.length=k'*info.size/\((∀v∈xs,v.oneCell'=true)->(∃ad,y=some ad/\∀j v,xs[j]?=some v->w.cell? (ad.add j)=some v)\/(y=none/\k'=0))):=by split at hsrc;{rename_i ws ty g;simp only [ą] at hsrc;subst hsrc;refine ⟨_,k,xc,rfl,.inr ⟨_,rfl,?_,λb=>?_⟩⟩;{unfold rV;grind [zR]};unfold rV at b ⊢;by_cases m:xc=0;{subst m;(cases k with|zero=>exact .inr ⟨rfl,rfl⟩|succ k=>{have d:Nat.ble (k+1) 0=false:=rfl;rw [d,cond_false] at b;have:(Value.agg #[])∈List.replicate ((k+1)*u.size) (Value.agg #[]):=List.mem_replicate.2 ⟨Ņ ω D,rfl⟩;have:=b _ this;cases this})};left;obtain ⟨h,rfl⟩:∃h,xc=h+1:=⟨xc-1,ω⟩;refine ⟨⟨β s,0,none⟩,rfl,λj v f=>?_⟩;(cases d:Nat.ble k (h+1) with|false=>{rw [d,cond_false] at b f;have hm:=Qb7 f;have:=b v hm;rw [Qs3 hm] at this;cases this}|true=>{rw [d,cond_true] at b f;have i:=zQ b f;have l:ws≠[]:=λe=>by{rw [e] at i;simp at i};rw [g_,cell_of_row (z.boxes s _ g (gN l))];exact i})};cases hsrc
def Iw (Z:à n V0 bQ β0 st β a w V){e:TypeId}{M:TI}{info:TypeInfo}{z:un}(O:M.size=info.size)(e6:M.bytes=info.bytes)(e7:M.zero=z.cells.toList.map C.ofConst){b x:SV}{old:Option Nat}{ba:OA}{vs:zA un}{m c:Nat}{src:OA×Nat ⊕ zA un}{size bytes:Nat}{ty:TypeId}(h:c_ st.boxes e M b x=.app old ba vs m c src size bytes ty):size=info.size/\bytes=info.bytes/\ty=e/\info.bytes≠0/\info.size≠0/\z.cells.size=info.size/\(∃base,b.den β=.slice base m c/\((∃s,old=some s/\base=some ⟨β s,0,none⟩/\w.heap[β s]?=some (.cells vs.toArray e (0,0))/\∃b,st.boxes s=some b/\b.live)\/old=none/\base=ba))/\∃N k xc,x.den β=.slice N k xc/\((src=.inl (N,k))\/∃xs,src=.inr xs/\xs.length=k*info.size/\((∀v∈xs,v.oneCell'=true)->(∃ad,N=some ad/\∀j v,xs[j]?=some v->w.cell? (ad.add j)=some v)\/(N=none/\k=0))):=by unfold c_ at h;split at h;{cases h};rename_i t l;split at h;{cases h};rename_i f;simp only [Qp4,beq_eq,Qd5,not_or] at f;obtain ⟨⟨u,q⟩,r⟩:=f;have r:M.size=t.length:=by{grind [beq_eq.1]};obtain ⟨y,-⟩:=gi (β:=β) e7;obtain ⟨d1,-⟩:=gR (β:=β) l;have g:z.cells.size=info.size:=by{rw [<-y,d1];simp [<-r,O]};dsimp only at h;split at h;{cases h};rename_i i d;have p:(i=src/\M.size=size/\M.bytes=bytes/\e=ty)/\∃base,b.den β=.slice base m c/\((∃s,old=some s/\base=some ⟨β s,0,none⟩/\w.heap[β s]?=some (.cells vs.toArray e (0,0))/\∃b,st.boxes s=some b/\b.live)\/old=none/\base=ba):=by{split at h;{simp only [Q.app.injEq] at h;obtain ⟨rfl,rfl,rfl,rfl,rfl,rfl,rfl,rfl,rfl⟩:=h;exact ⟨⟨rfl,rfl,rfl,rfl⟩,_,rfl,.inr ⟨rfl,rfl⟩⟩};{rename_i s H I;split at h;{rename_i A B D E;split at h;{rename_i he;obtain rfl:=beq_eq.1 he;simp only [Q.app.injEq] at h;obtain ⟨rfl,rfl,rfl,rfl,rfl,rfl,rfl,rfl,rfl⟩:=h;have ⟨F,G⟩:=qP Z D E;exact ⟨⟨rfl,rfl,rfl,rfl⟩,_,rfl,.inl ⟨s,rfl,rfl,F,G⟩⟩};cases h};cases h};{split at h<;>grind};cases h};obtain ⟨⟨rfl,rfl,rfl,rfl⟩,p⟩:=p;refine ⟨O,e6,rfl,by rw [<-e6];exact u,by rw [<-O];exact q,g,p,?_⟩;split at d;{rename_i N k xc;simp only [ą] at d;subst d;exact ⟨N,k,xc,rfl,.inl rfl⟩};{rename_i s o k xc;exact LG (Qj Z O d)};{rename_i s k xc;exact LD Z O q d};cases d
def EZ (Z:à n V0 bQ β0 st β a w V){e:TypeId}{M:TI}{info:TypeInfo}{z:un}(O:M.size=info.size)(e6:M.bytes=info.bytes)(e7:M.zero=z.cells.toList.map C.ofConst){b x:SV}{s:Nat}{vs:zA un}{m c:Nat}{src:OA×Nat ⊕ zA un}{size bytes:Nat}{ty:TypeId}(h:c_ st.boxes e M b x=.yJ s vs m c src size bytes ty):size=info.size/\bytes=info.bytes/\ty=e/\info.bytes≠0/\info.size≠0/\z.cells.size=info.size/\(b.den β=.slice (mA (β s) c) m c/\st.boxes s=some ⟨.aF vs,e⟩)/\∃N k xc,x.den β=.slice N k xc/\((src=.inl (N,k))\/∃xs,src=.inr xs/\xs.length=k*info.size/\((∀v∈xs,v.oneCell'=true)->(∃ad,N=some ad/\∀j v,xs[j]?=some v->w.cell? (ad.add j)=some v)\/(N=none/\k=0))):=by unfold c_ at h;split at h;{cases h};rename_i t l;split at h;{cases h};rename_i f;simp only [Qp4,beq_eq,Qd5,not_or] at f;obtain ⟨⟨u,q⟩,r⟩:=f;have r:M.size=t.length:=by{grind [beq_eq.1]};obtain ⟨y,-⟩:=gi (β:=β) e7;obtain ⟨d1,-⟩:=gR (β:=β) l;have g:z.cells.size=info.size:=by{rw [<-y,d1];simp [<-r,O]};dsimp only at h;split at h;{cases h};rename_i i d;have p:(i=src/\M.size=size/\M.bytes=bytes/\e=ty)/\b.den β=.slice (mA (β s) c) m c/\st.boxes s=some ⟨.aF vs,e⟩:=by{split at h;{cases h};{split at h<;>grind};{rename_i E F G;split at h;{rename_i A B D;split at h;{rename_i he;obtain rfl:=beq_eq.1 he;simp only [Q.yJ.injEq] at h;obtain ⟨rfl,rfl,rfl,rfl,rfl,rfl,rfl,rfl⟩:=h;exact ⟨⟨rfl,rfl,rfl,rfl⟩,rfl,D⟩};cases h};cases h};cases h};obtain ⟨⟨rfl,rfl,rfl,rfl⟩,p⟩:=p;refine ⟨O,e6,rfl,by rw [<-e6];exact u,by rw [<-O];exact q,g,p,?_⟩;split at d;{rename_i N k xc;simp only [ą] at d;subst d;exact ⟨N,k,xc,rfl,.inl rfl⟩};{rename_i s o k xc;exact LG (Qj Z O d)};{rename_i s k xc;exact LD Z O q d};cases d
theorem RO (hT:eA.ok P T)(hM:à n V0 bQ β0 st β a w V){o:Oper}{K:St->ut->Prop}{d:Nat}(hd:d<n){old:Option Nat}{ba:OA}{vs:zA un}{m c:Nat}{src:OA×Nat ⊕ zA un}{size bytes:Nat}{ty:TypeId}(h:aU T st.bN st.boxes o.op=.app old ba vs m c src size bytes ty)(hv:At (.app old ba vs m c src size bytes ty) (some d) st V K):∃v w' st' β',(execOp a.eval o).run P w=.ok (.value v) w'/\à n V0 bQ β0 st' β' (a.put (some d) v) w' V/\K st' V:=by
 obtain ⟨cl,L,wC⟩:=(iH (T:=T) (ρ:=st.bN) (bx:=st.boxes) (op:=o.op)).2.2 (by rw [h];rfl);rw [L] at h;simp only [aU,wC] at h;split at h
 ·rename_i b x t t' E Y;split at h
  ·rename_i i i' hi Z;split at h
   ·rename_i e e' hk M;split at h
    ·rename_i ei Ku;obtain ⟨Zm,d0,z0,h1,I,h3,h4,-⟩:=aN (hT _ _ hi);obtain ⟨U,a3,a4,a5,a6,a7,a0,-⟩:=aN (hT _ _ Z);have ⟨info,de,z,J,e2,W,e4,e5,e6,e7⟩:=aN (hT _ _ Ku);rw [h4] at hk;rw [a0] at M;obtain rfl:=bu hk;obtain rfl:=bu M;obtain ⟨rfl,rfl,rfl,l,N,p,⟨base,a8,hold⟩,F,k,xc,a9,C⟩:=Iw hM e5 e6 e7 h;have ⟨q1,q2⟩:=iG hM _ _ E;have f1:cl.argTypes=#[t,t']:=by apply ņ;exact Y
     have f2:cl.args.map a.eval=#[.slice base m c,.slice F k xc]:=χ
     have O:∀{v w'},(Builtin.append_ #[t,t] o.type #[.slice base m c,.slice F k xc]).run P w=.ok v w'->(execOp a.eval o).run P w=.ok (.value v) w':=by intro v w' hr;simp only [execOp,L,resolve,wC,pure_bind,invoke,f1,f2,builtin];grind [fL,F2]
     have fin:∀{v w' st' β'},(Builtin.append_ #[t,t] o.type #[.slice base m c,.slice F k xc]).run P w=.ok v w'->à n V0 bQ β0 st' β' (a.put (some d) v) w' V->K st' V ->
       ∃v w' st' β',(execOp a.eval o).run P w=.ok (.value v) w'/\à n V0 bQ β0 st' β' (a.put (some d) v) w' V/\K st' V:=λq u A=>⟨_,_,_,_,O q,u,A⟩
     have Yy:∀xs,V.sl F xs->xs.length=k*info.size->(∀v∈xs,v.oneCell'=true)->Src w F k info.size xs:=by intro xs j f h1;refine ⟨f,h1,?_⟩;(cases F with|some ad=>exact .inl ⟨ad,rfl,Ds hM j⟩|none=>{refine .inr ⟨rfl,?_⟩;have:xs=[]:=by{(cases xs with|nil=>rfl|cons y r=>{obtain ⟨ad,e,-⟩:=j 0 y ψ;cases e})};grind [Nat.mul_eq_zero.1]})
     rcases hold with ⟨s,rfl,rfl,hg,Q⟩|⟨rfl,rfl⟩
     ·rcases C with rfl|⟨xs,rfl,f,g⟩;{obtain ⟨xs,j,f,hv⟩:=hv;have ⟨v,w',st',β',q,u,A⟩:=BI (ty:=o.type) (xc:=xc) hM hd I J W p l hg Q (Yy xs j f hv.2.2.2.2.1) hv;exact fin q u A};have G:xs.length/info.size=k:=by{rw [f];exact Qf9 _ ω};simp only [At,G] at hv;have ⟨v,w',st',β',q,u,A⟩:=BI (ty:=o.type) (xc:=xc) hM hd I J W p l hg Q ⟨f,hv.2.2.2.2.1,g hv.2.2.2.2.1⟩ hv;exact fin q u A
     ·obtain ⟨vs,D,R,B,S,hv⟩:=hv;rcases C with rfl|⟨xs,rfl,f,g⟩;{obtain ⟨xs,j,f,a1,a2⟩:=hv;by_cases H:k=0;{have X:=a1 H;subst H;refine fin (v:=.slice base m c) (w':=w) ?_ (hM.put (x:=.c (.v (.slice base m c))) hd rfl (λs hs=>by cases hs)) X;(cases F with|none=>exact BH I J base m c xc B|some ad=>{cases base<;>simp [Builtin.append_,ai I,aT J,Builtin.lenOf,Builtin.firstCells,loadCells,loadCellsFrom,storeCells,B]})};have X:=a2 H;have ⟨v,w',st',β',q,u,A⟩:=BJ (ty:=o.type) (xc:=xc) hM hd I J W p l D R B S N (Yy xs j f X.2.2.2.1) X;exact fin q u A};have G:xs.length/info.size=k:=by{rw [f];exact Qf9 _ ω};dsimp only at hv;rw [G] at hv;have ⟨v,w',st',β',q,u,A⟩:=BJ (ty:=o.type) (xc:=xc) hM hd I J W p l D R B S N ⟨f,hv.2.2.2.1,g hv.2.2.2.1⟩ hv;exact fin q u A
    ·cases h
   ·cases h
  ·cases h
 ·cases h
theorem N6 (hT:eA.ok P T)(hM:à n V0 bQ β0 st β a w V){o:Oper}{K:St->ut->Prop}{d:Nat}(hd:d<n){s:Nat}{vs:zA un}{m c:Nat}{src:OA×Nat ⊕ zA un}{size bytes:Nat}{ty:TypeId}(h:aU T st.bN st.boxes o.op=.yJ s vs m c src size bytes ty)(hv:At (.yJ s vs m c src size bytes ty) (some d) st V K):∃v w' st' β',(execOp a.eval o).run P w=.ok (.value v) w'/\à n V0 bQ β0 st' β' (a.put (some d) v) w' V/\K st' V:=by
 obtain ⟨Q,q,R⟩:=(iH (T:=T) (ρ:=st.bN) (bx:=st.boxes) (op:=o.op)).2.2 (by rw [h];rfl);rw [q] at h;simp only [aU,R] at h;split at h
 ·rename_i b x t t' l L;split at h
  ·rename_i i i' hi M;split at h
   ·rename_i e e' S u;split at h
    ·rename_i ei Ku;obtain ⟨Zm,d0,z0,U,W,h3,h4,-⟩:=aN (hT _ _ hi);obtain ⟨J,a0,a1,a2,a3,a4,N,-⟩:=aN (hT _ _ M);have ⟨info,de,z,X,e2,Y,e4,e5,e6,e7⟩:=aN (hT _ _ Ku);rw [h4] at S;rw [N] at u;obtain rfl:=bu S;obtain rfl:=bu u;obtain ⟨rfl,rfl,rfl,A,B,C,⟨a5,D⟩,p,k,xc,a6,E⟩:=EZ hM e5 e6 e7 h;have ⟨q1,q2⟩:=iG hM _ _ l;have f1:Q.argTypes=#[t,t']:=by apply ņ;exact L
     have f2:Q.args.map a.eval=#[.slice (mA (β s) c) m c,.slice p k xc]:=χ
     have F:∀{v w'},(Builtin.append_ #[t,t] o.type #[.slice (mA (β s) c) m c,.slice p k xc]).run P w=.ok v w'->(execOp a.eval o).run P w=.ok (.value v) w':=by intro v w' hr;simp only [execOp,q,resolve,R,pure_bind,invoke,f1,f2,builtin];grind [fL,F2]
     have fin:∀{v w' st' β'},(Builtin.append_ #[t,t] o.type #[.slice (mA (β s) c) m c,.slice p k xc]).run P w=.ok v w'->à n V0 bQ β0 st' β' (a.put (some d) v) w' V->K st' V ->
       ∃v w' st' β',(execOp a.eval o).run P w=.ok (.value v) w'/\à n V0 bQ β0 st' β' (a.put (some d) v) w' V/\K st' V:=λG H I=>⟨_,_,_,_,F G,H,I⟩
     have Yy:∀xs,V.sl p xs->xs.length=k*info.size->(∀v∈xs,v.oneCell'=true)->Src w p k info.size xs:=by intro xs g f U;refine ⟨f,U,?_⟩;(cases p with|some Z=>exact .inl ⟨Z,rfl,Ds hM g⟩|none=>{refine .inr ⟨rfl,?_⟩;have:xs=[]:=by{(cases xs with|nil=>rfl|cons y r=>{obtain ⟨Z,e,-⟩:=g 0 y ψ;cases e})};grind [Nat.mul_eq_zero.1]})
     rcases E with rfl|⟨xs,rfl,f,j⟩
     ·obtain ⟨xs,g,f,hv⟩:=hv;have ⟨v,w',st',β',G,H,I⟩:=CP (ty:=o.type) (xc:=xc) hM hd W X Y C A B D (Yy xs g f hv.2.2.2.2.1) hv;exact fin G H I
     ·have O:xs.length/info.size=k:=by{rw [f];exact Qf9 _ ω};simp only [At,O] at hv;have ⟨v,w',st',β',G,H,I⟩:=CP (ty:=o.type) (xc:=xc) hM hd W X Y C A B D ⟨f,hv.2.2.2.2.1,j hv.2.2.2.2.1⟩ hv;exact fin G H I
    ·cases h
   ·cases h
  ·cases h
 ·cases h
theorem Lh (hT:eA.ok P T)(y:à n V0 bQ β0 st β a w V){o:Oper}{K:St->ut->Prop}{next:Act->World->Prop}{Q:Exit->Act->World->Prop}(z:∀d,o.dst=some d->d<n)(u:At (aU T st.bN st.boxes o.op) o.dst st V K)(D:∀E β' M w' V',à n V0 bQ β0 E β' M w' V'->K E V'->next M w'):o.wp P a w next Q:=by
 unfold Oper.wp;generalize F:aU T st.bN st.boxes o.op=q at u
 cases q with
 | fail=>exact u.elim
 | ret sc x=>
  obtain ⟨e,f⟩:=(fN sc _).1 u;have ⟨h,g⟩:=RV hT y F e;rw [h];exact D _ _ _ _ _ (y.Lc z rfl g) f
 | new sc b x=>
  simp only [At] at u
  cases hdst:o.dst with
  | none=>rw [hdst] at u;exact u.elim
  | some d=>
   rw [hdst] at u;dsimp only at u;split at u
   ·rename_i k;obtain ⟨e,f⟩:=(fN sc _).1 u;have ⟨v,h,g,l⟩:=RU hT y F e;rw [h]
    have:=(y.new (z d hdst) k l).put (x:=x d) (v:=v) (z d hdst) (g d).1 (by
     intro s i;rw [(g d).2] at i;simp at i;subst i;exact ⟨b,by rw [aj,Ä rfl]⟩)
    grind [Oper.upon_value]
   ·exact u.elim
 | As sc s b=>
  simp only [At] at u
  cases hdst:o.dst with
  | some d=>rw [hdst] at u;exact u.elim
  | none=>
   rw [hdst] at u;dsimp only at u;obtain ⟨e,f⟩:=(fN sc _).1 u;have ⟨t,w',h,rx,g⟩:=RX hT y F e;rw [h];rcases rx with rfl|⟨v,rfl⟩
   ·simp only [Oper.upon_skip,hdst];exact D _ _ _ _ _ g f
   ·simp only [Oper.upon_value,hdst];exact D _ _ _ _ _ g f
 | rd p sh=>
  have ⟨x,e,f,j⟩:=BB.fJ sh u;have ⟨h,g⟩:=U8 hT y F e f j;rw [h];exact D _ _ _ _ _ (y.Lc z rfl (cG e)) g
 | ur vs of size sh=>
  have ⟨x,e,f,j,r⟩:=BB.fJ sh u;rw [(Lg hT y F e f j)];exact D _ _ _ _ _ (y.Lc z rfl (cG e)) r
 | yJ s vs m c src size bytes ty=>
  cases hdst:o.dst with
  | none=>rw [hdst] at u;exact u.elim
  | some d=>grind [N6,Oper.upon_value]
 | app old ba vs m c src size bytes ty=>
  cases hdst:o.dst with
  | none=>rw [hdst] at u;exact u.elim
  | some d=>grind [RO,Oper.upon_value]
def du (V:Ó)(w:World):Ó:=⟨w,λb=>b<w.heap.size/\∀o,¬V.aX b o,λ_=>False,λ_ h=>h.1,λ_ h=>h.elim⟩
def zj (u:à n V0 bQ β0 st β a w V):V.Le (du V w):=λb o c=>⟨λh=>h.2 o c,(u.tP b o c).1⟩
def iK.run {f:FuncId}(h:iK P f)(xs:Array un):(callFunc f xs).run P w=.ok (.enter f xs) w:=by obtain ⟨fn,a,b,c⟩:=h;simp only [callFunc,Sem.run_bind,run_program,Result.andThen_ok,a,c,b,ő,Ð,Sem.run_pure]
theorem cH {x:Nat}:∀{l:zA Nat},x∈ø l↔x∈l
 | []=>by simp [ø]
 | y::r=>by
  simp only [ø]
  cases h:jf y (ø r) with
  | true=>
   simp only [cond_true,í];rw [cH];constructor
   ·exact .inr
   ·rintro (rfl|u)
    ·exact cH.1 (d_.1 h)
    ·exact u
  | false=>simp only [cond_false,í];rw [cH]
theorem gO {bx:Nat->Option a_}:∀(k:Nat)(l:zA Nat),∀x∈l,x∈ó bx k l
 | 0,_,x,u=>u
 | k+1,l,x,u=>by simp only [ó];exact gO k _ x (cH.2 (Ń _ u))
def fU {bx:Nat->Option a_}{l:zA Nat}(h:jL bx l=true){s:Nat}(u:s∈l){b:a_}(y:bx s=some b):∀t∈b.cs.ids,t∈l:=by unfold jL at h;rw [Į] at h;have:=h s u;unfold VB oQ at this;grind [d_.1]
def jg {L:zA Nat}:∀{γ:Nat->Nat} {k:(Nat->Nat)->Prop},nS L γ k->∀β:Nat->Nat,k (λt=>if t∈L then β t else γ t):=by
 induction L with
 | nil=>
  intro γ k h β;have e:(λt=>if t∈([]:zA Nat) then β t else γ t)=γ:=by funext t;simp
  rw [e];exact h
 | cons s r u=>
  intro γ k h β;have:=u (h (β s)) β;grind [bg,i_]
def C0 {bx:Nat->Option a_}{b:a_}{γ:Nat->Nat}{s:Nat}:∀{r:zA Nat} {k:Prop},ZB bx b γ s r k->(∀t∈r,∀b',bx t=some b'->b.live->b'.live->γ s=γ t->s=t)->(∀t∈r,∃b',bx t=some b')->k
 | [],_,h,_,_=>h
 | t::r,k,h,hi,y=>by
  simp only [ZB] at h
  cases D:Nat.beq s t with
  | true=>rw [D] at h;exact C0 h (λt u=>hi t (ā _ u)) (λt u=>y t (ā _ u))
  | false=>
   rw [D] at h;have ⟨b',z⟩:=y t ψ;simp only [z,cond_false] at h;refine C0 (h ?_) (λt u=>hi t (ā _ u)) (λt u=>y t (ā _ u))<;>grind [zK,kT,Nat.beq_refl]
def CK {bx:Nat->Option a_}{γ:Nat->Nat}{V':ut}:∀{L:zA Nat} {k:Prop},kG bx γ V' L k->(∀s∈L,∀b,bx s=some b->b.live->V'.w.heap[γ s]?=some (b.obj γ)/\V'.H (γ s)) ->(∀s∈L,∀t∈L,∀b b',bx s=some b->b.live->bx t=some b'->b'.live->γ s=γ t->s=t)->(∀s∈L,∃b,bx s=some b)/\k
 | [],k,h,_,_=>⟨λs z=>(nomatch z),h⟩
 | s::r,k,h,u,hi=>by
  simp only [kG] at h;split at h
  ·rename_i b y
   have ⟨D,E⟩:=CK (h (kT.2 λl=>(u s ψ b y l).1) (kT.2 λl=>(u s ψ b y l).2)) (λc a=>u c (ā _ a))
    (λc a t d=>hi c (ā _ a) t (ā _ d))
   have g:=C0 E (λt d b' e l f=>hi s ψ t (ā _ d) b b' y l e f) D;grind
  ·exact h.elim
def jA {bx:Nat->Option a_}{γ:Nat->Nat}{V':ut}:∀{L:zA Nat} {k:Prop},va bx γ V' L k->(∀s∈L,∀b,bx s=some b->b.live->V'.aX (γ s) (b.obj γ))->(∀s∈L,∃b,bx s=some b)/\k
 | [],k,h,_=>⟨λs y=>(nomatch y),h⟩
 | s::r,k,h,u=>by
  simp only [va] at h;split at h
  ·rename_i b z;have ⟨D,E⟩:=jA (h (kT.2 (u s ψ b z))) (λc a=>u c (ā _ a));grind
  ·exact h.elim
def jZ {D:Option (Nat×Nat)}:∀(cs E:zA C) {K:zA C->Prop},pz D cs E K->∃u,K u/\∀s∈u.flatMap C.ids,s∈cs.flatMap C.ids\/∃m,D=some (m,s)
 | [],_,_,h=>⟨[],h,λs F=>(nomatch F)⟩
 | c::r,[],_,h=>h.elim
 | c::r,z::y,K,h=>by
  simp only [pz] at h;split at h
  ·split at h
   ·rename_i m M;split at h
    ·obtain ⟨n,c,h⟩:=h;have ⟨u,a,b⟩:=jZ r y h;grind [C.ids]
    ·exact h.elim
   ·exact h.elim
  ·split at h
   ·have ⟨v,e,d⟩:=Er.fJ _ h;have ⟨u,a,b⟩:=jZ r y d;grind
   ·have ⟨u,a,b⟩:=jZ r y h;grind
def à.fill (h:à n V0 bQ β0 st β a w V){s:Nat}{y b:a_}(z:st.boxes s=some y)(D:∀t∈b.cs.ids,∃b',st.boxes t=some b')(E:∀t b',st.boxes t=some b'->b'.live->t≠s->β t≠β s)(F:∀o,¬V.aX (β s) o)(hown:V0.w.heap.size<=β s\/(100000<=s/\bQ.B (β s)))(hw:w.heap[β s]?=some (b.obj β)):à n V0 bQ β0 (st.box s b) β a w V:=by have d:∀t,(∃b',st.boxes t=some b')->∃b',(st.box s b).boxes t=some b':=by{grind [aj]};refine ⟨h.defers,h.size,h.aC,λt x f u hu=>d u (h.Ew t x f u hu),?_,?_,?_,h.tP,?_,h.ext,?_,h.oP,h.nh,h.small⟩;{grind [aj,h.Ev]};{grind [aj,h.boxes]};{grind [aj,h.inj]};{grind [aj,h.Ak]};intro t b' c l;rw [aj] at c;split at c;{rename_i e;rw [e];exact hown};exact h.own t b' c l
def à.later (u:à n V0 bQ β0 st β a w V){X:Nat->Prop}{w':World}(y:kI X w w')(hX:∀t b,st.boxes t=some b->b.live->¬X (β t))(D:∀i,i<V0.w.heap.size->X i->V0.X i){z:ut}(hvis:∀b o,z.aX b o->w'.heap[b]?=some o/\¬V0.H b)(E:∀t b,st.boxes t=some b->b.live->∀o,¬z.aX (β t) o):à n V0 bQ β0 st β a w' z:=by refine ⟨u.defers,u.size,u.aC,u.Ew,u.Ev,?_,u.inj,hvis,E,?_,u.own,u.oP,u.nh,u.small⟩;{grind [u.boxes,y.aX]};refine ⟨Ā u.ext.size y.size,λi d c=>?_,y.os.m u.ext.os,y.tape.m u.ext.tape,y.out.m u.ext.out,Ā u.ext.dr y.dr⟩<;>grind [y.aX,u.ext.aX]
def à.beta (u:à n V0 bQ β0 st β a w V){d g:Nat}(z:d<n\/200000<=d)(y:st.boxes d=none):à n V0 bQ β0 st (cK β d g) a w V:=by have j:∀s c,st.boxes s=some c->s≠d:=λs c f e=>by{rw [e,y] at f;cases f};have hβ:∀s c,st.boxes s=some c->cK β d g s=β s:=λs c f=>i_ _ _ (j s c f);refine ⟨u.defers,u.size,?_,u.Ew,u.Ev,?_,?_,u.tP,?_,u.ext,?_,?_,u.nh,u.small⟩;{intro t x k;rw [u.aC t x k];grind [SV.cg,u.Ew]};{intro s b i l;rw [hβ s b i,u.boxes s b i l];grind [a_.dJ,u.Ev]};{grind [u.inj]};{grind [u.Ak]};{intro s b i l;rw [hβ s b i];exact u.own s b i l};intro s f;have ⟨m,o⟩:=u.oP s f;grind [i_,u.small]
def ka {ty:TypeId}:∀{L:zA Nat} {st:St},(eQ st L ty).aC=st.aC
 | [],_=>rfl
 | s::r,st=>by unfold eQ;rw [ř];exact ka (L:=r)
def bz {ty:TypeId}:∀{L:zA Nat} {st:St} (t:Nat),(eQ st L ty).boxes t=if t∈L then some ⟨.aF [],ty⟩ else st.boxes t
 | [],st,t=>by simp [eQ]
 | s::r,st,t=>by
  have:=bz (ty:=ty) (L:=r) (st:=st.box s ⟨.aF [],ty⟩) t;unfold eQ at this ⊢;grind [aj]
def à.Mw {ty:TypeId}:∀{L:zA Nat} {st:St},à n V0 bQ β0 st β a w V->à n V0 bQ β0 (eQ st L ty) β a w V
 | [],_,h=>h
 | s::r,st,h=>by unfold eQ;rw [ř];exact à.Mw (L:=r) h.void
def pC {mv:Option (Nat×Nat)}{γ:Nat->Nat}{V2:ut}{A:zA Nat}(hV2:V2.w=w)(hγA:∀s∈A,γ s=β s)(hinj:∀s∈A,∀s'∈A,β s=β s'->s=s')(Aj:∀s∈A,∀o,¬V.aX (β s) o)(hown:∀s∈A,V0.w.heap.size<=β s\/(100000<=s/\bQ.B (β s))):∀(L:zA Nat) (Vz E2:St) {k:St->Prop},(∀s∈L,s∈A)->à n V0 bQ β0 E2 β a w V->Vz.aC=E2.aC->(∀t,t∉L->Vz.boxes t=E2.boxes t)->(∀s∈L,∃b,E2.boxes s=some b) ->(∀t b,E2.boxes t=some b->b.live->t∉A->∀s∈A,β t≠β s)->(∀s∈L,∀b,Vz.boxes s=some b->∀t∈b.cs.ids,(∃b',E2.boxes t=some b')/\γ t=β t)->(∀m nb,mv=some (m,nb)->(∃b',E2.boxes nb=some b')/\γ nb=β nb) ->fX T mv γ V2 L Vz k->∃Z,à n V0 bQ β0 Z β a w V/\Z.aC=E2.aC/\(∀t,(∃b,E2.boxes t=some b)->∃b,Z.boxes t=some b)/\k Z
 | [],Vz,E2,k,_,hM,hsl,hag,_,_,_,_,h=>by
  have:Vz=E2:=by
   obtain ⟨s1,g⟩:=Vz;obtain ⟨s2,Q⟩:=E2;dsimp only at hsl hag;subst hsl;congr 1;grind
  exact ⟨E2,hM,rfl,λ_ h=>h,this▸h⟩
 | s::r,Vz,E2,k,hA,hM,hsl,hag,hb,hd,hw,hmv,h=>by
  have f:=hA s ψ;obtain ⟨R,C⟩:=hb s ψ
  have step:∀g:a_,(∀t∈g.cs.ids,(∃b',E2.boxes t=some b')/\γ t=β t)->w.heap[γ s]?=some (g.obj γ)->fX T mv γ V2 r (Vz.box s g) k ->
    ∃Z,à n V0 bQ β0 Z β a w V/\Z.aC=E2.aC/\(∀t,(∃b,E2.boxes t=some b)->∃b,Z.boxes t=some b)/\k Z:=by
   intro g z H h;rw [hγA s f,a_.dJ λt c=>(z t c).2] at H;by_cases I:s∈r
   ·refine pC hV2 hγA hinj Aj hown r (Vz.box s g) E2 (λs' d=>hA s' (ā _ d)) hM hsl ?_ (λs' d=>hb s' (ā _ d)) hd ?_ hmv h<;>grind [aj]
   ·have D:=hM.fill (b:=g) C (λt c=>(z t c).1) (by
     intro t b' c l E he;by_cases v:t∈A
     ·exact E (hinj t v s f he)
     ·exact hd t b' c l v s f he) (Aj s f) (hown s f) H
    have x:∀t,(∃b,E2.boxes t=some b)->∃b,(E2.box s g).boxes t=some b:=by grind [aj]
    have ⟨Z,J,K,M,N⟩:=pC hV2 hγA hinj Aj hown r (Vz.box s g) (E2.box s g) (λs' d=>hA s' (ā _ d)) D hsl
     (by
      intro t c;rw [aj,aj];split
      ·rfl
      ·rename_i e;exact hag t (by simp [e,c]))
     (λs' d=>x s' (hb s' (ā _ d)))
     (by
      intro t b' c l v;rw [aj] at c;split at c
      ·rename_i e;exact Å (e▸f) v
      ·exact hd t b' c l v)
     (by
      intro s' d b' j t c;rw [aj] at j;split at j
      ·cases j;exact ⟨x t (z t c).1,(z t c).2⟩
      ·have:=hw s' (ā _ d) b' j t c;exact ⟨x t this.1,this.2⟩)
     (λm nb e=>⟨x nb (hmv m nb e).1,(hmv m nb e).2⟩) h
    exact ⟨Z,J,K,λt c=>M t (x t c),N⟩
  simp only [fX] at h;split at h
  ·rename_i cs ty q;split at h;{rename_i i S;have ⟨F,⟨p,y⟩,O⟩:=jZ _ _ h;rw [hV2] at p;refine step ⟨.lit F,ty⟩ (λt c=>?_) p y;rcases O t c with G|⟨m,G⟩;{exact hw s ψ _ q t G};exact hmv m t G};exact h.elim
  ·rename_i P ty q;obtain ⟨u,p,y⟩:=h;rw [hV2] at p;exact step ⟨.row u,ty⟩ (λt c=>(nomatch c)) p y
  ·rename_i P ty q;obtain ⟨-,u,-,p,y⟩:=h;rw [hV2] at p;exact step ⟨.aF u,ty⟩ (λt c=>(nomatch c)) p y
  ·exact h.elim
def CJ {y:Option (Nat×Nat)}{V2:ut}:∀{L:zA Nat} {st:St} {k:St->Prop},fX T y β V2 L st k->∀s∈L,∃b,st.boxes s=some b/\b.live
 | [],_,_,_,s,u=>nomatch u
 | s::r,st,k,h,t,z=>by
  have core:∀b1:a_,(∃b,st.boxes s=some b/\b.live)->fX T y β V2 r (st.box s b1) k->∃b,st.boxes t=some b/\b.live:=by
   intro b1 u h;by_cases e:t=s
   ·rw [e];exact u
   ·have:=CJ h t (by simpa [e] using z);grind [aj]
  simp only [fX] at h;split at h
  ·rename_i cs ty a;split at h;{have ⟨i,⟨g,c⟩,l⟩:=jZ _ _ h;exact core _ ⟨_,a,dP⟩ c};exact h.elim
  ·rename_i j ty a;obtain ⟨d,g,c⟩:=h;exact core _ ⟨_,a,dQ⟩ c
  ·rename_i j ty a;obtain ⟨f,d,-,g,c⟩:=h;exact core _ ⟨_,a,λ_ e=>by cases e;exact f⟩ c
  ·exact h.elim
def CI {bx:Nat->Option a_}{γ:Nat->Nat}{N b:Nat}{L:zA Nat}(y:∀s∈L,∃b,bx s=some b)(z:b∈L.map (fk bx γ N))(hlt:b<N):∃s∈L,∃u,bx s=some u/\u.live/\γ s=b:=by have ⟨s,c,he⟩:=ÿ.1 z;have ⟨u,a⟩:=y s c;unfold fk at he;rw [a] at he;obtain ⟨cs,ty⟩:=u;(cases cs with|aF vs=>{(cases vs with|nil=>{simp only [vb] at he;omega}|cons v r=>{exact ⟨s,c,_,a,gN ψ,he⟩})}|_=>grind [dP,dQ])
def zJ {y:Nat}:∀{xs:zA (md×zA C)},(xs.flatMap λx=>x.2.flatMap C.ids)=[]->∀s∈((Be y xs).flatMap λx=>x.2.flatMap C.ids),s=y
 | [],_,s,u=>nomatch u
 | x::r,h,s,u=>by
  simp only [Ę,List.append_eq_nil_iff] at h;unfold Be at u;split at u
  ·rename_i heq;cases heq
  ·grind [C.ids]
  ·rename_i heq;cases heq;simp only [Ę,ü,h.1,Ğ,false_or] at u;exact zJ h.2 s u
def Cu {y:Nat}:∀{cs:zA C},(cs.flatMap C.ids)=[]->∀s∈(HX y cs).flatMap C.ids,s=y
 | [],_,s,u=>nomatch u
 | x::r,h,s,u=>by
  simp only [Ę,List.append_eq_nil_iff] at h;unfold HX at u;split at u
  ·rename_i heq;cases heq
  ·grind [C.ids]
  ·rename_i heq;cases heq;simp only [Ę,ü,h.1,Ğ,false_or] at u;exact Cu h.2 s u
def Nr {u:Nat}{x:SV}(h:x.ids=[]):∀s∈(yB u x).ids,s=u:=by intro s a;unfold yB at a;split at a;{simpa [SV.ids,C.ids] using a};{exact Cu h s a};{exact zJ h s a};rw [h] at a;cases a
def Ki {xs:zA SV}(h:∀x∈xs,x.ids=[])(γ δ:Nat->Nat):aI γ xs=aI δ xs:=by unfold aI;grind [kP]
def à.adopt1 {w0:World}{V':ut}(M:à n V0 bQ β0 st β a w V')(hlt:∀s b,st.boxes s=some b->b.live->β s<w0.heap.size)(hsz:V0.w.heap.size<=w0.heap.size){d b:Nat}{cs:zA C}{e:TypeId}(N:d<n)(O:st.boxes d=none)(Z:w0.heap.size<=b)(hw:V'.w=w)(hblk:V'.aX b (.cells (cs.map (C.den λ_=>0)).toArray e (0,0)))(lT:cs.flatMap C.ids=[]):à n V0 bQ β0 ((st.box d ⟨.lit cs,e⟩).put (some d) (.c (.ptr d 0))) (cK β d b) (a.put (some d) (.pointer (some ⟨b,0,none⟩))) w (V'.T0 b):=by have v:∀s g,st.boxes s=some g->s≠d:=λs g f e=>by{rw [e,O] at f;cases f};have hβ:∀s g,st.boxes s=some g->cK β d b s=β s:=λs g f=>i_ _ _ (v s g f);have k:=(M.tP b _ hblk).1;have D:(⟨.lit cs,e⟩:a_).obj (cK β d b)=.cells (cs.map (C.den λ_=>0)).toArray e (0,0):=by{grind [a_.obj,ë.den,po]};have y:à n V0 bQ β0 (st.box d ⟨.lit cs,e⟩) (cK β d b) a w (V'.T0 b):=by{refine ⟨M.defers,M.size,?_,?_,?_,?_,?_,?_,?_,M.ext,?_,?_,M.nh,M.small⟩;{intro t x q;rw [M.aC t x q];exact SV.cg λs f=>by{have ⟨g,m⟩:=M.Ew t x q s f;exact (hβ s g m).symm}};{intro t x q s f;have ⟨g,m⟩:=M.Ew t x q s f;grind [aj]};{grind [aj,ë.ids,M.Ev]};{intro s g f l;rw [aj] at f;split at f;{rename_i p;simp only [ą] at f;rw [p,bg,<-f,D];exact k};rw [hβ s g f,M.boxes s g f l];grind [a_.dJ,M.Ev]};{intro s z A B i E j F he;rw [aj] at i j;split at i<;>split at j;{rename_i r u;rw [r,u]};{rename_i r u;rw [r,bg,hβ z B j] at he;have:=hlt z B j F;omega};{rename_i r u;rw [u,bg,hβ s A i] at he;have:=hlt s A i E;omega};grind [M.inj]};{rintro x o ⟨i,j⟩;exact M.tP x o ⟨λh=>i (.inl h),j⟩};{rintro s g f l o ⟨i,j⟩;rw [aj] at f;split at f;{rename_i p;rw [p,bg] at i;exact i (.inr ⟨rfl,by rw [hw];exact aJ k⟩)};rw [hβ s g f] at i j;exact M.Ak s g f l o ⟨λh=>i (.inl h),j⟩};{intro s g f l;rw [aj] at f;split at f;{rename_i p;rw [p,bg];exact .inl (Ā hsz Z)};rw [hβ s g f];exact M.own s g f l};intro s f;have ⟨i,j⟩:=M.oP s f;grind [i_,M.small]};refine y.put N ?_ ?_;{simp only [SV.den,C.den,bg]};intro s f;simp [SV.ids,C.ids] at f;subst f;exact ⟨_,by rw [aj,Ä rfl]⟩
def CU {L:zA Nat}{m s:Nat}:s∈(L.filter λs=>!(Nat.beq s m))↔s∈L/\s≠m:=by grind [Nat.beq_refl,beq_eq.1]
def rM (hM:à n V0 bQ β0 st β a w V){L:zA Nat}{γ:Nat->Nat}(kt:∀s∈L,γ s=β s)(hcl:∀s∈L,∀b,st.boxes s=some b->∀t∈b.cs.ids,t∈L)(hlive:∀s∈L,∃b,st.boxes s=some b){give:md}{sh:Sh}{m:Option Nat}{d:Nat}(hd:d<n){ety:TypeId}{K:St->ut->Prop}{w':World}{r:un}(hm:∀k,m=some k->k∈L)(hfree:mf st m d=true)(hx:kI (λb=>b∈L.map (fk st.boxes γ w.heap.size)/\(du V w).H b) w w')(hr:cM T give sh L m d ety γ st (du V w) K r (((du V w).ao (L.map (fk st.boxes γ w.heap.size))).to w' hx.size)):∃st' β' V',à n V0 bQ β0 st' β' (a.put (some d) r) w' V'/\K st' V':=by
 have a7:=hM.ext.size;unfold cM at hr;generalize hnb:ia m d=nb at hr;obtain ⟨E,q,R,F,S⟩:=hr;obtain ⟨x,U,rfl,hr⟩:=Sh.fJ sh S;clear S
 have y:st.boxes nb=none:=by unfold mf at hfree;grind
 have Zg:nb<n\/200000<=nb:=by rw [<-hnb];(cases m with|none=>exact .inl hd|some m=>exact Ie hd)
 generalize hV1:((((du V w).ao (L.map (fk st.boxes γ w.heap.size))).to w' hx.size).shut.bq (q≠[]) E)=V1 at hr;have W:V1.w=w':=by rw [<-hV1];rfl
 have Rg:∀b o,V1.aX b o->w'.heap[b]?=some o/\¬(b<w.heap.size/\∀o,¬V.aX b o)/\¬(q≠[]/\b=E/\b<w'.heap.size):=by rintro b o ⟨z,D⟩;rw [W] at D;rw [<-hV1] at z;refine ⟨D,λh=>z (.inl h),λh=>z (.inr ⟨h.1,h.2.1,by rw [<-h.2.1];exact h.2.2⟩)⟩
 have X:∀b o,V1.aX b o->w'.heap[b]?=some o/\¬V0.H b:=by intro b o h;obtain ⟨z,D,-⟩:=Rg b o h;refine ⟨z,λhH=>?_⟩;by_cases a1:b<w.heap.size;{exact D ⟨a1,λo' a2=>(hM.tP b o' a2).2 hH⟩};{have:=V0.hH b hH;omega}
 have Aj:∀s b,st.boxes s=some b->b.live->∀o,¬V1.aX (β s) o:=λs b f l o ho=>
  (Rg _ o ho).2.1 ⟨aJ (hM.boxes s b f l),hM.Ak s b f l⟩
 have a3:∀b,(b∈L.map (fk st.boxes γ w.heap.size)/\(du V w).H b)->∃s∈L,∃u,st.boxes s=some u/\u.live/\β s=b:=by rintro b ⟨z,D⟩;have ⟨s,c,u,g,I,he⟩:=CI hlive z D.1;exact ⟨s,c,u,g,I,by rw [<-kt s c];exact he⟩
 have MH:à n V0 bQ β0 (eQ st L ety) β a w' V1:=by refine (hM.Mw (L:=L) (ty:=ety)).later hx ?_ ?_ X ?_;{intro t b f l hX;rw [bz] at f;grind [fY,hM.inj]};{intro i hi hX;obtain ⟨s,c,u,g,I,rfl⟩:=a3 _ hX;rcases hM.own s u g I with h|h<;>grind [hM.nh]};intro t b f l;rw [bz] at f;grind [fY]
 have J:(eQ st L ety).boxes nb=none:=by rw [bz,Ã];{exact y};intro h;have ⟨b,f⟩:=hlive nb h;rw [y] at f;cases f
 have NB:q≠[]->w.heap.size<=E\/∃k u,m=some k/\st.boxes k=some u/\u.live/\E=β k:=by intro p;rcases F p with h|h;{exact .inl h};right;(cases m with|none=>exact h.elim|some k=>{have ⟨u,g⟩:=hlive k (hm k rfl);simp only [En,g] at h;obtain ⟨cs,ty⟩:=u;cases cs<;>grind [dP,dQ,gN]})
 have a4:à n V0 bQ β0 ((eQ st L ety).box nb ⟨.aF q,ety⟩) (cK β nb E) a w' V1:=by by_cases p:q=[];{subst p;exact (MH.beta Zg J).void};have M:=R p;refine MH.kE Zg J rfl ?_ ?_ ?_ M (λ_ _ _=>rfl) (Ú _) rfl rfl rfl;{intro s b f l he;rw [bz] at f;split at f;{cases f;exact fY l};rename_i a5;rcases NB p with h|⟨k,u,hk,g,I,h⟩;{have:=aJ (hM.boxes s b f l);omega};exact a5 (hM.inj k s u b g I f l (h▸he.symm)▸hm k hk)};{intro o ho;exact (Rg _ o ho).2.2 ⟨p,rfl,aJ M⟩};rcases NB p with h|⟨k,u,hk,g,I,h⟩;{left;omega};rcases hM.own k u g I with h'|h';{left;rw [h];exact h'};right;refine ⟨?_,by rw [h];exact h'.2⟩;rw [<-hnb,hk];exact PH h'.1
 have Ny:∀s,(∃b,st.boxes s=some b)->s≠nb:=by rintro s ⟨b,f⟩ rfl;rw [y] at f;cases f
 generalize hA:KK m L=A at hr
 have N:∀s∈A,s∈L/\∀k,m=some k->s≠k:=by intro s c;rw [<-hA] at c;(cases m with|none=>exact ⟨c,λk h=>nomatch h⟩|some k=>{have ⟨z,D⟩:=CU.1 c;exact ⟨z,λj hj=>by cases hj;exact D⟩})
 have Y:∀s∈L,(∀k,m=some k->s≠k)->s∈A:=by intro s c h;rw [<-hA];(cases m with|none=>exact c|some k=>exact CU.2 ⟨c,h k rfl⟩)
 have O:∀s,(∃b,st.boxes s=some b)->cK γ nb E s=γ s/\cK β nb E s=β s:=λs c=>⟨i_ _ _ (Ny s c),i_ _ _ (Ny s c)⟩
 have P:∀s∈A,((wB m ety st).box nb ⟨.aF q,ety⟩).boxes s=st.boxes s:=by intro s c;have ⟨z,D⟩:=N s c;rw [aj,Ã (Ny s (hlive s z))];(cases m with|none=>rfl|some k=>{simp only [wB];rw [aj,Ã (D k rfl)]})
 have Z:∀s∈A,∃b,st.boxes s=some b/\b.live:=by intro s c;have:=CJ hr s c;rw [P s c] at this;exact this
 have ⟨st',g1,g2,g3,g4⟩:=pC (a:=a) (w:=w') (V:=V1) (γ:=cK γ nb E) (β:=cK β nb E) (by rfl) (λs c=>by
   have:=O s (hlive s (N s c).1);rw [this.1,this.2];exact kt s (N s c).1)
  (by
   intro s c s' a0 he;rw [(O s (hlive s (N s c).1)).2,(O s' (hlive s' (N s' a0).1)).2] at he;obtain ⟨B,C,Q⟩:=Z s c;have ⟨b2,e2,l2⟩:=Z s' a0;exact hM.inj s s' B b2 C Q e2 l2 he)
  (by
   intro s c;obtain ⟨B,C,Q⟩:=Z s c;rw [(O s ⟨B,C⟩).2];exact Aj s B C Q)
  (by
   intro s c;obtain ⟨B,C,Q⟩:=Z s c;rw [(O s ⟨B,C⟩).2];exact hM.own s B C Q)
  A _ ((eQ st L ety).box nb ⟨.aF q,ety⟩) (λ_ h=>h) a4
  (by
   show _=(eQ st L ety).aC;rw [ka];cases m<;>rfl)
  (by
   intro t v;rw [aj,aj];split
   ·rfl
   ·rw [bz]
    cases m with
    | none=>
     simp only [wB];rw [Ã λh=>v (Y t h λk e=>nomatch e)]
    | some k=>
     simp only [wB];rw [aj];split
     ·rename_i e;rw [Ä (e▸hm k rfl)]
     ·rename_i e;rw [Ã λh=>v (Y t h λj hj=>by cases hj;exact e)])
  (by
   intro s c;rw [aj];split
   ·exact ⟨_,rfl⟩
   ·rw [bz,Ä (N s c).1];exact ⟨_,rfl⟩)
  (by
   intro t b v l Xz s c;obtain ⟨B,C,Q⟩:=Z s c;rw [(O s ⟨B,C⟩).2];rw [aj] at v;split at v
   ·rename_i e;simp only [ą] at v;rw [e,bg];have p:q≠[]:=λe0=>by{rw [<-v,e0] at l;exact fY l};rcases NB p with h|⟨k,u,hk,g,I,h⟩;{have:=aJ (hM.boxes s B C Q);omega};grind [hM.inj]
   ·rw [bz] at v;split at v
    ·cases v;exact Å l fY
    ·rename_i Zj;intro he;rw [(O t ⟨b,v⟩).2] at he;exact Zj (hM.inj t s b B v l C Q he▸(N s c).1))
  (by
   intro s c b f t v;rw [P s c] at f;have Zj:=hcl s (N s c).1 b f t v;have G:=O t (hlive t Zj);refine ⟨?_,by rw [G.1,G.2];exact kt t Zj⟩;rw [aj];split
   ·exact ⟨_,rfl⟩
   ·rw [bz,Ä Zj];exact ⟨_,rfl⟩)
  (by
   intro k a6 e
   have:a6=nb:=by (cases m with|none=>{cases e}|some m=>{cases e;rfl})
   subst this;exact ⟨⟨_,by rw [aj,Ä rfl]⟩,by rw [bg,bg]⟩)
  hr
 have ⟨b2,G⟩:=g3 nb ⟨_,by rw [aj,Ä rfl]⟩
 have lT:∀s∈(cond give (yB nb x) x).ids,s=nb:=by (cases give with|true=>exact Nr U|false=>{intro s c;rw [cond_false,U] at c;cases c})
 refine ⟨_,_,_,g1.put (x:=cond give (yB nb x) x) hd ?_ ?_,g4⟩
 ·exact SV.cg λs c=>by rw [lT s c,bg,bg]
 ·intro s c;rw [lT s c];exact ⟨b2,G⟩
def mP (hM:à n V0 bQ β0 st β a w V){m:CM}{f:FuncId}{xs:zA SV}{ty:TypeId}{dst:Option Nat}{K:St->ut->Prop}{next:Act->World->Prop}{Q:Exit->Act->World->Prop}(hd:∀d,dst=some d->d<n)(hv:im P T m f xs ty dst st V K)(hK:∀st' β' a' w' V',à n V0 bQ β0 st' β' a' w' V'->K st' V'->next a' w'):iK P f/\Calls P f (aI β xs) w λ
   | .returned v,w''=>next (a.put dst v) w''
   | .panicked chain,w''=>Q (.panic chain) a w''
   | .outgrown,_=>LetsOut Q:=by
 have hle:=zj hM;have b5:=hM.ext.size;unfold im at hv;split at hv
 ·exact hv.elim
 ·rename_i sh c7;split at hv
  ·
   rename_i lT
   have b6:∀x∈xs,x.ids=[]:=by intro x u;rcases hx':x.ids with _|⟨s,r⟩;{rfl};exfalso;have:s∈ó st.boxes 3 (ø (xs.flatMap SV.ids)):=gO 3 _ s (cH.2 (ė.2 ⟨x,u,by rw [hx'];simp⟩));rw [lT] at this;cases this
   have b7:∀(w':World)(u:kI (λ_=>False) w w'),à n V0 bQ β0 st β a w' ((du V w).to w' u.size):=by intro w' u;refine hM.later u (λ_ _ _ _ h=>h) (λ_ _ h=>h.elim) ?_ ?_;{rintro b o ⟨E,M⟩;refine ⟨M,λhH=>?_⟩;by_cases N:b<w.heap.size;{apply E;refine ⟨N,λo' O=>(hM.tP b o' O).2 hH⟩};{have:=V0.hH b hH;omega}};rintro s b p l o ⟨E,-⟩;exact E ⟨aJ (hM.boxes s b p l),hM.Ak s b p l⟩
   rw [Ki b6 β λ_=>0]
   have plain:(∀V':ut,V.Le V'->aa P f (aI (λ_=>0) xs) V' λr fM=>sh.ex λx=>r=x.den (λ_=>0)/\K (st.put dst x) fM)->iK P f/\Calls P f (aI (λ_=>0) xs) w λ
     | .returned v,w''=>next (a.put dst v) w''
     | .panicked chain,w''=>Q (.panic chain) a w''
     | .outgrown,_=>LetsOut Q:=by
    intro hv;have ⟨hc,U⟩:=hv (du V w) hle;refine ⟨hc,Calls.s U ?_⟩;rintro e w' ⟨r,rfl,u,Y⟩;obtain ⟨x,A,rfl,S⟩:=Sh.fJ sh Y;have u:=u;exact hK (st.put dst x) β _ _ _ ((b7 w' u).Lc hd (kP A _ _) (cG A)) S
   split at hv
   ·split at hv;{rename_i d Z c8;split at hv;{exact hv.elim};rename_i q;have ⟨hc,U⟩:=hv (du V w) hle;refine ⟨hc,Calls.s U ?_⟩;rintro e' w' ⟨r,rfl,u,Y⟩;have A:kI (λb=>b∈([]:zA Nat).map (fk st.boxes (λ_=>0) w.heap.size)/\(du V w).H b) w w':=u.s λ_ h=>h.elim;have b3:cM T true sh [] Option.none d Z (λ_=>0) st (du V w) K r (((du V w).ao (([]:zA Nat).map (fk st.boxes (λ_=>0) w.heap.size))).to w' A.size):=by{unfold cM KK at Y ⊢;exact Y};have ⟨st',β',V',E,M⟩:=rM (T:=T) (give:=true) (m:=Option.none) hM (λs g=>Å g ψ) (λs g=>Å g ψ) (λs g=>Å g ψ) (hd d rfl) (λk W=>by cases W) q A b3;exact hK _ _ _ _ _ E M};{exact plain hv};exact hv.elim
   ·split at hv;{rename_i d;split at hv;{exact hv.elim};rename_i hn;split at hv;{rename_i ti c9;split at hv;{rename_i e he;split at hv;{rename_i ei Ku;have ⟨hc,U⟩:=hv (du V w) hle;refine ⟨hc,Calls.s U ?_⟩;rintro e' w' ⟨r,rfl,u,b,Y⟩;obtain ⟨cs,E,M,rfl,h4,h5,h6⟩:=wu _ Y;exact hK _ _ _ _ _ ((b7 w' u).adopt1 (w0:=w) (λs b p l=>aJ (hM.boxes s b p l)) b5 (hd d rfl) hn h4 rfl h5 E) h6};exact hv.elim};exact hv.elim};exact hv.elim};exact hv.elim
   ·exact plain hv
  ·rename_i s0 r0 lT;split at hv
   ·exact hv.elim
   ·rename_i a4;generalize hL:s0::r0=L at hv lT a4
    have a5:∀x∈xs,∀s∈x.ids,s∈L:=by intro x u s g;rw [<-lT];exact gO 3 _ s (cH.2 (ė.2 ⟨x,u,g⟩))
    have a3:∀s∈L,∀b,st.boxes s=some b->∀t∈b.cs.ids,t∈L:=λs g b p=>fU a4 g p
    have a8:∀{R:(Nat->Nat)->un->ut->Prop},(nS L (λ_=>0) λγ=>kG st.boxes γ (du V w) L (aa P f (aI γ xs) ((du V w).ao (L.map (fk st.boxes γ w.heap.size))) (R γ))) ->
      ∃γ,(∀s∈L,γ s=β s)/\(∀s∈L,∃b,st.boxes s=some b)/\aa P f (aI β xs) ((du V w).ao (L.map (fk st.boxes γ w.heap.size))) (R γ):=by
     intro R hv;have G:=jg hv β;generalize hγ:(λt=>if t∈L then β t else (λ_=>0) t)=γ at G;have F:∀s∈L,γ s=β s:=λs g=>by rw [<-hγ];simp [g]
     have Cv:∀s∈L,∀b,st.boxes s=some b->b.obj γ=b.obj β:=λs g b p=>a_.dJ λt X=>F t (a3 s g b p t X)
     have ⟨B,b8⟩:=CK G (by
      intro s g b p l;rw [F s g,Cv s g b p];exact ⟨hM.boxes s b p l,aJ (hM.boxes s b p l),hM.Ak s b p l⟩) (by
      intro s g t X b b' p l c3 l' e;rw [F s g,F t X] at e;exact hM.inj s t b b' p l c3 l' e)
     refine ⟨γ,F,B,?_⟩
     have D:aI γ xs=aI β xs:=by unfold aI;rw [š λx u=>SV.cg λs g=>F s (a5 x u s g)]
     rw [<-D];exact b8
    have a1:∀{give:md} {mm:Option Nat} {d:Nat} {Z:TypeId},dst=some d->(∀k,mm=some k->k∈L)->mf st mm d=true ->
      (∀V':ut,V.Le V'->nS L (λ_=>0) λγ=>kG st.boxes γ V' L (aa P f (aI γ xs) (V'.ao (L.map (fk st.boxes γ V'.w.heap.size))) (cM T give sh L mm d Z γ st V' K))) ->
      iK P f/\Calls P f (aI β xs) w λ
       | .returned v,w''=>next (a.put dst v) w''
       | .panicked chain,w''=>Q (.panic chain) a w''
       | .outgrown,_=>LetsOut Q:=by
     intro give mm d Z a9 c4 q hv;have ⟨γ,F,B,hc,U⟩:=a8 (R:=λγ=>cM T give sh L mm d Z γ st (du V w) K) (hv (du V w) hle);refine ⟨hc,Calls.s U ?_⟩;rintro e w' ⟨r,rfl,u,Y⟩;have ⟨st',β',V',E,M⟩:=rM hM F a3 B (hd d a9) c4 q u Y;rw [a9];exact hK _ _ _ _ _ E M
    have b9:∀k,k∈wN st.boxes L->k∈L:=by
     intro k W;unfold wN at W;have ⟨s,g,W⟩:=ė.1 (cH.1 W);split at W
     ·rename_i cs ty p;refine a3 s g _ p k ?_
      have:∀cs:zA C,k∈u_ cs->k∈cs.flatMap C.ids:=by
       intro cs
       induction cs with
       | nil=>exact λh=>nomatch h
       | cons c r ih=>
        intro h;rw [Ę,ü]
        cases c<;>simp only [u_,í] at h<;>first
         | exact .inr (ih h)
         | (rcases h with h|h
            ·left;simp [C.ids,h]
            ·exact .inr (ih h))
      exact this cs W
     ·cases W
    have c0:∀k,k∈pD xs->k∈L:=by
     intro k W
     have:∀xs:zA SV,k∈pD xs->∃x∈xs,k∈x.ids:=by
      intro xs
      induction xs with
      | nil=>exact λh=>nomatch h
      | cons x r ih=>
       intro h;unfold pD at h;split at h
       ·rename_i heq;cases heq
       ·rename_i s n c r' heq;cases heq;exact ⟨.c (.dT s n c),ď,h⟩
       ·rename_i s n c r' heq;cases heq;exact ⟨.c (.nG s 0 n c),ď,h⟩
       ·rename_i heq;cases heq;have ⟨y,hy,W⟩:=ih h;exact ⟨y,by simp [hy],W⟩
     have ⟨x,u,W⟩:=this xs W;exact a5 x u k W
    split at hv
    ·exact hv.elim
    ·exact hv.elim
    ·
     split at hv
     ·split at hv;{exact hv.elim};rename_i q;exact a1 rfl (λk W=>by cases W) q hv
     ·rename_i d Z k _ c5 _;split at hv
      ·split at hv;{exact hv.elim};rename_i q;exact a1 rfl (λj hj=>by cases hj;exact c0 k (by rw [c5];simp)) q hv
      ·split at hv
       ·exact hv.elim
       ·rename_i q;split at hv
        ·exact hv.elim
        ·
         rename_i z;rw [Į] at z;let Vr:ut:=⟨w,λb=>(b<w.heap.size/\∀o,¬V.aX b o)/\¬∃s∈L,∃I,st.boxes s=some I/\I.live/\β s=b,λ_=>False,λ_ h=>h.1.1,λ_ h=>h.elim⟩;have a0:V.Le Vr:=λb o p=>⟨λh=>h.1.2 o p,(hM.tP b o p).1⟩
         have Nu:à n V0 bQ β0 (eQ st L 0) β a w Vr:=by have MH:=hM.Mw (L:=L) (ty:=0);refine ⟨MH.defers,MH.size,MH.aC,MH.Ew,MH.Ev,MH.boxes,MH.inj,?_,?_,MH.ext,MH.own,MH.oP,MH.nh,hM.small⟩;{rintro b o ⟨E,M⟩;refine ⟨M,λhH=>?_⟩;have N:=aJ M;apply E;refine ⟨⟨N,λo' O=>(hM.tP b o' O).2 hH⟩,λhm=>?_⟩;obtain ⟨s,g,I,J,l0,rfl⟩:=hm;rcases hM.own s I J l0 with h|h;{have:=V0.hH _ hH;omega};{have:=Ş (z s g);omega}};rintro s b p l o ⟨E,-⟩;rw [bz] at p;split at p;{cases p;exact Å l fY};rename_i a6;refine E ⟨⟨aJ (hM.boxes s b p l),hM.Ak s b p l⟩,λhm=>?_⟩;obtain ⟨s',a2,bs,a7,ls,he⟩:=hm;exact a6 (hM.inj s' s bs b a7 ls p l he▸a2)
         have G:=jg (hv (du Vr w) (a0.m (zj Nu))) β;generalize hγ:(λt=>if t∈L then β t else (λ_=>0) t)=γ at G;have F:∀s∈L,γ s=β s:=λs g=>by rw [<-hγ];simp [g]
         have ⟨B,hc,U⟩:=jA G (by
          intro s g b p l;rw [F s g,a_.dJ λt X=>F t (fU a4 g p t X)];exact zj Nu _ _ ⟨λh=>h.2 ⟨s,g,b,p,l,rfl⟩,hM.boxes s b p l⟩)
         refine ⟨hc,?_⟩
         have D:aI γ xs=aI β xs:=by unfold aI;rw [š λx u=>SV.cg λs g=>F s (a5 x u s g)]
         rw [D] at U;refine Calls.s U ?_;rintro e' w' ⟨r,rfl,u,Y⟩;have A:kI (λb=>b∈([]:zA Nat).map (fk (eQ st L 0).boxes (λ_=>0) w.heap.size)/\(du Vr w).H b) w w':=u.s λ_ h=>h.elim
         have b3:cM T true sh [] Option.none d Z (λ_=>0) (eQ st L 0) (du Vr w) K r (((du Vr w).ao (([]:zA Nat).map (fk (eQ st L 0).boxes (λ_=>0) w.heap.size))).to w' A.size):=by unfold cM KK at Y ⊢;exact Y
         have ⟨st',β',V',E,M⟩:=rM (T:=T) (give:=true) (m:=Option.none) Nu (λs g=>Å g ψ) (λs g=>Å g ψ) (λs g=>Å g ψ) (hd d rfl) (λk W=>by cases W) q A b3;grind
     ·split at hv
      ·exact hv.elim
      ·
       rename_i z;rw [Į] at z;let Vr:ut:=⟨w,λb=>(b<w.heap.size/\∀o,¬V.aX b o)/\¬∃s∈L,∃I,st.boxes s=some I/\I.live/\β s=b,λ_=>False,λ_ h=>h.1.1,λ_ h=>h.elim⟩;have a0:V.Le Vr:=λb o p=>⟨λh=>h.1.2 o p,(hM.tP b o p).1⟩;have G:=jg (hv Vr a0) β;generalize hγ:(λt=>if t∈L then β t else (λ_=>0) t)=γ at G;have F:∀s∈L,γ s=β s:=λs g=>by rw [<-hγ];simp [g]
       have ⟨B,hc,U⟩:=jA G (by
        intro s g b p l;rw [F s g,a_.dJ λt X=>F t (fU a4 g p t X)];exact ⟨λh=>h.2 ⟨s,g,b,p,l,rfl⟩,hM.boxes s b p l⟩)
       refine ⟨hc,?_⟩
       have D:aI γ xs=aI β xs:=by unfold aI;rw [š λx u=>SV.cg λs g=>F s (a5 x u s g)]
       rw [D] at U;refine Calls.s U ?_;rintro e w' ⟨r,rfl,u,Y⟩;obtain ⟨x,A,rfl,S⟩:=Sh.fJ sh Y;have u:=u;refine hK _ β _ _ _ ?_ S
       have b4:à n V0 bQ β0 (eQ st L 0) β a w' (Vr.to w' u.size):=by refine (hM.Mw (L:=L) (ty:=0)).later u (λ_ _ _ _ h=>h) (λ_ _ h=>h.elim) ?_ ?_;{rintro b o ⟨E,M⟩;refine ⟨M,λhH=>?_⟩;by_cases N:b<w.heap.size;{apply E;refine ⟨⟨N,λo' O=>(hM.tP b o' O).2 hH⟩,λhm=>?_⟩;obtain ⟨s,g,I,J,l0,rfl⟩:=hm;rcases hM.own s I J l0 with h|h;{have:=V0.hH _ hH;omega};{have:=Ş (z s g);omega}};{have:=V0.hH b hH;omega}};rintro s b p l o ⟨E,-⟩;rw [bz] at p;split at p;{cases p;exact Å l fY};rename_i a6;refine E ⟨⟨aJ (hM.boxes s b p l),hM.Ak s b p l⟩,λhm=>?_⟩;obtain ⟨s',a2,bs,a7,ls,he⟩:=hm;exact a6 (hM.inj s' s bs b a7 ls p l he▸a2)
       exact b4.Lc hd (kP A _ _) (cG A)
     ·exact hv.elim
    ·
     split at hv
     ·have ⟨γ,F,B,hc,U⟩:=a8 (R:=λγ r' fM=>sh.ex λx=>r'=x.den (λ_=>0)/\fX T Option.none γ fM L st λst'=>K (st'.put dst x) fM.shut) (hv (du V w) hle);refine ⟨hc,Calls.s U ?_⟩;rintro e w' ⟨r,rfl,u,Y⟩;obtain ⟨x,A,rfl,S⟩:=Sh.fJ sh Y;have u:=u;generalize hV1:(((du V w).ao (L.map (fk st.boxes γ w.heap.size))).to w' u.size)=V2 at S;have c1:V2.w=w':=by rw [<-hV1];rfl
      have c2:∀b,(b∈L.map (fk st.boxes γ w.heap.size)/\(du V w).H b)->∃s∈L,∃I,st.boxes s=some I/\I.live/\β s=b:=by rintro b ⟨E,M⟩;have ⟨s,g,I,J,l0,he⟩:=CI B E M.1;exact ⟨s,g,I,J,l0,by rw [<-F s g];exact he⟩
      have Rg:∀b o,V2.shut.aX b o->w'.heap[b]?=some o/\¬(b<w.heap.size/\∀o,¬V.aX b o):=by rintro b o ⟨E,M⟩;rw [<-hV1] at E M;exact ⟨M,E⟩
      have Aj:∀s b,st.boxes s=some b->b.live->∀o,¬V2.shut.aX (β s) o:=λs b p l o ho=>
       (Rg _ o ho).2 ⟨aJ (hM.boxes s b p l),hM.Ak s b p l⟩
      have MH:à n V0 bQ β0 (eQ st L 0) β a w' V2.shut:=by refine (hM.Mw (L:=L) (ty:=0)).later u ?_ ?_ ?_ ?_;{intro t b p l hX;rw [bz] at p;split at p;{cases p;exact fY l};rename_i X;have ⟨s,g,I,J,l0,he⟩:=c2 _ hX;exact X (hM.inj s t I b J l0 p l he▸g)};{intro i hi hX;obtain ⟨s,g,I,J,l0,rfl⟩:=c2 _ hX;rcases hM.own s I J l0 with h|h;{omega};exact hM.nh _ h.2};{intro b o h;have ⟨E,M⟩:=Rg b o h;refine ⟨E,λhH=>?_⟩;by_cases N:b<w.heap.size;{exact M ⟨N,λo' O=>(hM.tP b o' O).2 hH⟩};{have:=V0.hH b hH;omega}};intro t b p l;rw [bz] at p;split at p;{cases p;exact Å l fY};exact Aj t b p l
      have lS:=CJ S
      have ⟨st',g1,g2,g3,g4⟩:=pC (a:=a) (w:=w') (V:=V2.shut) (γ:=γ) (β:=β) c1 F
       (by
        intro s g s' a2 he;have ⟨b1,e1,l1⟩:=lS s g;have ⟨b2,e2,l2⟩:=lS s' a2;exact hM.inj s s' b1 b2 e1 l1 e2 l2 he)
       (by intro s g;have ⟨b1,e1,l1⟩:=lS s g;exact Aj s b1 e1 l1)
       (by intro s g;have ⟨b1,e1,l1⟩:=lS s g;exact hM.own s b1 e1 l1)
       L st (eQ st L 0) (λ_ h=>h) MH ka.symm (by intro t X;rw [bz,Ã X])
       (by intro s g;rw [bz,Ä g];exact ⟨_,rfl⟩)
       (by
        intro t b X l Xz s g he;rw [bz,Ã Xz] at X;have ⟨b1,e1,l1⟩:=lS s g;exact Xz (hM.inj t s b b1 X l e1 l1 he▸g))
       (by
        intro s g b p t X;have Zj:=a3 s g b p t X;exact ⟨by rw [bz,Ä Zj];exact ⟨_,rfl⟩,F t Zj⟩)
       (λm nb e=>by cases e) S
      exact hK _ _ _ _ _ (g1.Lc hd (kP A _ _) (cG A)) g4
     ·rename_i k c6;split at hv;{rename_i d Z _;split at hv;{exact hv.elim};rename_i q;exact a1 rfl (λj hj=>by cases hj;exact b9 k (by rw [c6];simp)) q hv};exact hv.elim
     ·exact hv.elim
    ·
     split at hv
     ·exact hv.elim
     ·rename_i z;rw [Į] at z;let Vr:ut:=⟨w,λb=>(b<w.heap.size/\∀o,¬V.aX b o)/\¬∃s∈L,∃I,st.boxes s=some I/\I.live/\β s=b,λ_=>False,λ_ h=>h.1.1,λ_ h=>h.elim⟩;have a0:V.Le Vr:=λb o p=>⟨λh=>h.1.2 o p,(hM.tP b o p).1⟩;have G:=jg (hv Vr a0) β;generalize hγ:(λt=>if t∈L then β t else (λ_=>0) t)=γ at G;have F:∀s∈L,γ s=β s:=λs g=>by rw [<-hγ];simp [g]
      have ⟨B,hc,U⟩:=jA G (by
       intro s g b p l;rw [F s g,a_.dJ λt X=>F t (fU a4 g p t X)];exact ⟨λh=>h.2 ⟨s,g,b,p,l,rfl⟩,hM.boxes s b p l⟩)
      refine ⟨hc,?_⟩
      have D:aI γ xs=aI β xs:=by unfold aI;rw [š λx u=>SV.cg λs g=>F s (a5 x u s g)]
      rw [D] at U;refine Calls.s U ?_;rintro e w' ⟨r,rfl,u,Y⟩;obtain ⟨x,A,rfl,S⟩:=Sh.fJ sh Y;have u:=u;refine hK ((st.rel L γ (C.den β)).put dst x) β _ _ _ ?_ (S (C.den β))
      have b4:à n V0 bQ β0 (st.rel L γ (C.den β)) β a w' (Vr.to w' u.size):=by refine (hM.rel (L:=L) (β':=γ) F).later u (λ_ _ _ _ h=>h) (λ_ _ h=>h.elim) ?_ ?_;{rintro b o ⟨E,M⟩;refine ⟨M,λhH=>?_⟩;by_cases N:b<w.heap.size;{apply E;refine ⟨⟨N,λo' O=>(hM.tP b o' O).2 hH⟩,λhm=>?_⟩;obtain ⟨s,g,I,J,l0,rfl⟩:=hm;rcases hM.own s I J l0 with h|h;{have:=V0.hH _ hH;omega};{have:=Ş (z s g);omega}};{have:=V0.hH b hH;omega}};rintro s b p l o ⟨E,-⟩;obtain ⟨a6,y,hy,rfl⟩:=jB p;have ly:=a_.iX l;refine E ⟨⟨aJ (hM.boxes s y hy ly),hM.Ak s y hy ly⟩,λhm=>?_⟩;obtain ⟨s',a2,bs,a7,ls,he⟩:=hm;exact a6 (hM.inj s' s bs y a7 ls hy ly he▸a2)
      exact b4.Lc hd (kP A _ _) (cG A)
def à.release (M:à n V0 bQ β0 st β a w V){l:zA Nat}{K:St->ut->Prop}(N:Qp l st V K):∃O V',à n V0 bQ β0 O β a w V'/\V.Le V'/\K O V':=by
 unfold Qp at N;split at N
 ·exact ⟨st,V,M,λ_ _ h=>h,N⟩
 ·rename_i B D;split at N
  ·exact N.elim
  ·rename_i k;generalize hL:B::D=L at N k;rw [Đ,Į] at k;obtain ⟨m,d⟩:=k;let Z:ut:=⟨w,λb=>(b<w.heap.size/\∀o,¬V.aX b o)/\¬∃s∈L,∃j,st.boxes s=some j/\j.live/\β s=b,λ_=>False,λ_ h=>h.1.1,λ_ h=>h.elim⟩;have e:V.Le Z:=λb o f=>⟨λh=>h.1.2 o f,(M.tP b o f).1⟩;have i:=jg (N Z e) β;generalize hγ:(λt=>if t∈L then β t else (λ_=>0) t)=γ at i;have p:∀s∈L,γ s=β s:=λs g=>by rw [<-hγ];simp [g]
   have ⟨q,E⟩:=jA i (by
    intro s g b f l;rw [p s g,a_.dJ λt F=>p t (fU m g f t F)];exact ⟨λh=>h.2 ⟨s,g,b,f,l,rfl⟩,M.boxes s b f l⟩)
   have c:=M.rel (L:=L) (β':=γ) p;refine ⟨_,Z,?_,e,E (C.den β)⟩;refine ⟨c.defers,c.size,c.aC,c.Ew,c.Ev,c.boxes,c.inj,?_,?_,c.ext,c.own,c.oP,c.nh,M.small⟩
   ·rintro b o ⟨r,x⟩;refine ⟨x,λhH=>?_⟩;apply r;refine ⟨⟨(aJ x),λG u=>(M.tP b G u).2 hH⟩,λhm=>?_⟩;obtain ⟨s,g,j,v,H,rfl⟩:=hm;rcases M.own s j v H with h|h;{have:=V0.hH _ hH;omega};{have:=Ş (d s g);omega}
   ·rintro s b f l o ⟨r,-⟩;obtain ⟨I,y,z,rfl⟩:=jB f;have A:=a_.iX l;refine r ⟨⟨aJ (M.boxes s y z A),M.Ak s y z A⟩,λhm=>?_⟩<;>grind [M.inj]
def Dx {bx:Nat->Option a_}{β:Nat->Nat}:∀{xs u:zA SV} {vs:zA un} {c:Nat},pT bx xs=some (vs,c,u)->c=0->u.map (SV.den β)=xs.map (SV.den β)
 | [],_,_,_,h,_=>nomatch h
 | x::r,u,vs,c,h,y=>by
  simp only [pT] at h;split at h
  ·split at h
   ·cases h;subst y;simp [SV.den,C.den,mA]
   ·cases h
  ·split at h
   ·rename_i e;cases h;rw [Ł,Ł,Dx e y]
   ·cases h
def Dy {bx:Nat->Option a_}:∀{xs u:zA SV} {vs:zA un} {c:Nat},pT bx xs=some (vs,c,u)->∀t∈u.flatMap SV.ids,t∈xs.flatMap SV.ids
 | [],_,_,_,h=>nomatch h
 | x::r,u,vs,c,h=>by
  simp only [pT] at h;split at h
  ·grind [SV.ids,C.ids]
  ·split at h
   ·rename_i e;cases h;intro t y;rw [Ę,ü] at y ⊢;exact y.imp_right (Dy e t)
   ·cases h
def xg {bx bx':Nat->Option a_}:∀{xs:zA SV},(∀s∈xs.flatMap SV.ids,bx' s=bx s)->pT bx' xs=pT bx xs
 | [],_=>rfl
 | x::r,h=>by
  have u:=xg (xs:=r) λs a=>h s (by rw [Ę];exact ŝ _ a);simp only [pT];grind [SV.ids,C.ids]
def uN (D:à n V0 bQ β0 st β a w V){m:CM}{f:FuncId}{xs:zA SV}{ty:TypeId}{dst:Option Nat}{K:St->ut->Prop}{next:Act->World->Prop}{Q:Exit->Act->World->Prop}(E:∀d,dst=some d->d<n)(u:mz P T m f xs ty dst st V K)(F:∀z β' M w' V',à n V0 bQ β0 z β' M w' V'->K z V'->next M w'):iK P f/\Calls P f (aI β xs) w λ
   | .returned v,y=>next (a.put dst v) y
   | .panicked chain,y=>Q (.panic chain) a y
   | .outgrown,_=>LetsOut Q:=by unfold mz at u;split at u;{split at u;{rename_i b c g e;by_cases h:b=[];{have ⟨i,j⟩:=u.1 h;have:=mP (Q:=Q) D E j F;unfold aI at this ⊢;rw [Dx e i] at this;exact this};exact mP D E (u.2 h) F};exact mP D E u F};exact mP D E u F
end
end Go.Eng
