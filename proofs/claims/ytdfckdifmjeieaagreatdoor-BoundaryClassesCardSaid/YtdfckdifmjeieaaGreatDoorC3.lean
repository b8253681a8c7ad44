import Derived.Test.YtdfckdifmjeieaaGreatDoorC2
set_option linter.all false
open Go.IntKind (i64 u64 u32)
namespace Go.Eng
section
variable{P:Program}{T:eA}{n:Nat}{V0:Ó}{bU:Nl}{β0:Nat->Nat}{st:St}{β:Nat->Nat}{a:Act}{w:World}{V:Ó}
def dX {x:Nat}{l:zA Nat}:jm x l=true↔x∈l:=by
 induction l with
 | nil=>simp [jm]
 | cons y r u=>
  simp only [jm,ç];grind [beq_eq.1,Nat.beq_refl]
theorem pX {x:Nat}{l:zA Nat}:jm x l=false↔x∉l:=by rw [<-dX];cases jm x l<;>simp
def KQ {l m:zA Nat}:Fa l m=true↔∀x∈l,x∉m:=by unfold Fa;grind [pX]
theorem C.jU {L:zA Nat}{β':Nat->Nat}(hβ:∀s∈L,β' s=β s)(c:C):(c.rel L β' (C.den β)).den β=c.den β/\∀s∈(c.rel L β' (C.den β)).ids,s∈c.ids/\s∉L:=by cases c<;>grind [C.rel,C.den,dX.1,C.ids,pX.1,KQ.1]
def xh {L:zA Nat}{β':Nat->Nat}(hβ:∀s∈L,β' s=β s)(cs:zA C):(cs.map (C.rel L β' (C.den β))).map (C.den β)=cs.map (C.den β)/\∀s∈(cs.map (C.rel L β' (C.den β))).flatMap C.ids,s∈cs.flatMap C.ids/\s∉L:=by refine ⟨?_,λs a=>?_⟩;{rw [Wq2];exact Ř λc _=>(C.jU hβ c).1};grind [C.jU]
theorem SV.jU {L:zA Nat}{β':Nat->Nat}(hβ:∀s∈L,β' s=β s)(x:SV):(x.rel L β' (C.den β)).den β=x.den β/\∀s∈(x.rel L β' (C.den β)).ids,s∈x.ids/\s∉L:=by
 cases x with
 | c c=>exact C.jU hβ c
 | agg cs=>
  have ⟨a,d⟩:=xh hβ cs;exact ⟨by simp only [SV.rel,SV.den,a],d⟩
 | xU xs=>
  refine ⟨?_,λs e=>?_⟩
  ·simp only [SV.rel,SV.den,Wq2];congr 2;apply Ř;rintro ⟨b,cs⟩ -
   have a:=(xh hβ cs).1
   cases b with
   | true=>simp only [Function.comp,kT,a]
   | false=>
    match cs with
    | []=>rfl
    | [x]=>simp only [Function.comp,Ĺ,List.map_nil,kT];exact (C.jU hβ x).1
    | _::_::_=>rfl
  ·have ⟨i,f,e⟩:=č.1 e;obtain ⟨y,g,rfl⟩:=þ.1 f;obtain ⟨a,d⟩:=(xh hβ y.2).2 s e;exact ⟨č.2 ⟨y,g,a⟩,d⟩
theorem aZ.jU {L:zA Nat}{β':Nat->Nat}(hβ:∀s∈L,β' s=β s)(b:aZ):(b.rel L β' (C.den β)).obj β=b.obj β/\∀s∈(b.rel L β' (C.den β)).cs.ids,s∈b.cs.ids/\s∉L:=by obtain ⟨cs,ty⟩:=b;(cases cs with|lit cs=>{have ⟨c,d⟩:=xh hβ cs;exact ⟨by simp only [aZ.rel,aZ.obj,æ.den,c],d⟩}|row vs=>{exact ⟨rfl,λs a=>by cases a⟩}|aH vs=>{exact ⟨rfl,λs a=>by cases a⟩})
theorem aZ.iZ {L:zA Nat}{β':Nat->Nat}{J:C->um}{b:aZ}(h:(b.rel L β' J).live):b.live:=by obtain ⟨cs,ty⟩:=b;(cases cs with|aH vs=>exact h|_=>grind [dP,dQ])
theorem Hl {L:zA Nat}{β':Nat->Nat}{J:C->um}{t:Nat}{x:SV}(h:(st.rel L β' J).aF t=some x):∃y,st.aF t=some y/\x=y.rel L β' J:=by grind [St.rel]
theorem jC {L:zA Nat}{β':Nat->Nat}{J:C->um}{t:Nat}{x:aZ}(h:(st.rel L β' J).boxes t=some x):t∉L/\∃y,st.boxes t=some y/\x=y.rel L β' J:=by grind [St.rel,pX.1]
def iZ {L:zA Nat}{β':Nat->Nat}{J:C->um}{t:Nat}(h:∃b,st.boxes t=some b)(u:t∉L):∃b,(st.rel L β' J).boxes t=some b:=by obtain ⟨b,a⟩:=h;refine ⟨b.rel L β' J,?_⟩<;>grind [St.rel,pX.2]
def ß.rel (h:ß n V0 bU β0 st β a w V){L:zA Nat}{β':Nat->Nat}(hβ:∀s∈L,β' s=β s):ß n V0 bU β0 (st.rel L β' (C.den β)) β a w V where
 defers:=h.defers
 size:=h.size
 aF:=by grind [Hl,h.aF,SV.jU]
 EK:=by
  intro t x i s d;obtain ⟨y,c,rfl⟩:=Hl i;obtain ⟨e,f⟩:=(SV.jU hβ y).2 s d;exact iZ (h.EK t y c s e) f
 EJ:=by intro t b g s d;obtain ⟨-,y,c,rfl⟩:=jC g;obtain ⟨e,f⟩:=(aZ.jU hβ y).2 s d;exact iZ (h.EJ t y c s e) f
 boxes:=by grind [jC,h.boxes,aZ.iZ,aZ.jU]
 inj:=by grind [jC,h.inj,aZ.iZ]
 tK:=h.tK
 Ar:=by grind [jC,h.Ar,aZ.iZ]
 ext:=h.ext
 own:=by intro t b g l;obtain ⟨-,y,c,rfl⟩:=jC g;exact h.own t y c (aZ.iZ l)
 pf:=h.pf
 nt:=h.nt
 small:=h.small
def ß.kL (h:ß n V0 bU β0 st β a w V){d g:Nat}{b:aZ}(hd:d<n\/200000<=d)(N:st.boxes d=none)(lY:b.cs.ids=[])(M:∀s b',st.boxes s=some b'->b'.live->β s≠g)(O:∀o,¬V.bo g o)(hown:V0.w.heap.size<=g\/(100000<=d/\bU.B g)){w':World}(hw:w'.heap[g]?=some (b.obj β))(Z:∀i,i<w.heap.size->i≠g->w'.heap[i]?=w.heap[i]?)(hsz:w.heap.size<=w'.heap.size)(hos:w'.os=w.os)(ht:w'.tape=w.tape)(hout:w'.output=w.output)(hdr:w.drawn<=w'.drawn:=by first|exact Ù _|exact Ww7 _):ß n V0 bU β0 (st.box d b) (cF β d g) a w' V:=by have u:∀s b',st.boxes s=some b'->s≠d:=λs b' c e=>by{rw [e,N] at c;cases c};have hβ:∀s b',st.boxes s=some b'->cF β d g s=β s:=λs b' c=>jd _ _ (u s b' c);have v:∀s b',st.boxes s=some b'->b'.live->β s<w.heap.size:=λs b' c l=>aN (h.boxes s b' c l);have z:∀b' o,V.bo b' o->b'<w.heap.size:=λb' o A=>aN (h.tK b' o A).1;refine ⟨h.defers,h.size,?_,?_,?_,?_,?_,?_,?_,?_,?_,?_,h.nt,h.small⟩;{intro t x p;rw [h.aF t x p];exact SV.bZ λs c=>by{have ⟨b',f⟩:=h.EK t x p s c;exact (hβ s b' f).symm}};{intro t x p s c;have ⟨b',f⟩:=h.EK t x p s c;grind [aq]};{grind [aq,h.EJ]};{intro s b' c l;rw [aq] at c;split at c;{rename_i e;simp only [ā] at c;rw [e,bh,hw,<-c];grind [aZ.dK]};rw [hβ s b' c,Z _ (v s b' c l) (M s b' c l),h.boxes s b' c l];grind [aZ.dK,h.EJ]};{intro s y b1 b2 j C k D he;rw [aq] at j k;split at j<;>split at k;{rename_i q r;rw [q,r]};{rename_i q r;rw [q,bh,hβ y b2 k] at he;exact Å he.symm (M y b2 k D)};{rename_i q r;rw [r,bh,hβ s b1 j] at he;exact Å he (M s b1 j C)};grind [h.inj]};{grind [h.tK]};{intro s b' c l o m;rw [aq] at c;split at c;{rename_i e;rw [e,bh] at m;exact O o m};grind [h.Ar]};{refine ⟨ÿ h.ext.size hsz,λi E F=>?_,hos.m h.ext.os,ht.m h.ext.tape,hout.m h.ext.out,ÿ h.ext.dr hdr⟩<;>grind [h.nt,h.ext.bo]};{intro s b' c l;rw [aq] at c;split at c;{rename_i e;rw [e,bh];exact hown};rw [hβ s b' c];exact h.own s b' c l};intro s c;have ⟨j,k⟩:=h.pf s c;grind [jd,h.small]
theorem Gh {t t' e y:TypeId}{ty:TypeId}(z:P.underlying t=some (.slice e))(K1:P.underlying t'=some (.slice y))(b u:OA)(m c k xc:Nat):(Builtin.append_ #[t,t'] ty #[.slice b m c,.slice u k xc]).run P w=(Builtin.append_ #[t,t] ty #[.slice b m c,.slice u k xc]).run P w:=by simp [Builtin.append_,aj z,aj K1]
theorem BN {t e:TypeId}{ty:TypeId}{info:TypeInfo}(u:P.underlying t=some (.slice e))(hi:P.info? e=some info)(base:OA)(m c y:Nat)(z:m<=c):(Builtin.append_ #[t,t] ty #[.slice base m c,.slice none 0 y]).run P w=.ok (.slice base m c) w:=by cases base<;>simp [Builtin.append_,aj u,aU hi,Builtin.lenOf,Builtin.firstCells,storeCells,z]
def qS (y:ß n V0 bU β0 st β a w V){s:Nat}{vs:zA um}{ty:TypeId}(h:gz st.boxes s=some vs)(u:nZ st.boxes s=some ty):w.heap[β s]?=some (.cells vs.toArray ty (0,0))/\∃b,st.boxes s=some b/\b.live:=by unfold gz at h;unfold nZ at u;split at h;{rename_i cs d c;rw [c] at u;simp only [ā] at u;subst u;have:=y.row c dP;grind [æ.den,gO,dP]};{rename_i ws d c;rw [c] at u;simp only [ā,ā] at u h;subst u;subst h;exact ⟨y.row c dQ,_,c,dQ⟩};cases h
def Nw {bx:Nat->Option aZ}{s:Nat}{vs:zA um}(h:gz bx s=some vs):∃ty,nZ bx s=some ty:=by unfold gz at h;unfold nZ;split at h;{rename_i a;rw [a];exact ⟨_,rfl⟩};{rename_i a;rw [a];exact ⟨_,rfl⟩};cases h
theorem Dy (u:ß n V0 bU β0 st β a w V){ad:Addr}{xs:zA um}(h:V.sl (some ad) xs):∀j v,xs[j]?=some v->w.cell? (ad.add j)=some v:=by intro j v b;have ⟨c,e,d⟩:=h j v b;grind [u.atV]
def Src (w:World)(u:OA)(k size:Nat)(xs:List Value):Prop:=
 xs.length=k*size/\(∀v∈xs,v.oneCell'=true)/\((∃ad,u=some ad/\∀j v,xs[j]?=some v->w.cell? (ad.add j)=some v)\/u=none/\k=0)
def TQ {t e ty:TypeId}{info:TypeInfo}(F:P.underlying t=some (.slice e))(hi:P.info? e=some info){g m c k xc:Nat}{vs xs:zA um}{y:OA}(z:w.heap[g]?=some (.cells vs.toArray e (0,0)))(u:Src w y k info.size xs)(E:m+k<=c)(M:c*info.size<=vs.length):∃w',(Builtin.append_ #[t,t] ty #[.slice (some ⟨g,0,none⟩) m c,.slice y k xc]).run P w=.ok (.slice (some ⟨g,0,none⟩) (m+k) c) w'/\w'.heap=w.heap.setIfInBounds g (.cells (vs.take (m*info.size)++xs++vs.drop (m*info.size+xs.length)).toArray e (0,0))/\w'.os=w.os/\w'.tape=w.tape/\w'.output=w.output/\w.drawn<=w'.drawn:=by obtain ⟨d,f,u⟩:=u;rcases u with ⟨h,rfl,a⟩|⟨rfl,rfl⟩;{have b:m*info.size+xs.length<=vs.length:=by{rw [d,<-Đ];exact ÿ (Ă _ E) M};exact ⟨_,(run_append_room (P:=P) w t ty e info F hi g m c vs.toArray z h k xc xs d a f E (by simpa using b)),by rw [mo z],rfl,rfl,rfl,Ù _⟩};grind [BN,List.take_append_drop]
def Gg {t e ty:TypeId}{info:TypeInfo}{z:um}(F:P.underlying t=some (.slice e))(hi:P.info? e=some info)(M:info.zero=some z)(hzs:z.cells.size=info.size){m c k xc:Nat}{olds xs:zA um}{base O:OA}(hbase:(∃b,base=some b/\olds.length=m*info.size/\∀j v,olds[j]?=some v->w.cell? (b.add j)=some v)\/base=none/\m=0/\c=0/\olds=[])(u:Src w O k info.size xs)(y:c<m+k)(Z:(m+k)*info.bytes<=2^47)(hb0:info.bytes≠0)(hmc:m<=c):∃(E:Nat)(rest:zA um)(w':World),m+k<=E/\(m+k)*info.size+rest.length=E*info.size/\w'.heap=w.heap/\w'.os=w.os/\w'.tape=w.tape/\w'.output=w.output/\w.drawn<=w'.drawn/\(Builtin.append_ #[t,t] ty #[.slice base m c,.slice O k xc]).run P w=.ok (.slice (some ⟨w.heap.size,0,none⟩) (m+k) E) (w'.alloc (.cells (olds++xs++rest).toArray e)):=by obtain ⟨g,n,u⟩:=u;have f:(m+k:Nat)<=2^47:=by{have:(m+k)*1<=(m+k)*info.bytes:=Ň _ ω;omega};have a:∀N,(m+k)<=N->(m+k)*info.size+(Builtin.zeroCells z.cells (N-(m+k))).toList.length=N*info.size:=by{intro N o;rw [Ww9,size_zeroCells,hzs,<-Đ];congr 1;omega};rcases u with ⟨h,rfl,d⟩|⟨rfl,rfl⟩;{rcases hbase with ⟨b,rfl,i,hold⟩|⟨rfl,rfl,rfl,rfl⟩;{have l:=run_append_grow (P:=P) w t ty e info z F hi M b m c olds i hold h k xc xs g d y ω (growslice_fits y Z);refine ⟨_,(Builtin.zeroCells z.cells (grownCap w (m+k) c e-(m+k))).toList,w.drew,grownCap_ge w (m+k) c e,a _ (grownCap_ge w (m+k) c e),rfl,rfl,rfl,rfl,Ww7 _,?_⟩;rw [l];congr 3;apply ŀ;simp};simp only [ĉ] at y Z f a ⊢;refine ⟨_,(Builtin.zeroCells z.cells (grownCap w k 0 e-k)).toList,w.drew,grownCap_ge w k 0 e,a _ (grownCap_ge w k 0 e),rfl,rfl,rfl,rfl,Ww7 _,?_⟩;rw [(run_append_nil (P:=P) w t ty e info z F hi M h k xc xs g d ω ω ω)];congr 3;apply ŀ;simp};omega
def IJ {s d n:Nat}(u:d<n):uv s d<n\/200000<=uv s d:=by unfold uv;grind
theorem Qs {s d:Nat}(u:100000<=s):100000<=uv s d:=by unfold uv;have:Nat.blt s 100000=false:=by{(cases h:Nat.blt s 100000 with|false=>rfl|true=>{have:=Ŕ h;omega})};grind
def Kf (hM:ß n V0 bU β0 st β a w V){d:Nat}(hd:d<n){t e ty:TypeId}{info:TypeInfo}{z:um}(ht:P.underlying t=some (.slice e))(hi:P.info? e=some info)(hz:info.zero=some z)(hzs:z.cells.size=info.size)(hb0:info.bytes≠0){s:Nat}{vs xs:zA um}{m c k xc:Nat}{base xa:OA}(hbase:(base=some ⟨β s,0,none⟩/\w.heap[β s]?=some (.cells vs.toArray e (0,0))/\∃b,st.boxes s=some b/\b.live)\/(base=none/\m=0/\c=0/\k≠0))(hx:Src w xa k info.size xs)(hb:(m+k)*info.bytes<=2^47)(hmc:m<=c)(hcv:c*info.size<=vs.length)(hxl:xs.length=k*info.size)(hnb:st.boxes (uv s d)=none):∃(spare:zA um)(Z g:Nat)(w':World),m+k<=Z/\Z*info.size<=(m+k)*info.size+spare.length/\((c≠0\/k≠0)->Z≠0)/\(Builtin.append_ #[t,t] ty #[.slice base m c,.slice xa k xc]).run P w=.ok (.slice (some ⟨g,0,none⟩) (m+k) Z) w'/\∀bx:aZ,(bx=⟨.row (vs.take (m*info.size)++xs++spare),e⟩\/bx=⟨.aH (vs.take (m*info.size)++xs++spare),e⟩) ->ß n V0 bU β0 ((st.box s ⟨.aH [],e⟩).box (uv s d) bx) (cF β (uv s d) g) a w' V:=by
 have y:ß n V0 bU β0 (st.box s ⟨.aH [],e⟩) β a w V:=hM.void
 have C:∀bx:aZ,∀l:zA um,(bx=⟨.row l,e⟩\/bx=⟨.aH l,e⟩)->bx.cs.ids=[]/\bx.obj β=.cells l.toArray e (0,0):=by rintro bx l (rfl|rfl)<;>exact ⟨rfl,rfl⟩
 have I:∀t b,(st.box s ⟨.aH [],e⟩).boxes t=some b->b.live->st.boxes t=some b/\t≠s:=by grind [aq,fW]
 have J:(∃b,st.boxes s=some b/\b.live)\/True->(s≠uv s d\/st.boxes s=none)->(st.box s ⟨.aH [],e⟩).boxes (uv s d)=none\/s=uv s d:=by grind [aq]
 have h:c<m+k->((∃b,base=some b/\(vs.take (m*info.size)).length=m*info.size/\∀j v,(vs.take (m*info.size))[j]?=some v->w.cell? (b.add j)=some v)\/base=none/\m=0/\c=0/\vs.take (m*info.size)=[]) ->
   (s=uv s d->st.boxes s=none) ->
   ∃(spare:zA um)(Z g:Nat)(w':World),m+k<=Z/\Z*info.size<=(m+k)*info.size+spare.length/\((c≠0\/k≠0)->Z≠0) /\
   (Builtin.append_ #[t,t] ty #[.slice base m c,.slice xa k xc]).run P w=.ok (.slice (some ⟨g,0,none⟩) (m+k) Z) w' /\
   ∀bx:aZ,(bx=⟨.row (vs.take (m*info.size)++xs++spare),e⟩\/bx=⟨.aH (vs.take (m*info.size)++xs++spare),e⟩) ->
    ß n V0 bU β0 ((st.box s ⟨.aH [],e⟩).box (uv s d) bx) (cF β (uv s d) g) a w' V:=by
  intro D hold K;have ⟨Z,rest,w',L,U,B,F,p,q,r,M⟩:=Gg (ty:=ty) (xc:=xc) ht hi hz hzs hold hx D hb hb0 hmc;refine ⟨rest,Z,w.heap.size,_,L,by rw [<-U];exact Ù _,ω,M,?_⟩;intro bx f;have ⟨G,H⟩:=C bx _ f;have u:w'.heap.size=w.heap.size:=by rw [B]
  by_cases W:s=uv s d
  ·have X:(st.box s ⟨.aH [],e⟩).box (uv s d) bx=st.box (uv s d) bx:=by{grind [St.box]};rw [X];refine hM.kL (IJ hd) hnb G ?_ ?_ (.inl hM.ext.size) ?_ ?_ ?_ F p q r;{intro N O f l he;have:=aN (hM.boxes N O f l);omega};{intro o f;have:=aN (hM.tK _ o f).1;omega};{rw [H,<-u];exact heap_alloc_new _ _};{intro i Q _;rw [fC _ _ ω,B]};simp [u]
  ·refine y.kL (IJ hd) (by rw [aq,Ã (Ne.symm W)];exact hnb) G ?_ ?_ (.inl hM.ext.size) ?_ ?_ ?_ F p q r;{intro N O f l he;have:=aN (y.boxes N O f l);omega};{intro o f;have:=aN (hM.tK _ o f).1;omega};{rw [H,<-u];exact heap_alloc_new _ _};{intro i Q _;rw [fC _ _ ω,B]};simp [u]
 rcases hbase with ⟨rfl,R,S,A,E⟩|⟨rfl,rfl,rfl,Y⟩
 ·have x:s≠uv s d:=λe=>by{rw [<-e,A] at hnb;cases hnb};by_cases D:m+k<=c;{have ⟨w',M,B,F,p,q,r⟩:=TQ (ty:=ty) (xc:=xc) ht hi R hx D hcv;have T:m*info.size+xs.length<=vs.length:=by{rw [hxl,<-Đ];exact ÿ (Ă _ D) hcv};refine ⟨vs.drop (m*info.size+xs.length),c,β s,w',D,by rw [Ĵ,hxl,Đ];omega,ω,M,?_⟩;intro bx f;have ⟨G,H⟩:=C bx _ f;refine y.kL (IJ hd) (by rw [aq,Ã (Ne.symm x)];exact hnb) G ?_ (hM.Ar s S A E) ?_ ?_ ?_ (by rw [B];simp) F p q r;{grind [hM.inj]};{rcases hM.own s S A E with L|L<;>grind [Qs]};{rw [B,Array.getElem?_setIfInBounds,Ä rfl,Ä (aN R),H]};grind};refine h ω (.inl ⟨⟨β s,0,none⟩,rfl,?_,?_⟩) (λe=>Å e x);{rw [ë,Ħ];exact ÿ (Ă _ hmc) hcv};grind [gZ,cell_of_row]
 ·refine h ω (.inr ⟨rfl,rfl,rfl,ψ⟩) (λe=>by rw [e];exact hnb)
def BO (O:ß n V0 bU β0 st β a w V){K:St->un->Prop}{d:Nat}(M:d<n){t e ty:TypeId}{info:TypeInfo}{z:um}(Z:P.underlying t=some (.slice e))(hi:P.info? e=some info)(hz:info.zero=some z)(hzs:z.cells.size=info.size)(F:info.bytes≠0){s:Nat}{vs xs:zA um}{m c k xc:Nat}{N:OA}(hg:w.heap[β s]?=some (.cells vs.toArray e (0,0)))(hbb:∃b,st.boxes s=some b/\b.live)(hx:Src w N k info.size xs)(h:Kd s vs m c info.size info.bytes e d st V K k xs):∃v w' E β',(Builtin.append_ #[t,t] ty #[.slice (some ⟨β s,0,none⟩) m c,.slice N k xc]).run P w=.ok v w'/\ß n V0 bU β0 E β' (a.put (some d) v) w' V/\K E V:=by obtain ⟨q,f,i,j,r,h⟩:=h;split at h;{exact h.elim};rename_i l;obtain ⟨spare,p,g,w',u,y,-,A,o⟩:=Kf (ty:=ty) (xc:=xc) O M Z hi hz hzs F (.inl ⟨rfl,hg,hbb⟩) hx q f i j l;refine ⟨_,w',_,_,A,(o _ (.inl rfl)).put (x:=.c (.nN (uv s d) 0 (m+k) p)) M ?_ ?_,h 0 (λ_=>.bool true) spare p u y⟩<;>grind [SV.den,C.den,bh,SV.ids,C.ids,aq]
def CV (hM:ß n V0 bU β0 st β a w V){K:St->un->Prop}{d:Nat}(hd:d<n){t e ty:TypeId}{info:TypeInfo}{z:um}(ht:P.underlying t=some (.slice e))(hi:P.info? e=some info)(hz:info.zero=some z)(hzs:z.cells.size=info.size)(hb0:info.bytes≠0)(hs0:info.size≠0){s:Nat}{vs xs:zA um}{m c k xc:Nat}{xa:OA}(hbb:st.boxes s=some ⟨.aH vs,e⟩)(hx:Src w xa k info.size xs)(h:zR s vs m c info.size info.bytes e d st V K k xs):∃v w' Z β',(Builtin.append_ #[t,t] ty #[.slice (mA (β s) c) m c,.slice xa k xc]).run P w=.ok v w'/\ß n V0 bU β0 Z β' (a.put (some d) v) w' V/\K Z V:=by
 obtain ⟨F,o,p,i,G,h⟩:=h;split at h
 ·exact h.elim
 ·rename_i q
  have fin:((mA (β s) c=some ⟨β s,0,none⟩/\w.heap[β s]?=some (.cells vs.toArray e (0,0))/\∃b,st.boxes s=some b/\b.live)\/(mA (β s) c=none/\m=0/\c=0/\k≠0))->(c≠0\/k≠0) ->
    ∃v w' Z β',(Builtin.append_ #[t,t] ty #[.slice (mA (β s) c) m c,.slice xa k xc]).run P w=.ok v w'/\ß n V0 bU β0 Z β' (a.put (some d) v) w' V/\K Z V:=by
   intro f r;have ⟨spare,D,g,w',H,I,J,L,u⟩:=Kf (ty:=ty) (xc:=xc) hM hd ht hi hz hzs hb0 f hx F o p i q;refine ⟨_,w',_,_,L,(u _ (.inr rfl)).put (x:=.c (.eM (uv s d) (m+k) D)) hd ?_ ?_,h spare D H I⟩
   ·simp [SV.den,C.den,bh,mA,J r]
   ·grind [SV.ids,C.ids,aq]
  by_cases j:c=0
  ·have hm:m=0:=ω;by_cases y:k=0;{subst j hm y;have E:=h [] 0 ω ψ;have A:=ĕ.1 (by simpa using i);subst A;have M:vs.take (0*info.size)++[]++[]=([]:zA um):=ψ;rw [M] at E;have B:ß n V0 bU β0 ((st.box s ⟨.aH [],e⟩).box (uv s d) ⟨.aH [],e⟩) β a w V:=hM.void.void;refine ⟨.slice none 0 0,w,_,_,?_,B.put (x:=.c (.eM (uv s d) 0 0)) hd ?_ ?_,E⟩;{have N:mA (β s) 0=none:=rfl;rw [N];(cases xa with|none=>{exact BN ht hi none 0 0 xc ω}|some ad=>simp [Builtin.append_,aj ht,aU hi,Builtin.lenOf,Builtin.firstCells,loadCells,loadCellsFrom])};{simp [SV.den,C.den,mA]};grind [SV.ids,C.ids,aq]};exact fin (.inr ⟨by rw [j];rfl,hm,j,y⟩) (.inr y)
  ·have l:aZ.live ⟨.aH vs,e⟩:=gI λO=>by{grind [Nat.mul_eq_zero.1]};exact fin (.inl ⟨by simp [mA,j],hM.row hbb l,_,hbb,l⟩) (.inl j)
def BP (hM:ß n V0 bU β0 st β a w V){K:St->un->Prop}{d:Nat}(hd:d<n){t e ty:TypeId}{info:TypeInfo}{z:um}(ht:P.underlying t=some (.slice e))(hi:P.info? e=some info)(hz:info.zero=some z)(hzs:z.cells.size=info.size)(hb0:info.bytes≠0){vs xs:zA um}{m c k xc:Nat}{xa ba:OA}(hsl:V.sl ba vs)(hvl:vs.length=m*info.size)(hmc:m<=c)(hn0:ba.isNone=true->c=0)(hs0:info.size≠0)(hx:Src w xa k info.size xs)(h:Ke vs m c info.size info.bytes e d st V K k xs):∃v w' Z β',(Builtin.append_ #[t,t] ty #[.slice ba m c,.slice xa k xc]).run P w=.ok v w'/\ß n V0 bU β0 Z β' (a.put (some d) v) w' V/\K Z V:=by
 obtain ⟨F,s,G,H,h⟩:=h;have f:(∃b,ba=some b/\vs.length=m*info.size/\∀j v,vs[j]?=some v->w.cell? (b.add j)=some v)\/ba=none/\m=0/\c=0/\vs=[]:=by cases ba<;>grind [Dy,List.length_eq_zero_iff.1]
 have ⟨D,rest,w',I,J,E,L,u,y,A,M⟩:=Gg (ty:=ty) (xc:=xc) (base:=ba) (olds:=vs) ht hi hz hzs f hx s F hb0 hmc;split at h
 ·exact h.elim
 ·rename_i N;have q:w'.heap.size=w.heap.size:=by rw [E]
  have B:=ß.kL hM (d:=d) (g:=w.heap.size) (b:=⟨.row (vs++xs++rest),e⟩) (w':=w'.alloc (.cells (vs++xs++rest).toArray e)) (.inl hd) N rfl
   (by
    intro O Q p l he;have:=aN (hM.boxes O Q p l);omega)
   (by intro o p;have:=aN (hM.tK _ o p).1;omega) (.inl hM.ext.size)
   (by rw [<-q];exact heap_alloc_new _ _)
   (by intro i R _;rw [fC _ _ ω,E])
   (by simp [q]) L u y A
  refine ⟨_,_,_,_,M,B.put (x:=.c (.nN d 0 (m+k) D)) hd ?_ ?_,(h rest D I (by rw [<-J];exact Ù _))⟩
  ·simp [SV.den,C.den,bh]
  ·intro S r;simp [SV.ids,C.ids] at r;subst r;exact ⟨_,by rw [aq,Ä rfl]⟩
theorem zY (ws:zA um)(o n:Nat):(aO ws o n).length=n:=by unfold aO;(cases h:Nat.ble (o+n) ws.length with|true=>{have:=Ŕ h;grind}|false=>simp)
def zX {ws:zA um}{o n:Nat}(u:∀v∈aO ws o n,v.oneCell'=true){j:Nat}{v:um}(y:(aO ws o n)[j]?=some v):ws[o+j]?=some v:=by unfold aO at u y;(cases h:Nat.ble (o+n) ws.length with|true=>grind|false=>{rw [h] at y u;simp only [cond_false] at y u;have hm:=Ď y;have:=u v hm;rw [Qs3 hm] at this;cases this})
def QY (z:ß n V0 bU β0 st β a w V){u:TI}{info:TypeInfo}(E:u.size=info.size){s o k xc:Nat}{src:OA×Nat ⊕ zA um}(hsrc:(match st.boxes s with
    | some ⟨.row ws,_⟩=>some (.inr (aO ws o (k*u.size)))
    | _=>match gz st.boxes s with
     | some ws=>if Nat.ble (o+k*u.size) ws.length then some (.inr ((ws.drop o).take (k*u.size))) else none
     | none=>none)=some src) :
  ∃y k' F,(SV.c (.nN s o k xc)).den β=.slice y k' F/\((src=.inl (y,k'))\/∃xs,src=.inr xs/\xs.length=k'*info.size/\∃ad,y=some ad/\((∀v∈xs,v.oneCell'=true)->∀j v,xs[j]?=some v->w.cell? (ad.add j)=some v)):=by split at hsrc;{rename_i ws ty e;simp only [ā] at hsrc;subst hsrc;have b:gz st.boxes s=some ws:=by{unfold gz;rw [e]};have d:nZ st.boxes s=some ty:=by{unfold nZ;rw [e]};obtain ⟨f,-⟩:=qS z b d;refine ⟨_,k,xc,rfl,.inr ⟨_,rfl,?_,⟨β s,o,none⟩,rfl,?_⟩⟩;{rw [zY,<-E]};intro g j v h;rw [gZ,cell_of_row f];exact zX g h};split at hsrc;{rename_i ws b;split at hsrc;{rename_i hle;have hle:=Ŕ hle;simp only [ā] at hsrc;subst hsrc;have ⟨i,d⟩:=Nw b;obtain ⟨f,-⟩:=qS z b d;refine ⟨_,k,xc,rfl,.inr ⟨_,rfl,?_,⟨β s,o,none⟩,rfl,?_⟩⟩<;>grind [gZ,cell_of_row]};cases hsrc};cases hsrc
def Mg {y:um}{src:OA×Nat ⊕ zA um}{sz:Nat}(h:∃u k' z,y=.slice u k' z/\((src=.inl (u,k'))\/∃xs,src=.inr xs/\xs.length=k'*sz/\∃ad,u=some ad/\((∀v∈xs,v.oneCell'=true)->∀j v,xs[j]?=some v->w.cell? (ad.add j)=some v))):∃u k xc,y=.slice u k xc/\((src=.inl (u,k))\/∃xs,src=.inr xs/\xs.length=k*sz/\((∀v∈xs,v.oneCell'=true)->(∃ad,u=some ad/\∀j v,xs[j]?=some v->w.cell? (ad.add j)=some v)\/(u=none/\k=0))):=by obtain ⟨u,k,xc,e,h⟩:=h;refine ⟨u,k,xc,e,h.imp id ?_⟩;rintro ⟨xs,a,b,ad,c,d⟩;exact ⟨xs,a,b,λf=>.inl ⟨ad,c,d f⟩⟩
def Mf (z:ß n V0 bU β0 st β a w V){u:TI}{info:TypeInfo}(M:u.size=info.size)(E:¬u.size=0){s k xc:Nat}{src:OA×Nat ⊕ zA um}(hsrc:(match st.boxes s with
    | some ⟨.aH ws,_⟩=>some (.inr (rY ws k xc u.size))
    | _=>none)=some src) :
  ∃y k' F,(SV.c (.eM s k xc)).den β=.slice y k' F/\((src=.inl (y,k'))\/∃xs,src=.inr xs/\xs.length=k'*info.size/\((∀v∈xs,v.oneCell'=true)->(∃ad,y=some ad/\∀j v,xs[j]?=some v->w.cell? (ad.add j)=some v)\/(y=none/\k'=0))):=by split at hsrc;{rename_i ws ty g;simp only [ā] at hsrc;subst hsrc;refine ⟨_,k,xc,rfl,.inr ⟨_,rfl,?_,λb=>?_⟩⟩;{unfold rY;grind [zY]};unfold rY at b ⊢;by_cases m:xc=0;{subst m;(cases k with|zero=>exact .inr ⟨rfl,rfl⟩|succ k=>{have d:Nat.ble (k+1) 0=false:=rfl;rw [d,cond_false] at b;have:(Value.agg #[])∈List.replicate ((k+1)*u.size) (Value.agg #[]):=List.mem_replicate.2 ⟨ō ω E,rfl⟩;have:=b _ this;cases this})};left;obtain ⟨h,rfl⟩:∃h,xc=h+1:=⟨xc-1,ω⟩;refine ⟨⟨β s,0,none⟩,rfl,λj v f=>?_⟩;(cases d:Nat.ble k (h+1) with|false=>{rw [d,cond_false] at b f;have hm:=Ď f;have:=b v hm;rw [Qs3 hm] at this;cases this}|true=>{rw [d,cond_true] at b f;have i:=zX b f;have l:ws≠[]:=λe=>by{rw [e] at i;simp at i};rw [gZ,cell_of_row (z.boxes s _ g (gI l))];exact i})};cases hsrc
def I5 (Z:ß n V0 bU β0 st β a w V){e:TypeId}{M:TI}{info:TypeInfo}{z:um}(O:M.size=info.size)(e6:M.bytes=info.bytes)(e7:M.zero=z.cells.toList.map C.ofConst){b x:SV}{old:Option Nat}{ba:OA}{vs:zA um}{m c:Nat}{src:OA×Nat ⊕ zA um}{size bytes:Nat}{ty:TypeId}(h:cX st.boxes e M b x=.app old ba vs m c src size bytes ty):size=info.size/\bytes=info.bytes/\ty=e/\info.bytes≠0/\info.size≠0/\z.cells.size=info.size/\(∃base,b.den β=.slice base m c/\((∃s,old=some s/\base=some ⟨β s,0,none⟩/\w.heap[β s]?=some (.cells vs.toArray e (0,0))/\∃b,st.boxes s=some b/\b.live)\/old=none/\base=ba))/\∃N k xc,x.den β=.slice N k xc/\((src=.inl (N,k))\/∃xs,src=.inr xs/\xs.length=k*info.size/\((∀v∈xs,v.oneCell'=true)->(∃ad,N=some ad/\∀j v,xs[j]?=some v->w.cell? (ad.add j)=some v)\/(N=none/\k=0))):=by unfold cX at h;split at h;{cases h};rename_i t l;split at h;{cases h};rename_i f;simp only [Qf9,beq_eq,Qd3,not_or] at f;obtain ⟨⟨u,q⟩,r⟩:=f;have r:M.size=t.length:=by{grind [beq_eq.1]};obtain ⟨y,-⟩:=f_ (β:=β) e7;obtain ⟨d1,-⟩:=gO (β:=β) l;have g:z.cells.size=info.size:=by{rw [<-y,d1];simp [<-r,O]};dsimp only at h;split at h;{cases h};rename_i i d;have p:(i=src/\M.size=size/\M.bytes=bytes/\e=ty)/\∃base,b.den β=.slice base m c/\((∃s,old=some s/\base=some ⟨β s,0,none⟩/\w.heap[β s]?=some (.cells vs.toArray e (0,0))/\∃b,st.boxes s=some b/\b.live)\/old=none/\base=ba):=by{split at h;{simp only [Q.app.injEq] at h;obtain ⟨rfl,rfl,rfl,rfl,rfl,rfl,rfl,rfl,rfl⟩:=h;exact ⟨⟨rfl,rfl,rfl,rfl⟩,_,rfl,.inr ⟨rfl,rfl⟩⟩};{rename_i s H I;split at h;{rename_i A B D E;split at h;{rename_i he;obtain rfl:=beq_eq.1 he;simp only [Q.app.injEq] at h;obtain ⟨rfl,rfl,rfl,rfl,rfl,rfl,rfl,rfl,rfl⟩:=h;have ⟨F,G⟩:=qS Z D E;exact ⟨⟨rfl,rfl,rfl,rfl⟩,_,rfl,.inl ⟨s,rfl,rfl,F,G⟩⟩};cases h};cases h};{split at h<;>grind};cases h};obtain ⟨⟨rfl,rfl,rfl,rfl⟩,p⟩:=p;refine ⟨O,e6,rfl,by rw [<-e6];exact u,by rw [<-O];exact q,g,p,?_⟩;split at d;{rename_i N k xc;simp only [ā] at d;subst d;exact ⟨N,k,xc,rfl,.inl rfl⟩};{rename_i s o k xc;exact Mg (QY Z O d)};{rename_i s k xc;exact Mf Z O q d};cases d
def Fh (Z:ß n V0 bU β0 st β a w V){e:TypeId}{M:TI}{info:TypeInfo}{z:um}(O:M.size=info.size)(e6:M.bytes=info.bytes)(e7:M.zero=z.cells.toList.map C.ofConst){b x:SV}{s:Nat}{vs:zA um}{m c:Nat}{src:OA×Nat ⊕ zA um}{size bytes:Nat}{ty:TypeId}(h:cX st.boxes e M b x=.yL s vs m c src size bytes ty):size=info.size/\bytes=info.bytes/\ty=e/\info.bytes≠0/\info.size≠0/\z.cells.size=info.size/\(b.den β=.slice (mA (β s) c) m c/\st.boxes s=some ⟨.aH vs,e⟩)/\∃N k xc,x.den β=.slice N k xc/\((src=.inl (N,k))\/∃xs,src=.inr xs/\xs.length=k*info.size/\((∀v∈xs,v.oneCell'=true)->(∃ad,N=some ad/\∀j v,xs[j]?=some v->w.cell? (ad.add j)=some v)\/(N=none/\k=0))):=by unfold cX at h;split at h;{cases h};rename_i t l;split at h;{cases h};rename_i f;simp only [Qf9,beq_eq,Qd3,not_or] at f;obtain ⟨⟨u,q⟩,r⟩:=f;have r:M.size=t.length:=by{grind [beq_eq.1]};obtain ⟨y,-⟩:=f_ (β:=β) e7;obtain ⟨d1,-⟩:=gO (β:=β) l;have g:z.cells.size=info.size:=by{rw [<-y,d1];simp [<-r,O]};dsimp only at h;split at h;{cases h};rename_i i d;have p:(i=src/\M.size=size/\M.bytes=bytes/\e=ty)/\b.den β=.slice (mA (β s) c) m c/\st.boxes s=some ⟨.aH vs,e⟩:=by{split at h;{cases h};{split at h<;>grind};{rename_i E F G;split at h;{rename_i A B D;split at h;{rename_i he;obtain rfl:=beq_eq.1 he;simp only [Q.yL.injEq] at h;obtain ⟨rfl,rfl,rfl,rfl,rfl,rfl,rfl,rfl⟩:=h;exact ⟨⟨rfl,rfl,rfl,rfl⟩,rfl,D⟩};cases h};cases h};cases h};obtain ⟨⟨rfl,rfl,rfl,rfl⟩,p⟩:=p;refine ⟨O,e6,rfl,by rw [<-e6];exact u,by rw [<-O];exact q,g,p,?_⟩;split at d;{rename_i N k xc;simp only [ā] at d;subst d;exact ⟨N,k,xc,rfl,.inl rfl⟩};{rename_i s o k xc;exact Mg (QY Z O d)};{rename_i s k xc;exact Mf Z O q d};cases d
theorem SY (hT:eA.ok P T)(hM:ß n V0 bU β0 st β a w V){o:Oper}{K:St->un->Prop}{d:Nat}(hd:d<n){old:Option Nat}{ba:OA}{vs:zA um}{m c:Nat}{src:OA×Nat ⊕ zA um}{size bytes:Nat}{ty:TypeId}(h:aW T st.bQ st.boxes o.op=.app old ba vs m c src size bytes ty)(hv:Ay (.app old ba vs m c src size bytes ty) (some d) st V K):∃v w' st' β',(execOp a.eval o).run P w=.ok (.value v) w'/\ß n V0 bU β0 st' β' (a.put (some d) v) w' V/\K st' V:=by
 obtain ⟨cl,L,wH⟩:=(iN (T:=T) (ρ:=st.bQ) (bx:=st.boxes) (op:=o.op)).2.2 (by rw [h];rfl);rw [L] at h;simp only [aW,wH] at h;split at h
 ·rename_i b x t t' E Y;split at h
  ·rename_i i i' hi Z;split at h
   ·rename_i e e' hk M;split at h
    ·rename_i ei KY;obtain ⟨a0,d0,z0,h1,I,h3,h4,-⟩:=aP (hT _ _ hi);obtain ⟨U,a4,a5,a6,a7,a8,a1,-⟩:=aP (hT _ _ Z);have ⟨info,de,z,J,e2,W,e4,e5,e6,e7⟩:=aP (hT _ _ KY);rw [h4] at hk;rw [a1] at M;obtain rfl:=bu hk;obtain rfl:=bu M;obtain ⟨rfl,rfl,rfl,l,N,p,⟨base,a9,hold⟩,F,k,xc,b0,C⟩:=I5 hM e5 e6 e7 h;have ⟨q1,q2⟩:=iM hM _ _ E;have f1:cl.argTypes=#[t,t']:=by apply ŀ;exact Y
     have f2:cl.args.map a.eval=#[.slice base m c,.slice F k xc]:=χ
     have O:∀{v w'},(Builtin.append_ #[t,t] o.type #[.slice base m c,.slice F k xc]).run P w=.ok v w'->(execOp a.eval o).run P w=.ok (.value v) w':=by intro v w' hr;simp only [execOp,L,resolve,wH,pure_bind,invoke,f1,f2,builtin];grind [fH,Gh]
     have fin:∀{v w' st' β'},(Builtin.append_ #[t,t] o.type #[.slice base m c,.slice F k xc]).run P w=.ok v w'->ß n V0 bU β0 st' β' (a.put (some d) v) w' V->K st' V ->
       ∃v w' st' β',(execOp a.eval o).run P w=.ok (.value v) w'/\ß n V0 bU β0 st' β' (a.put (some d) v) w' V/\K st' V:=λq u A=>⟨_,_,_,_,O q,u,A⟩
     have ZI:∀xs,V.sl F xs->xs.length=k*info.size->(∀v∈xs,v.oneCell'=true)->Src w F k info.size xs:=by intro xs j f h1;refine ⟨f,h1,?_⟩;(cases F with|some ad=>exact .inl ⟨ad,rfl,Dy hM j⟩|none=>{refine .inr ⟨rfl,?_⟩;have:xs=[]:=by{(cases xs with|nil=>rfl|cons y r=>{obtain ⟨ad,e,-⟩:=j 0 y ψ;cases e})};grind [Nat.mul_eq_zero.1]})
     rcases hold with ⟨s,rfl,rfl,hg,Q⟩|⟨rfl,rfl⟩
     ·rcases C with rfl|⟨xs,rfl,f,g⟩;{obtain ⟨xs,j,f,hv⟩:=hv;have ⟨v,w',st',β',q,u,A⟩:=BO (ty:=o.type) (xc:=xc) hM hd I J W p l hg Q (ZI xs j f hv.2.2.2.2.1) hv;exact fin q u A};have G:xs.length/info.size=k:=by{rw [f];exact Qg3 _ ω};simp only [Ay,G] at hv;have ⟨v,w',st',β',q,u,A⟩:=BO (ty:=o.type) (xc:=xc) hM hd I J W p l hg Q ⟨f,hv.2.2.2.2.1,g hv.2.2.2.2.1⟩ hv;exact fin q u A
     ·obtain ⟨vs,D,R,B,S,hv⟩:=hv;rcases C with rfl|⟨xs,rfl,f,g⟩;{obtain ⟨xs,j,f,a2,a3⟩:=hv;by_cases H:k=0;{have X:=a2 H;subst H;refine fin (v:=.slice base m c) (w':=w) ?_ (hM.put (x:=.c (.v (.slice base m c))) hd rfl (λs hs=>by cases hs)) X;(cases F with|none=>exact BN I J base m c xc B|some ad=>{cases base<;>simp [Builtin.append_,aj I,aU J,Builtin.lenOf,Builtin.firstCells,loadCells,loadCellsFrom,storeCells,B]})};have X:=a3 H;have ⟨v,w',st',β',q,u,A⟩:=BP (ty:=o.type) (xc:=xc) hM hd I J W p l D R B S N (ZI xs j f X.2.2.2.1) X;exact fin q u A};have G:xs.length/info.size=k:=by{rw [f];exact Qg3 _ ω};dsimp only at hv;rw [G] at hv;have ⟨v,w',st',β',q,u,A⟩:=BP (ty:=o.type) (xc:=xc) hM hd I J W p l D R B S N ⟨f,hv.2.2.2.1,g hv.2.2.2.1⟩ hv;exact fin q u A
    ·cases h
   ·cases h
  ·cases h
 ·cases h
theorem ON (hT:eA.ok P T)(hM:ß n V0 bU β0 st β a w V){o:Oper}{K:St->un->Prop}{d:Nat}(hd:d<n){s:Nat}{vs:zA um}{m c:Nat}{src:OA×Nat ⊕ zA um}{size bytes:Nat}{ty:TypeId}(h:aW T st.bQ st.boxes o.op=.yL s vs m c src size bytes ty)(hv:Ay (.yL s vs m c src size bytes ty) (some d) st V K):∃v w' st' β',(execOp a.eval o).run P w=.ok (.value v) w'/\ß n V0 bU β0 st' β' (a.put (some d) v) w' V/\K st' V:=by
 obtain ⟨R,q,S⟩:=(iN (T:=T) (ρ:=st.bQ) (bx:=st.boxes) (op:=o.op)).2.2 (by rw [h];rfl);rw [q] at h;simp only [aW,S] at h;split at h
 ·rename_i b x t t' l L;split at h
  ·rename_i i i' hi M;split at h
   ·rename_i e e' U u;split at h
    ·rename_i ei KY;obtain ⟨N,d0,z0,W,X,h3,h4,-⟩:=aP (hT _ _ hi);obtain ⟨J,a0,a1,a2,a3,a4,O,-⟩:=aP (hT _ _ M);have ⟨info,de,z,Y,e2,Z,e4,e5,e6,e7⟩:=aP (hT _ _ KY);rw [h4] at U;rw [O] at u;obtain rfl:=bu U;obtain rfl:=bu u;obtain ⟨rfl,rfl,rfl,A,B,C,⟨a5,D⟩,p,k,xc,a6,E⟩:=Fh hM e5 e6 e7 h;have ⟨q1,q2⟩:=iM hM _ _ l;have f1:R.argTypes=#[t,t']:=by apply ŀ;exact L
     have f2:R.args.map a.eval=#[.slice (mA (β s) c) m c,.slice p k xc]:=χ
     have F:∀{v w'},(Builtin.append_ #[t,t] o.type #[.slice (mA (β s) c) m c,.slice p k xc]).run P w=.ok v w'->(execOp a.eval o).run P w=.ok (.value v) w':=by intro v w' hr;simp only [execOp,q,resolve,S,pure_bind,invoke,f1,f2,builtin];grind [fH,Gh]
     have fin:∀{v w' st' β'},(Builtin.append_ #[t,t] o.type #[.slice (mA (β s) c) m c,.slice p k xc]).run P w=.ok v w'->ß n V0 bU β0 st' β' (a.put (some d) v) w' V->K st' V ->
       ∃v w' st' β',(execOp a.eval o).run P w=.ok (.value v) w'/\ß n V0 bU β0 st' β' (a.put (some d) v) w' V/\K st' V:=λG H I=>⟨_,_,_,_,F G,H,I⟩
     have ZI:∀xs,V.sl p xs->xs.length=k*info.size->(∀v∈xs,v.oneCell'=true)->Src w p k info.size xs:=by intro xs g f W;refine ⟨f,W,?_⟩;(cases p with|some ad=>exact .inl ⟨ad,rfl,Dy hM g⟩|none=>{refine .inr ⟨rfl,?_⟩;have:xs=[]:=by{(cases xs with|nil=>rfl|cons y r=>{obtain ⟨ad,e,-⟩:=g 0 y ψ;cases e})};grind [Nat.mul_eq_zero.1]})
     rcases E with rfl|⟨xs,rfl,f,j⟩
     ·obtain ⟨xs,g,f,hv⟩:=hv;have ⟨v,w',st',β',G,H,I⟩:=CV (ty:=o.type) (xc:=xc) hM hd X Y Z C A B D (ZI xs g f hv.2.2.2.2.1) hv;exact fin G H I
     ·have Q:xs.length/info.size=k:=by{rw [f];exact Qg3 _ ω};simp only [Ay,Q] at hv;have ⟨v,w',st',β',G,H,I⟩:=CV (ty:=o.type) (xc:=xc) hM hd X Y Z C A B D ⟨f,hv.2.2.2.2.1,j hv.2.2.2.2.1⟩ hv;exact fin G H I
    ·cases h
   ·cases h
  ·cases h
 ·cases h
theorem LM (hT:eA.ok P T)(y:ß n V0 bU β0 st β a w V){o:Oper}{K:St->un->Prop}{next:Act->World->Prop}{Q:Exit->Act->World->Prop}(z:∀d,o.dst=some d->d<n)(u:Ay (aW T st.bQ st.boxes o.op) o.dst st V K)(E:∀F β' N w' V',ß n V0 bU β0 F β' N w' V'->K F V'->next N w'):o.wp P a w next Q:=by
 unfold Oper.wp;generalize M:aW T st.bQ st.boxes o.op=q at u
 cases q with
 | fail=>exact u.elim
 | ret sc x=>
  obtain ⟨e,f⟩:=(fK sc _).1 u;have ⟨h,g⟩:=S0 hT y M e;rw [h];exact E _ _ _ _ _ (y.LG z rfl g) f
 | new sc b x=>
  simp only [Ay] at u
  cases hdst:o.dst with
  | none=>rw [hdst] at u;exact u.elim
  | some d=>
   rw [hdst] at u;dsimp only at u;split at u
   ·rename_i k;obtain ⟨e,f⟩:=(fK sc _).1 u;have ⟨v,h,g,l⟩:=SZ hT y M e;rw [h]
    have:=(y.new (z d hdst) k l).put (x:=x d) (v:=v) (z d hdst) (g d).1 (by
     intro s i;rw [(g d).2] at i;simp at i;subst i;exact ⟨b,by rw [aq,Ä rfl]⟩)
    grind [Oper.upon_value]
   ·exact u.elim
 | Ax sc s b=>
  simp only [Ay] at u
  cases hdst:o.dst with
  | some d=>rw [hdst] at u;exact u.elim
  | none=>
   rw [hdst] at u;dsimp only at u;obtain ⟨e,f⟩:=(fK sc _).1 u;have ⟨t,w',h,rx,g⟩:=S3 hT y M e;rw [h];rcases rx with rfl|⟨v,rfl⟩
   ·simp only [Oper.upon_skip,hdst];exact E _ _ _ _ _ g f
   ·simp only [Oper.upon_value,hdst];exact E _ _ _ _ _ g f
 | rd p sh=>
  have ⟨x,e,f,j⟩:=BH.fF sh u;have ⟨h,g⟩:=Wl hT y M e f j;rw [h];exact E _ _ _ _ _ (y.LG z rfl (cB e)) g
 | uz vs of size sh=>
  have ⟨x,e,f,j,r⟩:=BH.fF sh u;rw [(LJ hT y M e f j)];exact E _ _ _ _ _ (y.LG z rfl (cB e)) r
 | yL s vs m c src size bytes ty=>
  cases hdst:o.dst with
  | none=>rw [hdst] at u;exact u.elim
  | some d=>grind [ON,Oper.upon_value]
 | app old ba vs m c src size bytes ty=>
  cases hdst:o.dst with
  | none=>rw [hdst] at u;exact u.elim
  | some d=>grind [SY,Oper.upon_value]
def dh (V:Ó)(w:World):Ó:=⟨w,λb=>b<w.heap.size/\∀o,¬V.bo b o,λ_=>False,λ_ h=>h.1,λ_ h=>h.elim⟩
def zw (u:ß n V0 bU β0 st β a w V):V.Le (dh V w):=λb o c=>⟨λh=>h.2 o c,(u.tK b o c).1⟩
def iQ.run {f:FuncId}(h:iQ P f)(xs:Array um):(callFunc f xs).run P w=.ok (.enter f xs) w:=by obtain ⟨fn,a,b,c⟩:=h;simp only [callFunc,Sem.run_bind,run_program,Result.andThen_ok,a,c,b,Ő,Ð,Sem.run_pure]
theorem cE {x:Nat}:∀{l:zA Nat},x∈ô l↔x∈l
 | []=>by simp [ô]
 | y::r=>by
  simp only [ô]
  cases h:jm y (ô r) with
  | true=>
   simp only [cond_true,ç];rw [cE];constructor
   ·exact .inr
   ·rintro (rfl|u)
    ·exact cE.1 (dX.1 h)
    ·exact u
  | false=>simp only [cond_false,ç];rw [cE]
theorem gJ {bx:Nat->Option aZ}:∀(k:Nat)(l:zA Nat),∀x∈l,x∈ï bx k l
 | 0,_,x,u=>u
 | k+1,l,x,u=>by simp only [ï];exact gJ k _ x (cE.2 (Ĕ _ u))
def fR {bx:Nat->Option aZ}{l:zA Nat}(h:jP bx l=true){s:Nat}(u:s∈l){b:aZ}(y:bx s=some b):∀t∈b.cs.ids,t∈l:=by unfold jP at h;rw [ħ] at h;have:=h s u;unfold WU pj at this;grind [dX.1]
def jq {L:zA Nat}:∀{γ:Nat->Nat} {k:(Nat->Nat)->Prop},nX L γ k->∀β:Nat->Nat,k (λt=>if t∈L then β t else γ t):=by
 induction L with
 | nil=>
  intro γ k h β;have e:(λt=>if t∈([]:zA Nat) then β t else γ t)=γ:=by funext t;simp
  rw [e];exact h
 | cons s r u=>
  intro γ k h β;have:=u (h (β s)) β;grind [bh,jd]
def C_ {bx:Nat->Option aZ}{b:aZ}{γ:Nat->Nat}{s:Nat}:∀{r:zA Nat} {k:Prop},neH bx b γ s r k->(∀t∈r,∀b',bx t=some b'->b.live->b'.live->γ s=γ t->s=t)->(∀t∈r,∃b',bx t=some b')->k
 | [],_,h,_,_=>h
 | t::r,k,h,hi,y=>by
  simp only [neH] at h
  cases E:Nat.beq s t with
  | true=>rw [E] at h;exact C_ h (λt u=>hi t (ø _ u)) (λt u=>y t (ø _ u))
  | false=>
   rw [E] at h;have ⟨b',z⟩:=y t ψ;simp only [z,cond_false] at h;refine C_ (h ?_) (λt u=>hi t (ø _ u)) (λt u=>y t (ø _ u))<;>grind [zO,kX,Nat.beq_refl]
def CT {bx:Nat->Option aZ}{γ:Nat->Nat}{V':un}:∀{L:zA Nat} {k:Prop},kO bx γ V' L k->(∀s∈L,∀b,bx s=some b->b.live->V'.w.heap[γ s]?=some (b.obj γ)/\V'.H (γ s)) ->(∀s∈L,∀t∈L,∀b b',bx s=some b->b.live->bx t=some b'->b'.live->γ s=γ t->s=t)->(∀s∈L,∃b,bx s=some b)/\k
 | [],k,h,_,_=>⟨λs z=>(nomatch z),h⟩
 | s::r,k,h,u,hi=>by
  simp only [kO] at h;split at h
  ·rename_i b y
   have ⟨E,F⟩:=CT (h (kX.2 λl=>(u s ψ b y l).1) (kX.2 λl=>(u s ψ b y l).2)) (λc a=>u c (ø _ a))
    (λc a t d=>hi c (ø _ a) t (ø _ d))
   have g:=C_ F (λt d b' e l f=>hi s ψ t (ø _ d) b b' y l e f) E;grind
  ·exact h.elim
def jB {bx:Nat->Option aZ}{γ:Nat->Nat}{V':un}:∀{L:zA Nat} {k:Prop},vt bx γ V' L k->(∀s∈L,∀b,bx s=some b->b.live->V'.bo (γ s) (b.obj γ))->(∀s∈L,∃b,bx s=some b)/\k
 | [],k,h,_=>⟨λs y=>(nomatch y),h⟩
 | s::r,k,h,u=>by
  simp only [vt] at h;split at h
  ·rename_i b z;have ⟨E,F⟩:=jB (h (kX.2 (u s ψ b z))) (λc a=>u c (ø _ a));grind
  ·exact h.elim
def ka {E:Option (Nat×Nat)}:∀(cs F:zA C) {K:zA C->Prop},pR E cs F K->∃u,K u/\∀s∈u.flatMap C.ids,s∈cs.flatMap C.ids\/∃m,E=some (m,s)
 | [],_,_,h=>⟨[],h,λs M=>(nomatch M)⟩
 | c::r,[],_,h=>h.elim
 | c::r,z::y,K,h=>by
  simp only [pR] at h;split at h
  ·split at h
   ·rename_i m nb;split at h
    ·obtain ⟨n,c,h⟩:=h;have ⟨u,a,b⟩:=ka r y h;grind [C.ids]
    ·exact h.elim
   ·exact h.elim
  ·split at h
   ·have ⟨v,e,d⟩:=EH.fF _ h;have ⟨u,a,b⟩:=ka r y d;grind
   ·have ⟨u,a,b⟩:=ka r y h;grind
def ß.fill (h:ß n V0 bU β0 st β a w V){s:Nat}{y b:aZ}(z:st.boxes s=some y)(E:∀t∈b.cs.ids,∃b',st.boxes t=some b')(F:∀t b',st.boxes t=some b'->b'.live->t≠s->β t≠β s)(M:∀o,¬V.bo (β s) o)(hown:V0.w.heap.size<=β s\/(100000<=s/\bU.B (β s)))(hw:w.heap[β s]?=some (b.obj β)):ß n V0 bU β0 (st.box s b) β a w V:=by have d:∀t,(∃b',st.boxes t=some b')->∃b',(st.box s b).boxes t=some b':=by{grind [aq]};refine ⟨h.defers,h.size,h.aF,λt x f u hu=>d u (h.EK t x f u hu),?_,?_,?_,h.tK,?_,h.ext,?_,h.pf,h.nt,h.small⟩;{grind [aq,h.EJ]};{grind [aq,h.boxes]};{grind [aq,h.inj]};{grind [aq,h.Ar]};intro t b' c l;rw [aq] at c;split at c;{rename_i e;rw [e];exact hown};exact h.own t b' c l
def ß.later (u:ß n V0 bU β0 st β a w V){X:Nat->Prop}{w':World}(y:kQ X w w')(hX:∀t b,st.boxes t=some b->b.live->¬X (β t))(E:∀i,i<V0.w.heap.size->X i->V0.X i){z:un}(hvis:∀b o,z.bo b o->w'.heap[b]?=some o/\¬V0.H b)(F:∀t b,st.boxes t=some b->b.live->∀o,¬z.bo (β t) o):ß n V0 bU β0 st β a w' z:=by refine ⟨u.defers,u.size,u.aF,u.EK,u.EJ,?_,u.inj,hvis,F,?_,u.own,u.pf,u.nt,u.small⟩;{grind [u.boxes,y.bo]};refine ⟨ÿ u.ext.size y.size,λi d c=>?_,y.os.m u.ext.os,y.tape.m u.ext.tape,y.out.m u.ext.out,ÿ u.ext.dr y.dr⟩<;>grind [y.bo,u.ext.bo]
def ß.beta (u:ß n V0 bU β0 st β a w V){d g:Nat}(z:d<n\/200000<=d)(y:st.boxes d=none):ß n V0 bU β0 st (cF β d g) a w V:=by have j:∀s c,st.boxes s=some c->s≠d:=λs c f e=>by{rw [e,y] at f;cases f};have hβ:∀s c,st.boxes s=some c->cF β d g s=β s:=λs c f=>jd _ _ (j s c f);refine ⟨u.defers,u.size,?_,u.EK,u.EJ,?_,?_,u.tK,?_,u.ext,?_,?_,u.nt,u.small⟩;{intro t x k;rw [u.aF t x k];grind [SV.bZ,u.EK]};{intro s b i l;rw [hβ s b i,u.boxes s b i l];grind [aZ.dK,u.EJ]};{grind [u.inj]};{grind [u.Ar]};{intro s b i l;rw [hβ s b i];exact u.own s b i l};intro s f;have ⟨m,o⟩:=u.pf s f;grind [jd,u.small]
def kj {ty:TypeId}:∀{L:zA Nat} {st:St},(eK st L ty).aF=st.aF
 | [],_=>rfl
 | s::r,st=>by unfold eK;rw [Ť];exact kj (L:=r)
def bD {ty:TypeId}:∀{L:zA Nat} {st:St} (t:Nat),(eK st L ty).boxes t=if t∈L then some ⟨.aH [],ty⟩ else st.boxes t
 | [],st,t=>by simp [eK]
 | s::r,st,t=>by
  have:=bD (ty:=ty) (L:=r) (st:=st.box s ⟨.aH [],ty⟩) t;unfold eK at this ⊢;grind [aq]
def ß.M4 {ty:TypeId}:∀{L:zA Nat} {st:St},ß n V0 bU β0 st β a w V->ß n V0 bU β0 (eK st L ty) β a w V
 | [],_,h=>h
 | s::r,st,h=>by unfold eK;rw [Ť];exact ß.M4 (L:=r) h.void
def pS {mv:Option (Nat×Nat)}{γ:Nat->Nat}{V2:un}{A:zA Nat}(hV2:V2.w=w)(hγA:∀s∈A,γ s=β s)(hinj:∀s∈A,∀s'∈A,β s=β s'->s=s')(Aq:∀s∈A,∀o,¬V.bo (β s) o)(hown:∀s∈A,V0.w.heap.size<=β s\/(100000<=s/\bU.B (β s))):∀(L:zA Nat) (WS Fi:St) {k:St->Prop},(∀s∈L,s∈A)->ß n V0 bU β0 Fi β a w V->WS.aF=Fi.aF->(∀t,t∉L->WS.boxes t=Fi.boxes t)->(∀s∈L,∃b,Fi.boxes s=some b) ->(∀t b,Fi.boxes t=some b->b.live->t∉A->∀s∈A,β t≠β s)->(∀s∈L,∀b,WS.boxes s=some b->∀t∈b.cs.ids,(∃b',Fi.boxes t=some b')/\γ t=β t)->(∀m nb,mv=some (m,nb)->(∃b',Fi.boxes nb=some b')/\γ nb=β nb) ->fV T mv γ V2 L WS k->∃Z,ß n V0 bU β0 Z β a w V/\Z.aF=Fi.aF/\(∀t,(∃b,Fi.boxes t=some b)->∃b,Z.boxes t=some b)/\k Z
 | [],WS,Fi,k,_,hM,hsl,hag,_,_,_,_,h=>by
  have:WS=Fi:=by
   obtain ⟨s1,b1⟩:=WS;obtain ⟨s2,b2⟩:=Fi;dsimp only at hsl hag;subst hsl;congr 1;grind
  exact ⟨Fi,hM,rfl,λ_ h=>h,this▸h⟩
 | s::r,WS,Fi,k,hA,hM,hsl,hag,hb,hd,hw,hmv,h=>by
  have f:=hA s ψ;have ⟨P,z⟩:=hb s ψ
  have step:∀b1:aZ,(∀t∈b1.cs.ids,(∃b',Fi.boxes t=some b')/\γ t=β t)->w.heap[γ s]?=some (b1.obj γ)->fV T mv γ V2 r (WS.box s b1) k ->
    ∃Z,ß n V0 bU β0 Z β a w V/\Z.aF=Fi.aF/\(∀t,(∃b,Fi.boxes t=some b)->∃b,Z.boxes t=some b)/\k Z:=by
   intro b1 y G h;rw [hγA s f,aZ.dK λt c=>(y t c).2] at G;by_cases H:s∈r
   ·refine pS hV2 hγA hinj Aq hown r (WS.box s b1) Fi (λs' d=>hA s' (ø _ d)) hM hsl ?_ (λs' d=>hb s' (ø _ d)) hd ?_ hmv h<;>grind [aq]
   ·have C:=hM.fill (b:=b1) z (λt c=>(y t c).1) (by
     intro t b' c l D he;by_cases u:t∈A
     ·exact D (hinj t u s f he)
     ·exact hd t b' c l u s f he) (Aq s f) (hown s f) G
    have v:∀t,(∃b,Fi.boxes t=some b)->∃b,(Fi.box s b1).boxes t=some b:=by grind [aq]
    have ⟨Z,I,J,K,M⟩:=pS hV2 hγA hinj Aq hown r (WS.box s b1) (Fi.box s b1) (λs' d=>hA s' (ø _ d)) C hsl
     (by
      intro t c;rw [aq,aq];split
      ·rfl
      ·rename_i e;exact hag t (by simp [e,c]))
     (λs' d=>v s' (hb s' (ø _ d)))
     (by
      intro t b' c l u;rw [aq] at c;split at c
      ·rename_i e;exact Å (e▸f) u
      ·exact hd t b' c l u)
     (by
      intro s' d b' g t c;rw [aq] at g;split at g
      ·cases g;exact ⟨v t (y t c).1,(y t c).2⟩
      ·have:=hw s' (ø _ d) b' g t c;exact ⟨v t this.1,this.2⟩)
     (λm nb e=>⟨v nb (hmv m nb e).1,(hmv m nb e).2⟩) h
    exact ⟨Z,I,J,λt c=>K t (v t c),M⟩
  simp only [fV] at h;split at h
  ·rename_i cs ty p;split at h;{rename_i i Q;have ⟨E,⟨j,x⟩,N⟩:=ka _ _ h;rw [hV2] at j;refine step ⟨.lit E,ty⟩ (λt c=>?_) j x;rcases N t c with F|⟨m,F⟩;{exact hw s ψ _ p t F};exact hmv m t F};exact h.elim
  ·rename_i O ty p;obtain ⟨q,j,x⟩:=h;rw [hV2] at j;exact step ⟨.row q,ty⟩ (λt c=>(nomatch c)) j x
  ·rename_i O ty p;obtain ⟨-,q,-,j,x⟩:=h;rw [hV2] at j;exact step ⟨.aH q,ty⟩ (λt c=>(nomatch c)) j x
  ·exact h.elim
def CS {y:Option (Nat×Nat)}{V2:un}:∀{L:zA Nat} {st:St} {k:St->Prop},fV T y β V2 L st k->∀s∈L,∃b,st.boxes s=some b/\b.live
 | [],_,_,_,s,u=>nomatch u
 | s::r,st,k,h,t,z=>by
  have core:∀b1:aZ,(∃b,st.boxes s=some b/\b.live)->fV T y β V2 r (st.box s b1) k->∃b,st.boxes t=some b/\b.live:=by
   intro b1 u h;by_cases e:t=s
   ·rw [e];exact u
   ·have:=CS h t (by simpa [e] using z);grind [aq]
  simp only [fV] at h;split at h
  ·rename_i cs ty a;split at h;{have ⟨i,⟨g,c⟩,l⟩:=ka _ _ h;exact core _ ⟨_,a,dP⟩ c};exact h.elim
  ·rename_i j ty a;obtain ⟨d,g,c⟩:=h;exact core _ ⟨_,a,dQ⟩ c
  ·rename_i j ty a;obtain ⟨f,d,-,g,c⟩:=h;exact core _ ⟨_,a,λ_ e=>by cases e;exact f⟩ c
  ·exact h.elim
def CQ {bx:Nat->Option aZ}{γ:Nat->Nat}{N b:Nat}{L:zA Nat}(y:∀s∈L,∃b,bx s=some b)(z:b∈L.map (eZ bx γ N))(hlt:b<N):∃s∈L,∃u,bx s=some u/\u.live/\γ s=b:=by have ⟨s,c,he⟩:=þ.1 z;have ⟨u,a⟩:=y s c;unfold eZ at he;rw [a] at he;obtain ⟨cs,ty⟩:=u;(cases cs with|aH vs=>{(cases vs with|nil=>{simp only [vb] at he;omega}|cons v r=>{exact ⟨s,c,_,a,gI ψ,he⟩})}|_=>grind [dP,dQ])
def zN {nb:Nat}:∀{xs:zA (ut×zA C)},(xs.flatMap λx=>x.2.flatMap C.ids)=[]->∀s∈((Bj nb xs).flatMap λx=>x.2.flatMap C.ids),s=nb
 | [],_,s,u=>nomatch u
 | x::r,h,s,u=>by
  simp only [Ġ,List.append_eq_nil_iff] at h;unfold Bj at u;split at u
  ·rename_i heq;cases heq
  ·grind [C.ids]
  ·rename_i heq;cases heq;simp only [Ġ,ü,h.1,ě,false_or] at u;exact zN h.2 s u
def CD {nb:Nat}:∀{cs:zA C},(cs.flatMap C.ids)=[]->∀s∈(Iq nb cs).flatMap C.ids,s=nb
 | [],_,s,u=>nomatch u
 | x::r,h,s,u=>by
  simp only [Ġ,List.append_eq_nil_iff] at h;unfold Iq at u;split at u
  ·rename_i heq;cases heq
  ·grind [C.ids]
  ·rename_i heq;cases heq;simp only [Ġ,ü,h.1,ě,false_or] at u;exact CD h.2 s u
def N5 {nb:Nat}{x:SV}(h:x.ids=[]):∀s∈(yE nb x).ids,s=nb:=by intro s a;unfold yE at a;split at a;{simpa [SV.ids,C.ids] using a};{exact CD h s a};{exact zN h s a};rw [h] at a;cases a
def KK {xs:zA SV}(h:∀x∈xs,x.ids=[])(γ δ:Nat->Nat):aJ γ xs=aJ δ xs:=by unfold aJ;grind [kU]
def ß.adopt1 {w0:World}{V':un}(E:ß n V0 bU β0 st β a w V')(hlt:∀s b,st.boxes s=some b->b.live->β s<w0.heap.size)(hsz:V0.w.heap.size<=w0.heap.size){d b:Nat}{cs:zA C}{e:TypeId}(F:d<n)(M:st.boxes d=none)(N:w0.heap.size<=b)(hw:V'.w=w)(hblk:V'.bo b (.cells (cs.map (C.den λ_=>0)).toArray e (0,0)))(O:cs.flatMap C.ids=[]):ß n V0 bU β0 ((st.box d ⟨.lit cs,e⟩).put (some d) (.c (.ptr d 0))) (cF β d b) (a.put (some d) (.pointer (some ⟨b,0,none⟩))) w (V'.UW b):=by have v:∀s g,st.boxes s=some g->s≠d:=λs g f e=>by{rw [e,M] at f;cases f};have hβ:∀s g,st.boxes s=some g->cF β d b s=β s:=λs g f=>jd _ _ (v s g f);have k:=(E.tK b _ hblk).1;have A:(⟨.lit cs,e⟩:aZ).obj (cF β d b)=.cells (cs.map (C.den λ_=>0)).toArray e (0,0):=by{grind [aZ.obj,æ.den,pQ]};have y:ß n V0 bU β0 (st.box d ⟨.lit cs,e⟩) (cF β d b) a w (V'.UW b):=by{refine ⟨E.defers,E.size,?_,?_,?_,?_,?_,?_,?_,E.ext,?_,?_,E.nt,E.small⟩;{intro t x q;rw [E.aF t x q];exact SV.bZ λs f=>by{have ⟨g,m⟩:=E.EK t x q s f;exact (hβ s g m).symm}};{intro t x q s f;have ⟨g,m⟩:=E.EK t x q s f;grind [aq]};{grind [aq,æ.ids,E.EJ]};{intro s g f l;rw [aq] at f;split at f;{rename_i p;simp only [ā] at f;rw [p,bh,<-f,A];exact k};rw [hβ s g f,E.boxes s g f l];grind [aZ.dK,E.EJ]};{intro s z b1 b2 i B j D he;rw [aq] at i j;split at i<;>split at j;{rename_i r u;rw [r,u]};{rename_i r u;rw [r,bh,hβ z b2 j] at he;have:=hlt z b2 j D;omega};{rename_i r u;rw [u,bh,hβ s b1 i] at he;have:=hlt s b1 i B;omega};grind [E.inj]};{rintro x o ⟨i,j⟩;exact E.tK x o ⟨λh=>i (.inl h),j⟩};{rintro s g f l o ⟨i,j⟩;rw [aq] at f;split at f;{rename_i p;rw [p,bh] at i;exact i (.inr ⟨rfl,by rw [hw];exact aN k⟩)};rw [hβ s g f] at i j;exact E.Ar s g f l o ⟨λh=>i (.inl h),j⟩};{intro s g f l;rw [aq] at f;split at f;{rename_i p;rw [p,bh];exact .inl (ÿ hsz N)};rw [hβ s g f];exact E.own s g f l};intro s f;have ⟨i,j⟩:=E.pf s f;grind [jd,E.small]};refine y.put F ?_ ?_;{simp only [SV.den,C.den,bh]};intro s f;simp [SV.ids,C.ids] at f;subst f;exact ⟨_,by rw [aq,Ä rfl]⟩
def C0 {L:zA Nat}{m s:Nat}:s∈(L.filter λs=>!(Nat.beq s m))↔s∈L/\s≠m:=by grind [Nat.beq_refl,beq_eq.1]
def rN (hM:ß n V0 bU β0 st β a w V){L:zA Nat}{γ:Nat->Nat}(kH:∀s∈L,γ s=β s)(hcl:∀s∈L,∀b,st.boxes s=some b->∀t∈b.cs.ids,t∈L)(hlive:∀s∈L,∃b,st.boxes s=some b){give:ut}{sh:Sh}{m:Option Nat}{d:Nat}(hd:d<n){ety:TypeId}{K:St->un->Prop}{w':World}{r:um}(hm:∀k,m=some k->k∈L)(hfree:mc st m d=true)(hx:kQ (λb=>b∈L.map (eZ st.boxes γ w.heap.size)/\(dh V w).H b) w w')(hr:cK T give sh L m d ety γ st (dh V w) K r (((dh V w).au (L.map (eZ st.boxes γ w.heap.size))).to w' hx.size)):∃st' β' V',ß n V0 bU β0 st' β' (a.put (some d) r) w' V'/\K st' V':=by
 have a7:=hM.ext.size;unfold cK at hr;generalize hnb:hZ m d=nb at hr;obtain ⟨G,q,R,I,S⟩:=hr;obtain ⟨x,U,rfl,hr⟩:=Sh.fF sh S;clear S
 have z:st.boxes nb=none:=by unfold mc at hfree;grind
 have B:nb<n\/200000<=nb:=by rw [<-hnb];(cases m with|none=>exact .inl hd|some m=>exact IJ hd)
 generalize hV1:((((dh V w).au (L.map (eZ st.boxes γ w.heap.size))).to w' hx.size).shut.aY (q≠[]) G)=V1 at hr;have W:V1.w=w':=by rw [<-hV1];rfl
 have Ss:∀b o,V1.bo b o->w'.heap[b]?=some o/\¬(b<w.heap.size/\∀o,¬V.bo b o)/\¬(q≠[]/\b=G/\b<w'.heap.size):=by rintro b o ⟨C,F⟩;rw [W] at F;rw [<-hV1] at C;refine ⟨F,λh=>C (.inl h),λh=>C (.inr ⟨h.1,h.2.1,by rw [<-h.2.1];exact h.2.2⟩)⟩
 have X:∀b o,V1.bo b o->w'.heap[b]?=some o/\¬V0.H b:=by intro b o h;obtain ⟨C,F,-⟩:=Ss b o h;refine ⟨C,λhH=>?_⟩;by_cases a1:b<w.heap.size;{exact F ⟨a1,λo' a2=>(hM.tK b o' a2).2 hH⟩};{have:=V0.hH b hH;omega}
 have Aq:∀s b,st.boxes s=some b->b.live->∀o,¬V1.bo (β s) o:=λs b f l o ho=>
  (Ss _ o ho).2.1 ⟨aN (hM.boxes s b f l),hM.Ar s b f l⟩
 have a3:∀b,(b∈L.map (eZ st.boxes γ w.heap.size)/\(dh V w).H b)->∃s∈L,∃v,st.boxes s=some v/\v.live/\β s=b:=by rintro b ⟨C,F⟩;have ⟨s,c,v,g,M,he⟩:=CQ hlive C F.1;exact ⟨s,c,v,g,M,by rw [<-kH s c];exact he⟩
 have Nc:ß n V0 bU β0 (eK st L ety) β a w' V1:=by refine (hM.M4 (L:=L) (ty:=ety)).later hx ?_ ?_ X ?_;{intro t b f l hX;rw [bD] at f;grind [fW,hM.inj]};{intro i hi hX;obtain ⟨s,c,v,g,M,rfl⟩:=a3 _ hX;rcases hM.own s v g M with h|h<;>grind [hM.nt]};intro t b f l;rw [bD] at f;grind [fW]
 have N:(eK st L ety).boxes nb=none:=by rw [bD,Ã];{exact z};intro h;have ⟨b,f⟩:=hlive nb h;rw [z] at f;cases f
 have Od:q≠[]->w.heap.size<=G\/∃k v,m=some k/\st.boxes k=some v/\v.live/\G=β k:=by intro p;rcases I p with h|h;{exact .inl h};right;(cases m with|none=>exact h.elim|some k=>{have ⟨v,g⟩:=hlive k (hm k rfl);simp only [ED,g] at h;obtain ⟨cs,ty⟩:=v;cases cs<;>grind [dP,dQ,gI]})
 have a4:ß n V0 bU β0 ((eK st L ety).box nb ⟨.aH q,ety⟩) (cF β nb G) a w' V1:=by by_cases p:q=[];{subst p;exact (Nc.beta B N).void};have O:=R p;refine Nc.kL B N rfl ?_ ?_ ?_ O (λ_ _ _=>rfl) (Ù _) rfl rfl rfl;{intro s b f l he;rw [bD] at f;split at f;{cases f;exact fW l};rename_i a5;rcases Od p with h|⟨k,v,hk,g,M,h⟩;{have:=aN (hM.boxes s b f l);omega};exact a5 (hM.inj k s v b g M f l (h▸he.symm)▸hm k hk)};{intro o ho;exact (Ss _ o ho).2.2 ⟨p,rfl,aN O⟩};rcases Od p with h|⟨k,v,hk,g,M,h⟩;{left;omega};rcases hM.own k v g M with h'|h';{left;rw [h];exact h'};right;refine ⟨?_,by rw [h];exact h'.2⟩;rw [<-hnb,hk];exact Qs h'.1
 have Ob:∀s,(∃b,st.boxes s=some b)->s≠nb:=by rintro s ⟨b,f⟩ rfl;rw [z] at f;cases f
 generalize hA:Ld m L=A at hr
 have u:∀s∈A,s∈L/\∀k,m=some k->s≠k:=by intro s c;rw [<-hA] at c;(cases m with|none=>exact ⟨c,λk h=>nomatch h⟩|some k=>{obtain ⟨C,F⟩:=C0.1 c;exact ⟨C,λj hj=>by cases hj;exact F⟩})
 have Y:∀s∈L,(∀k,m=some k->s≠k)->s∈A:=by intro s c h;rw [<-hA];(cases m with|none=>exact c|some k=>exact C0.2 ⟨c,h k rfl⟩)
 have hβ1:∀s,(∃b,st.boxes s=some b)->cF γ nb G s=γ s/\cF β nb G s=β s:=λs c=>⟨jd _ _ (Ob s c),jd _ _ (Ob s c)⟩
 have P:∀s∈A,((wG m ety st).box nb ⟨.aH q,ety⟩).boxes s=st.boxes s:=by intro s c;obtain ⟨C,F⟩:=u s c;rw [aq,Ã (Ob s (hlive s C))];(cases m with|none=>rfl|some k=>{simp only [wG];rw [aq,Ã (F k rfl)]})
 have Z:∀s∈A,∃b,st.boxes s=some b/\b.live:=by intro s c;have:=CS hr s c;rw [P s c] at this;exact this
 have ⟨st',g1,g2,g3,g4⟩:=pS (a:=a) (w:=w') (V:=V1) (γ:=cF γ nb G) (β:=cF β nb G) (by rfl) (λs c=>by
   have:=hβ1 s (hlive s (u s c).1);rw [this.1,this.2];exact kH s (u s c).1)
  (by
   intro s c s' a0 he;rw [(hβ1 s (hlive s (u s c).1)).2,(hβ1 s' (hlive s' (u s' a0).1)).2] at he;obtain ⟨b1,D,Q⟩:=Z s c;obtain ⟨b2,e2,l2⟩:=Z s' a0;exact hM.inj s s' b1 b2 D Q e2 l2 he)
  (by
   intro s c;obtain ⟨b1,D,Q⟩:=Z s c;rw [(hβ1 s ⟨b1,D⟩).2];exact Aq s b1 D Q)
  (by
   intro s c;obtain ⟨b1,D,Q⟩:=Z s c;rw [(hβ1 s ⟨b1,D⟩).2];exact hM.own s b1 D Q)
  A _ ((eK st L ety).box nb ⟨.aH q,ety⟩) (λ_ h=>h) a4
  (by
   show _=(eK st L ety).aF;rw [kj];cases m<;>rfl)
  (by
   intro t y;rw [aq,aq];split
   ·rfl
   ·rw [bD]
    cases m with
    | none=>
     simp only [wG];rw [Ã λh=>y (Y t h λk e=>nomatch e)]
    | some k=>
     simp only [wG];rw [aq];split
     ·rename_i e;rw [Ä (e▸hm k rfl)]
     ·rename_i e;rw [Ã λh=>y (Y t h λj hj=>by cases hj;exact e)])
  (by
   intro s c;rw [aq];split
   ·exact ⟨_,rfl⟩
   ·rw [bD,Ä (u s c).1];exact ⟨_,rfl⟩)
  (by
   intro t b y l YE s c;obtain ⟨b1,D,Q⟩:=Z s c;rw [(hβ1 s ⟨b1,D⟩).2];rw [aq] at y;split at y
   ·rename_i e;simp only [ā] at y;rw [e,bh];have p:q≠[]:=λe0=>by{rw [<-y,e0] at l;exact fW l};rcases Od p with h|⟨k,v,hk,g,M,h⟩;{have:=aN (hM.boxes s b1 D Q);omega};grind [hM.inj]
   ·rw [bD] at y;split at y
    ·cases y;exact Å l fW
    ·rename_i E;intro he;rw [(hβ1 t ⟨b,y⟩).2] at he;exact E (hM.inj t s b b1 y l D Q he▸(u s c).1))
  (by
   intro s c b f t y;rw [P s c] at f;have E:=hcl s (u s c).1 b f t y;have J:=hβ1 t (hlive t E);refine ⟨?_,by rw [J.1,J.2];exact kH t E⟩;rw [aq];split
   ·exact ⟨_,rfl⟩
   ·rw [bD,Ä E];exact ⟨_,rfl⟩)
  (by
   intro k a6 e
   have:a6=nb:=by (cases m with|none=>{cases e}|some m=>{cases e;rfl})
   subst this;exact ⟨⟨_,by rw [aq,Ä rfl]⟩,by rw [bh,bh]⟩)
  hr
 obtain ⟨b2,J⟩:=g3 nb ⟨_,by rw [aq,Ä rfl]⟩
 have lY:∀s∈(cond give (yE nb x) x).ids,s=nb:=by (cases give with|true=>exact N5 U|false=>{intro s c;rw [cond_false,U] at c;cases c})
 refine ⟨_,_,_,g1.put (x:=cond give (yE nb x) x) hd ?_ ?_,g4⟩
 ·exact SV.bZ λs c=>by rw [lY s c,bh,bh]
 ·intro s c;rw [lY s c];exact ⟨b2,J⟩
def mQ (hM:ß n V0 bU β0 st β a w V){m:CM}{f:FuncId}{xs:zA SV}{ty:TypeId}{dst:Option Nat}{K:St->un->Prop}{next:Act->World->Prop}{Q:Exit->Act->World->Prop}(hd:∀d,dst=some d->d<n)(hv:iw P T m f xs ty dst st V K)(hK:∀st' β' a' w' V',ß n V0 bU β0 st' β' a' w' V'->K st' V'->next a' w'):iQ P f/\Calls P f (aJ β xs) w λ
   | .returned v,w''=>next (a.put dst v) w''
   | .panicked chain,w''=>Q (.panic chain) a w''
   | .outgrown,_=>LetsOut Q:=by
 have hle:=zw hM;have b7:=hM.ext.size;unfold iw at hv;split at hv
 ·exact hv.elim
 ·rename_i sh d0;split at hv
  ·
   rename_i lY
   have b8:∀x∈xs,x.ids=[]:=by intro x u;rcases hx':x.ids with _|⟨s,r⟩;{rfl};exfalso;have:s∈ï st.boxes 3 (ô (xs.flatMap SV.ids)):=gJ 3 _ s (cE.2 (č.2 ⟨x,u,by rw [hx'];simp⟩));rw [lY] at this;cases this
   have b9:∀(w':World)(u:kQ (λ_=>False) w w'),ß n V0 bU β0 st β a w' ((dh V w).to w' u.size):=by intro w' u;refine hM.later u (λ_ _ _ _ h=>h) (λ_ _ h=>h.elim) ?_ ?_;{rintro b o ⟨E,M⟩;refine ⟨M,λhH=>?_⟩;by_cases N:b<w.heap.size;{apply E;refine ⟨N,λo' O=>(hM.tK b o' O).2 hH⟩};{have:=V0.hH b hH;omega}};rintro s b p l o ⟨E,-⟩;exact E ⟨aN (hM.boxes s b p l),hM.Ar s b p l⟩
   rw [KK b8 β λ_=>0]
   have plain:(∀V':un,V.Le V'->ae P f (aJ (λ_=>0) xs) V' λr fI=>sh.ex λx=>r=x.den (λ_=>0)/\K (st.put dst x) fI)->iQ P f/\Calls P f (aJ (λ_=>0) xs) w λ
     | .returned v,w''=>next (a.put dst v) w''
     | .panicked chain,w''=>Q (.panic chain) a w''
     | .outgrown,_=>LetsOut Q:=by
    intro hv;have ⟨hc,U⟩:=hv (dh V w) hle;refine ⟨hc,Calls.s U ?_⟩;rintro e w' ⟨r,rfl,u,Y⟩;obtain ⟨x,A,rfl,S⟩:=Sh.fF sh Y;have u:=u;exact hK (st.put dst x) β _ _ _ ((b9 w' u).LG hd (kU A _ _) (cB A)) S
   split at hv
   ·split at hv;{rename_i d Z d1;split at hv;{exact hv.elim};rename_i q;have ⟨hc,U⟩:=hv (dh V w) hle;refine ⟨hc,Calls.s U ?_⟩;rintro e' w' ⟨r,rfl,u,Y⟩;have A:kQ (λb=>b∈([]:zA Nat).map (eZ st.boxes (λ_=>0) w.heap.size)/\(dh V w).H b) w w':=u.s λ_ h=>h.elim;have b5:cK T true sh [] Option.none d Z (λ_=>0) st (dh V w) K r (((dh V w).au (([]:zA Nat).map (eZ st.boxes (λ_=>0) w.heap.size))).to w' A.size):=by{unfold cK Ld at Y ⊢;exact Y};have ⟨st',β',V',E,M⟩:=rN (T:=T) (give:=true) (m:=Option.none) hM (λs g=>Å g ψ) (λs g=>Å g ψ) (λs g=>Å g ψ) (hd d rfl) (λk W=>by cases W) q A b5;exact hK _ _ _ _ _ E M};{exact plain hv};exact hv.elim
   ·split at hv;{rename_i d;split at hv;{exact hv.elim};rename_i hn;split at hv;{rename_i ti d2;split at hv;{rename_i e he;split at hv;{rename_i ei KY;have ⟨hc,U⟩:=hv (dh V w) hle;refine ⟨hc,Calls.s U ?_⟩;rintro e' w' ⟨r,rfl,u,b,Y⟩;obtain ⟨cs,E,M,rfl,h4,h5,h6⟩:=wC _ Y;exact hK _ _ _ _ _ ((b9 w' u).adopt1 (w0:=w) (λs b p l=>aN (hM.boxes s b p l)) b7 (hd d rfl) hn h4 rfl h5 E) h6};exact hv.elim};exact hv.elim};exact hv.elim};exact hv.elim
   ·exact plain hv
  ·rename_i s0 r0 lY;split at hv
   ·exact hv.elim
   ·rename_i a4;generalize hL:s0::r0=L at hv lY a4
    have a5:∀x∈xs,∀s∈x.ids,s∈L:=by intro x u s g;rw [<-lY];exact gJ 3 _ s (cE.2 (č.2 ⟨x,u,g⟩))
    have a3:∀s∈L,∀b,st.boxes s=some b->∀t∈b.cs.ids,t∈L:=λs g b p=>fR a4 g p
    have a8:∀{R:(Nat->Nat)->um->un->Prop},(nX L (λ_=>0) λγ=>kO st.boxes γ (dh V w) L (ae P f (aJ γ xs) ((dh V w).au (L.map (eZ st.boxes γ w.heap.size))) (R γ))) ->
      ∃γ,(∀s∈L,γ s=β s)/\(∀s∈L,∃b,st.boxes s=some b)/\ae P f (aJ β xs) ((dh V w).au (L.map (eZ st.boxes γ w.heap.size))) (R γ):=by
     intro R hv;have G:=jq hv β;generalize hγ:(λt=>if t∈L then β t else (λ_=>0) t)=γ at G;have F:∀s∈L,γ s=β s:=λs g=>by rw [<-hγ];simp [g]
     have CE:∀s∈L,∀b,st.boxes s=some b->b.obj γ=b.obj β:=λs g b p=>aZ.dK λt X=>F t (a3 s g b p t X)
     have ⟨B,c0⟩:=CT G (by
      intro s g b p l;rw [F s g,CE s g b p];exact ⟨hM.boxes s b p l,aN (hM.boxes s b p l),hM.Ar s b p l⟩) (by
      intro s g t X b b' p l c6 l' e;rw [F s g,F t X] at e;exact hM.inj s t b b' p l c6 l' e)
     refine ⟨γ,F,B,?_⟩
     have D:aJ γ xs=aJ β xs:=by unfold aJ;rw [Ř λx u=>SV.bZ λs g=>F s (a5 x u s g)]
     rw [<-D];exact c0
    have a1:∀{give:ut} {mm:Option Nat} {d:Nat} {Z:TypeId},dst=some d->(∀k,mm=some k->k∈L)->mc st mm d=true ->
      (∀V':un,V.Le V'->nX L (λ_=>0) λγ=>kO st.boxes γ V' L (ae P f (aJ γ xs) (V'.au (L.map (eZ st.boxes γ V'.w.heap.size))) (cK T give sh L mm d Z γ st V' K))) ->
      iQ P f/\Calls P f (aJ β xs) w λ
       | .returned v,w''=>next (a.put dst v) w''
       | .panicked chain,w''=>Q (.panic chain) a w''
       | .outgrown,_=>LetsOut Q:=by
     intro give mm d Z a9 c7 q hv;have ⟨γ,F,B,hc,U⟩:=a8 (R:=λγ=>cK T give sh L mm d Z γ st (dh V w) K) (hv (dh V w) hle);refine ⟨hc,Calls.s U ?_⟩;rintro e w' ⟨r,rfl,u,Y⟩;have ⟨st',β',V',E,M⟩:=rN hM F a3 B (hd d a9) c7 q u Y;rw [a9];exact hK _ _ _ _ _ E M
    have c1:∀k,k∈wS st.boxes L->k∈L:=by
     intro k W;unfold wS at W;have ⟨s,g,W⟩:=č.1 (cE.1 W);split at W
     ·rename_i cs ty p;refine a3 s g _ p k ?_
      have:∀cs:zA C,k∈vq cs->k∈cs.flatMap C.ids:=by
       intro cs
       induction cs with
       | nil=>exact λh=>nomatch h
       | cons c r ih=>
        intro h;rw [Ġ,ü]
        cases c<;>simp only [vq,ç] at h<;>first
         | exact .inr (ih h)
         | (rcases h with h|h
            ·left;simp [C.ids,h]
            ·exact .inr (ih h))
      exact this cs W
     ·cases W
    have c2:∀k,k∈pT xs->k∈L:=by
     intro k W
     have:∀xs:zA SV,k∈pT xs->∃x∈xs,k∈x.ids:=by
      intro xs
      induction xs with
      | nil=>exact λh=>nomatch h
      | cons x r ih=>
       intro h;unfold pT at h;split at h
       ·rename_i heq;cases heq
       ·rename_i s n c r' heq;cases heq;exact ⟨.c (.eM s n c),ą,h⟩
       ·rename_i s n c r' heq;cases heq;exact ⟨.c (.nN s 0 n c),ą,h⟩
       ·rename_i heq;cases heq;have ⟨y,hy,W⟩:=ih h;exact ⟨y,by simp [hy],W⟩
     have ⟨x,u,W⟩:=this xs W;exact a5 x u k W
    split at hv
    ·exact hv.elim
    ·exact hv.elim
    ·
     split at hv
     ·split at hv;{exact hv.elim};rename_i q;exact a1 rfl (λk W=>by cases W) q hv
     ·rename_i d Z k _ c8 _;split at hv
      ·split at hv;{exact hv.elim};rename_i q;exact a1 rfl (λj hj=>by cases hj;exact c2 k (by rw [c8];simp)) q hv
      ·split at hv
       ·exact hv.elim
       ·rename_i q;split at hv
        ·exact hv.elim
        ·
         rename_i z;rw [ħ] at z;let Vr:un:=⟨w,λb=>(b<w.heap.size/\∀o,¬V.bo b o)/\¬∃s∈L,∃I,st.boxes s=some I/\I.live/\β s=b,λ_=>False,λ_ h=>h.1.1,λ_ h=>h.elim⟩;have a0:V.Le Vr:=λb o p=>⟨λh=>h.1.2 o p,(hM.tK b o p).1⟩
         have N9:ß n V0 bU β0 (eK st L 0) β a w Vr:=by have Nc:=hM.M4 (L:=L) (ty:=0);refine ⟨Nc.defers,Nc.size,Nc.aF,Nc.EK,Nc.EJ,Nc.boxes,Nc.inj,?_,?_,Nc.ext,Nc.own,Nc.pf,Nc.nt,hM.small⟩;{rintro b o ⟨E,M⟩;refine ⟨M,λhH=>?_⟩;have N:=aN M;apply E;refine ⟨⟨N,λo' O=>(hM.tK b o' O).2 hH⟩,λhm=>?_⟩;obtain ⟨s,g,I,J,l0,rfl⟩:=hm;rcases hM.own s I J l0 with h|h;{have:=V0.hH _ hH;omega};{have:=Ŕ (z s g);omega}};rintro s b p l o ⟨E,-⟩;rw [bD] at p;split at p;{cases p;exact Å l fW};rename_i a6;refine E ⟨⟨aN (hM.boxes s b p l),hM.Ar s b p l⟩,λhm=>?_⟩;obtain ⟨s',a2,bs,a7,ls,he⟩:=hm;exact a6 (hM.inj s' s bs b a7 ls p l he▸a2)
         have G:=jq (hv (dh Vr w) (a0.m (zw N9))) β;generalize hγ:(λt=>if t∈L then β t else (λ_=>0) t)=γ at G;have F:∀s∈L,γ s=β s:=λs g=>by rw [<-hγ];simp [g]
         have ⟨B,hc,U⟩:=jB G (by
          intro s g b p l;rw [F s g,aZ.dK λt X=>F t (fR a4 g p t X)];exact zw N9 _ _ ⟨λh=>h.2 ⟨s,g,b,p,l,rfl⟩,hM.boxes s b p l⟩)
         refine ⟨hc,?_⟩
         have D:aJ γ xs=aJ β xs:=by unfold aJ;rw [Ř λx u=>SV.bZ λs g=>F s (a5 x u s g)]
         rw [D] at U;refine Calls.s U ?_;rintro e' w' ⟨r,rfl,u,Y⟩;have A:kQ (λb=>b∈([]:zA Nat).map (eZ (eK st L 0).boxes (λ_=>0) w.heap.size)/\(dh Vr w).H b) w w':=u.s λ_ h=>h.elim
         have b5:cK T true sh [] Option.none d Z (λ_=>0) (eK st L 0) (dh Vr w) K r (((dh Vr w).au (([]:zA Nat).map (eZ (eK st L 0).boxes (λ_=>0) w.heap.size))).to w' A.size):=by unfold cK Ld at Y ⊢;exact Y
         have ⟨st',β',V',E,M⟩:=rN (T:=T) (give:=true) (m:=Option.none) N9 (λs g=>Å g ψ) (λs g=>Å g ψ) (λs g=>Å g ψ) (hd d rfl) (λk W=>by cases W) q A b5;grind
     ·split at hv
      ·exact hv.elim
      ·
       rename_i z;rw [ħ] at z;let Vr:un:=⟨w,λb=>(b<w.heap.size/\∀o,¬V.bo b o)/\¬∃s∈L,∃I,st.boxes s=some I/\I.live/\β s=b,λ_=>False,λ_ h=>h.1.1,λ_ h=>h.elim⟩;have a0:V.Le Vr:=λb o p=>⟨λh=>h.1.2 o p,(hM.tK b o p).1⟩;have G:=jq (hv Vr a0) β;generalize hγ:(λt=>if t∈L then β t else (λ_=>0) t)=γ at G;have F:∀s∈L,γ s=β s:=λs g=>by rw [<-hγ];simp [g]
       have ⟨B,hc,U⟩:=jB G (by
        intro s g b p l;rw [F s g,aZ.dK λt X=>F t (fR a4 g p t X)];exact ⟨λh=>h.2 ⟨s,g,b,p,l,rfl⟩,hM.boxes s b p l⟩)
       refine ⟨hc,?_⟩
       have D:aJ γ xs=aJ β xs:=by unfold aJ;rw [Ř λx u=>SV.bZ λs g=>F s (a5 x u s g)]
       rw [D] at U;refine Calls.s U ?_;rintro e w' ⟨r,rfl,u,Y⟩;obtain ⟨x,A,rfl,S⟩:=Sh.fF sh Y;have u:=u;refine hK _ β _ _ _ ?_ S
       have b6:ß n V0 bU β0 (eK st L 0) β a w' (Vr.to w' u.size):=by refine (hM.M4 (L:=L) (ty:=0)).later u (λ_ _ _ _ h=>h) (λ_ _ h=>h.elim) ?_ ?_;{rintro b o ⟨E,M⟩;refine ⟨M,λhH=>?_⟩;by_cases N:b<w.heap.size;{apply E;refine ⟨⟨N,λo' O=>(hM.tK b o' O).2 hH⟩,λhm=>?_⟩;obtain ⟨s,g,I,J,l0,rfl⟩:=hm;rcases hM.own s I J l0 with h|h;{have:=V0.hH _ hH;omega};{have:=Ŕ (z s g);omega}};{have:=V0.hH b hH;omega}};rintro s b p l o ⟨E,-⟩;rw [bD] at p;split at p;{cases p;exact Å l fW};rename_i a6;refine E ⟨⟨aN (hM.boxes s b p l),hM.Ar s b p l⟩,λhm=>?_⟩;obtain ⟨s',a2,bs,a7,ls,he⟩:=hm;exact a6 (hM.inj s' s bs b a7 ls p l he▸a2)
       exact b6.LG hd (kU A _ _) (cB A)
     ·exact hv.elim
    ·
     split at hv
     ·have ⟨γ,F,B,hc,U⟩:=a8 (R:=λγ r' fI=>sh.ex λx=>r'=x.den (λ_=>0)/\fV T Option.none γ fI L st λst'=>K (st'.put dst x) fI.shut) (hv (dh V w) hle);refine ⟨hc,Calls.s U ?_⟩;rintro e w' ⟨r,rfl,u,Y⟩;obtain ⟨x,A,rfl,S⟩:=Sh.fF sh Y;have u:=u;generalize hV1:(((dh V w).au (L.map (eZ st.boxes γ w.heap.size))).to w' u.size)=V2 at S;have c3:V2.w=w':=by rw [<-hV1];rfl
      have c4:∀b,(b∈L.map (eZ st.boxes γ w.heap.size)/\(dh V w).H b)->∃s∈L,∃I,st.boxes s=some I/\I.live/\β s=b:=by rintro b ⟨E,M⟩;have ⟨s,g,I,J,l0,he⟩:=CQ B E M.1;exact ⟨s,g,I,J,l0,by rw [<-F s g];exact he⟩
      have Ss:∀b o,V2.shut.bo b o->w'.heap[b]?=some o/\¬(b<w.heap.size/\∀o,¬V.bo b o):=by rintro b o ⟨E,M⟩;rw [<-hV1] at E M;exact ⟨M,E⟩
      have Aq:∀s b,st.boxes s=some b->b.live->∀o,¬V2.shut.bo (β s) o:=λs b p l o ho=>
       (Ss _ o ho).2 ⟨aN (hM.boxes s b p l),hM.Ar s b p l⟩
      have Nc:ß n V0 bU β0 (eK st L 0) β a w' V2.shut:=by refine (hM.M4 (L:=L) (ty:=0)).later u ?_ ?_ ?_ ?_;{intro t b p l hX;rw [bD] at p;split at p;{cases p;exact fW l};rename_i X;have ⟨s,g,I,J,l0,he⟩:=c4 _ hX;exact X (hM.inj s t I b J l0 p l he▸g)};{intro i hi hX;obtain ⟨s,g,I,J,l0,rfl⟩:=c4 _ hX;rcases hM.own s I J l0 with h|h;{omega};exact hM.nt _ h.2};{intro b o h;have ⟨E,M⟩:=Ss b o h;refine ⟨E,λhH=>?_⟩;by_cases N:b<w.heap.size;{exact M ⟨N,λo' O=>(hM.tK b o' O).2 hH⟩};{have:=V0.hH b hH;omega}};intro t b p l;rw [bD] at p;split at p;{cases p;exact Å l fW};exact Aq t b p l
      have lV:=CS S
      have ⟨st',g1,g2,g3,g4⟩:=pS (a:=a) (w:=w') (V:=V2.shut) (γ:=γ) (β:=β) c3 F
       (by
        intro s g s' a2 he;obtain ⟨b1,e1,l1⟩:=lV s g;obtain ⟨b2,e2,l2⟩:=lV s' a2;exact hM.inj s s' b1 b2 e1 l1 e2 l2 he)
       (by intro s g;obtain ⟨b1,e1,l1⟩:=lV s g;exact Aq s b1 e1 l1)
       (by intro s g;obtain ⟨b1,e1,l1⟩:=lV s g;exact hM.own s b1 e1 l1)
       L st (eK st L 0) (λ_ h=>h) Nc kj.symm (by intro t X;rw [bD,Ã X])
       (by intro s g;rw [bD,Ä g];exact ⟨_,rfl⟩)
       (by
        intro t b X l YE s g he;rw [bD,Ã YE] at X;obtain ⟨b1,e1,l1⟩:=lV s g;exact YE (hM.inj t s b b1 X l e1 l1 he▸g))
       (by
        intro s g b p t X;have c5:=a3 s g b p t X;exact ⟨by rw [bD,Ä c5];exact ⟨_,rfl⟩,F t c5⟩)
       (λm nb e=>by cases e) S
      exact hK _ _ _ _ _ (g1.LG hd (kU A _ _) (cB A)) g4
     ·rename_i k c9;split at hv;{rename_i d Z _;split at hv;{exact hv.elim};rename_i q;exact a1 rfl (λj hj=>by cases hj;exact c1 k (by rw [c9];simp)) q hv};exact hv.elim
     ·exact hv.elim
    ·
     split at hv
     ·exact hv.elim
     ·rename_i z;rw [ħ] at z;let Vr:un:=⟨w,λb=>(b<w.heap.size/\∀o,¬V.bo b o)/\¬∃s∈L,∃I,st.boxes s=some I/\I.live/\β s=b,λ_=>False,λ_ h=>h.1.1,λ_ h=>h.elim⟩;have a0:V.Le Vr:=λb o p=>⟨λh=>h.1.2 o p,(hM.tK b o p).1⟩;have G:=jq (hv Vr a0) β;generalize hγ:(λt=>if t∈L then β t else (λ_=>0) t)=γ at G;have F:∀s∈L,γ s=β s:=λs g=>by rw [<-hγ];simp [g]
      have ⟨B,hc,U⟩:=jB G (by
       intro s g b p l;rw [F s g,aZ.dK λt X=>F t (fR a4 g p t X)];exact ⟨λh=>h.2 ⟨s,g,b,p,l,rfl⟩,hM.boxes s b p l⟩)
      refine ⟨hc,?_⟩
      have D:aJ γ xs=aJ β xs:=by unfold aJ;rw [Ř λx u=>SV.bZ λs g=>F s (a5 x u s g)]
      rw [D] at U;refine Calls.s U ?_;rintro e w' ⟨r,rfl,u,Y⟩;obtain ⟨x,A,rfl,S⟩:=Sh.fF sh Y;have u:=u;refine hK ((st.rel L γ (C.den β)).put dst x) β _ _ _ ?_ (S (C.den β))
      have b6:ß n V0 bU β0 (st.rel L γ (C.den β)) β a w' (Vr.to w' u.size):=by refine (hM.rel (L:=L) (β':=γ) F).later u (λ_ _ _ _ h=>h) (λ_ _ h=>h.elim) ?_ ?_;{rintro b o ⟨E,M⟩;refine ⟨M,λhH=>?_⟩;by_cases N:b<w.heap.size;{apply E;refine ⟨⟨N,λo' O=>(hM.tK b o' O).2 hH⟩,λhm=>?_⟩;obtain ⟨s,g,I,J,l0,rfl⟩:=hm;rcases hM.own s I J l0 with h|h;{have:=V0.hH _ hH;omega};{have:=Ŕ (z s g);omega}};{have:=V0.hH b hH;omega}};rintro s b p l o ⟨E,-⟩;obtain ⟨a6,y,hy,rfl⟩:=jC p;have ly:=aZ.iZ l;refine E ⟨⟨aN (hM.boxes s y hy ly),hM.Ar s y hy ly⟩,λhm=>?_⟩;obtain ⟨s',a2,bs,a7,ls,he⟩:=hm;exact a6 (hM.inj s' s bs y a7 ls hy ly he▸a2)
      exact b6.LG hd (kU A _ _) (cB A)
def ß.release (M:ß n V0 bU β0 st β a w V){l:zA Nat}{K:St->un->Prop}(N:Re l st V K):∃O V',ß n V0 bU β0 O β a w V'/\V.Le V'/\K O V':=by
 unfold Re at N;split at N
 ·exact ⟨st,V,M,λ_ _ h=>h,N⟩
 ·rename_i B D;split at N
  ·exact N.elim
  ·rename_i k;generalize hL:B::D=L at N k;rw [Č,ħ] at k;obtain ⟨m,d⟩:=k;let Z:un:=⟨w,λb=>(b<w.heap.size/\∀o,¬V.bo b o)/\¬∃s∈L,∃j,st.boxes s=some j/\j.live/\β s=b,λ_=>False,λ_ h=>h.1.1,λ_ h=>h.elim⟩;have e:V.Le Z:=λb o f=>⟨λh=>h.1.2 o f,(M.tK b o f).1⟩;have i:=jq (N Z e) β;generalize hγ:(λt=>if t∈L then β t else (λ_=>0) t)=γ at i;have p:∀s∈L,γ s=β s:=λs g=>by rw [<-hγ];simp [g]
   have ⟨q,E⟩:=jB i (by
    intro s g b f l;rw [p s g,aZ.dK λt F=>p t (fR m g f t F)];exact ⟨λh=>h.2 ⟨s,g,b,f,l,rfl⟩,M.boxes s b f l⟩)
   have c:=M.rel (L:=L) (β':=γ) p;refine ⟨_,Z,?_,e,E (C.den β)⟩;refine ⟨c.defers,c.size,c.aF,c.EK,c.EJ,c.boxes,c.inj,?_,?_,c.ext,c.own,c.pf,c.nt,M.small⟩
   ·rintro b o ⟨r,x⟩;refine ⟨x,λhH=>?_⟩;apply r;refine ⟨⟨(aN x),λG u=>(M.tK b G u).2 hH⟩,λhm=>?_⟩;obtain ⟨s,g,j,v,H,rfl⟩:=hm;rcases M.own s j v H with h|h;{have:=V0.hH _ hH;omega};{have:=Ŕ (d s g);omega}
   ·rintro s b f l o ⟨r,-⟩;obtain ⟨I,y,z,rfl⟩:=jC f;have A:=aZ.iZ l;refine r ⟨⟨aN (M.boxes s y z A),M.Ar s y z A⟩,λhm=>?_⟩<;>grind [M.inj]
def DE {bx:Nat->Option aZ}{β:Nat->Nat}:∀{xs u:zA SV} {vs:zA um} {c:Nat},qi bx xs=some (vs,c,u)->c=0->u.map (SV.den β)=xs.map (SV.den β)
 | [],_,_,_,h,_=>nomatch h
 | x::r,u,vs,c,h,y=>by
  simp only [qi] at h;split at h
  ·split at h
   ·cases h;subst y;simp [SV.den,C.den,mA]
   ·cases h
  ·split at h
   ·rename_i e;cases h;rw [Ĺ,Ĺ,DE e y]
   ·cases h
def DF {bx:Nat->Option aZ}:∀{xs u:zA SV} {vs:zA um} {c:Nat},qi bx xs=some (vs,c,u)->∀t∈u.flatMap SV.ids,t∈xs.flatMap SV.ids
 | [],_,_,_,h=>nomatch h
 | x::r,u,vs,c,h=>by
  simp only [qi] at h;split at h
  ·grind [SV.ids,C.ids]
  ·split at h
   ·rename_i e;cases h;intro t y;rw [Ġ,ü] at y ⊢;exact y.imp_right (DF e t)
   ·cases h
def xA {bx bx':Nat->Option aZ}:∀{xs:zA SV},(∀s∈xs.flatMap SV.ids,bx' s=bx s)->qi bx' xs=qi bx xs
 | [],_=>rfl
 | x::r,h=>by
  have u:=xA (xs:=r) λs a=>h s (by rw [Ġ];exact ĝ _ a);simp only [qi];grind [SV.ids,C.ids]
def uW (E:ß n V0 bU β0 st β a w V){m:CM}{f:FuncId}{xs:zA SV}{ty:TypeId}{dst:Option Nat}{K:St->un->Prop}{next:Act->World->Prop}{Q:Exit->Act->World->Prop}(F:∀d,dst=some d->d<n)(u:mC P T m f xs ty dst st V K)(M:∀z β' N w' V',ß n V0 bU β0 z β' N w' V'->K z V'->next N w'):iQ P f/\Calls P f (aJ β xs) w λ
   | .returned v,y=>next (a.put dst v) y
   | .panicked chain,y=>Q (.panic chain) a y
   | .outgrown,_=>LetsOut Q:=by unfold mC at u;split at u;{split at u;{rename_i b c g e;by_cases h:b=[];{have ⟨i,j⟩:=u.1 h;have:=mQ (Q:=Q) E F j M;unfold aJ at this ⊢;rw [DE e i] at this;exact this};exact mQ E F (u.2 h) M};exact mQ E F u M};exact mQ E F u M
end
end Go.Eng
