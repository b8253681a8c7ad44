import Derived.LaidEql
import Derived.Stop.Asserts
import Derived.RowKitTokens
import Derived.Test.YtbdlbajodgoneaaGreatDoorS16
import Derived.Test.YtbdlbajodgoneaaGreatDoorS8
set_option linter.all false
open Go.IntKind (i64 u64 u32)
open Go.Value renaming slice→yD,agg→dB,bool→gF,pointer→Õ,tuple→ê,int→Ô
open Go.Eng Go.Big
namespace Go.Proofs.Tryz
variable{V:Ó}{p:OA}{c i k n y:Nat}{ss:List Sp}{q x:Rat}{xs:List Value}
theorem Dl {qs:zA Rat}(h:aZ 3 RQ V p n qs)(hi:i<qs.length):∃ad b u z c1 D E F,ae p (i*3)=some ad/\RQ V (dB #[gF b,yD u z c1,yD D E F]) qs[i]/\V.at (ad.add 0) (gF b)/\V.at (ad.add 1) (yD u z c1)/\V.at (ad.add 2) (yD D E F):=by obtain ⟨ad,d,xs,-,c,a⟩:=h.at_ i hi;obtain ⟨u,z,c1,D,E,F,e⟩:=c.shape;have e:=Æ Array.toList (Value.agg.inj e);dsimp only at e;subst e;exact ⟨ad,_,u,z,c1,D,E,F,d,c,a 0 _ rfl,a 1 _ rfl,a 2 _ rfl⟩
theorem B7 {v:un}{t:Rat}(F:MO V p n ss)(u:RQ V v t)(z:∀s∈ss,s.sz k)(st:Sz k t)(D:2*k<2^38)(E:ss.length<2^62:=by omega):À 143 #[yD p n c,v] V λr W=>r=gF (n_ ss t==2):=by obtain ⟨_,_,_,_,_,_,rfl⟩:=u.shape;refine Mu V _ λa b=>(uc ra ra z st D E).s ?_;rintro r V2 d rfl;exact ⟨_,rfl,λe f=>rfl⟩
def EY (c:List Rat)(i:Nat):List Rat:=(c.getD 0 0-((1:Int):Rat))::(List.range (i-1)).map λk=>(c.getD k 0+c.getD (k+1) 0)*((2:Int):Rat)⁻¹
def bE (c:List Rat):List Rat:=if c.length=0 then [0] else EY c c.length++[c.getD (c.length-1) 0+((1:Int):Rat)]
theorem C7 (c:zA Rat)(h:1<=i):(EY c i).length=i:=by unfold EY;simp;omega
theorem RK (c:zA Rat)(h:1<=i):EY c (i+1)=EY c i++[(c.getD (i-1) 0+c.getD i 0)*((2:Int):Rat)⁻¹]:=by obtain ⟨m,rfl⟩:∃m,i=m+1:=⟨i-1,ω⟩;unfold EY;rw [Qc9,Qc9,List.range_succ,œ];rfl
theorem jN {c:zA Rat}(h:i<c.length:=by omega):c.getD i 0=c[i]:=by rw [ě,ô h];rfl
theorem q_ {cs:zA Rat}(h:aZ 3 RQ V p n cs)(hn:cs.length<1000000000)(hs:∀q∈cs,Sz k q)(hk:4*k+8<2^38:=by omega):À 78 #[yD p n c] V λr W=>∃q m e,r=yD q m e/\aZ 3 RQ W q m (bE cs):=by
 obtain rfl:=h.len;refine AP V _ ⟨λl S l1 T w=>?_,λl=>?_⟩
 ·have l:cs.length=0:=by{simpa using l};have e:bE cs=[0]:=Ä l;rw [e];refine ⟨_,_,_,rfl,aZ.eY w (row_one rfl ?_)⟩;have:=RQ.zero (V:=S);simpa using this
 ·have l:¬cs.length=0:=by simpa using l
  have e:bE cs=EY cs cs.length++[cs.getD (cs.length-1) 0+((1:Int):Rat)]:=Ã l;rw [e];have i0:0<cs.length:=ω
  have ⟨U,b,p1,n1,c1,p2,n2,c2,N,hq,W,X,Y⟩:=Dl h i0;refine ⟨aW N,Ź,_,_,_,_,_,_,_,U,N,W,X,Y,λV2 Z=>(dM 1 φ φ).s λr V3 l3 g=>RQ.ex g λ_ g=>λV4 l4=>(iB ra ra (hs _ (ò i0)) jV).s ?_⟩;rintro r V5 l5 O;obtain ⟨_,_,_,_,_,_,rfl⟩:=O.shape;have x:=Z.m (l3.m (l4.m l5))
  refine qxQ ⟨rfl,λz V'=>∃i:Nat,z.2.2.2=(i:Int)/\1<=i/\i<=cs.length/\z.1=i/\i<=z.2.1/\z.2.1*3<=z.2.2.1.length/\é 3 RQ V' z.2.2.1 (EY cs i),λz=>cs.length-z.2.2.2.toNat,
   ⟨(1,1,_,1),by and_intros<;>first|rfl|decide,1,rfl,Ú _,i0,rfl,Ú _,Ú _,row_one rfl (by rw [jN i0];exact O)⟩,?_⟩
  rintro ⟨a,z2,vs,z4⟩ V6 y ⟨i,P,i1,NF,Q,A,hv,B⟩;dsimp only at P Q A hv B;subst P Q;have hlen:=C7 cs i1;refine ⟨rfl,λd=>?_,λd=>?_⟩
  ·have d:(a:Int)<cs.length:=Á d;have j:a<cs.length:=ω;have o:a-1<cs.length:=ω;have C:i64.wrap ((a:Int)-1)=((a-1:Nat):Int):=by{rw [aq ω];omega};have w2:i64.wrap ((a:Int)+1)=(a:Int)+1:=aq ω;dsimp only;rw [C,w2,ß,ß];have ⟨D,b1,p3,n3,c3,p4,n4,c4,f,E,F,s,G⟩:=Dl (h.le (x.m y)) o;have ⟨H,d1,p5,n5,c5,p6,n6,c6,u,a3,d0,I,d2⟩:=Dl (h.le (x.m y)) j;refine ⟨aW f,Ź,_,_,_,_,_,_,_,D,f,F,s,G,aW u,Ź,_,_,_,_,_,_,_,H,u,d0,I,d2,λV7 l7=>(Gh ra ra (hs _ (ò o)) (hs _ (ò j))).s λr V8 l8 t=>RQ.ex t λ_ t=>⟨ω,A,hv,rfl,?_,λsp J K h2=>⟨(a+1,J,_,(a:Int)+1),ω,σ,a+1,rfl,ω,j,rfl,K,?_,?_⟩⟩⟩;{intro v hm;simp only [í,Ğ,Ì] at hm;rcases hm with rfl|rfl|rfl<;>rfl};{dsimp only;have ht:(vs.take (a*3)).length=a*3:=by{rw [ì];omega};rw [ï,ï,ht];simp only [Ĉ,ĺ];omega};dsimp only;rw [RK cs i1,jN o,jN j];have:=(B.le (V':=V8)).snoc (sp:=sp) rfl t φ;rw [hlen] at this;exact this
  ·have d:¬(a:Int)<cs.length:=Â d;obtain rfl:a=cs.length:=ω;have j:cs.length-1<cs.length:=ω;have C:i64.wrap ((cs.length:Int)-1)=((cs.length-1:Nat):Int):=by{rw [aq ω];omega};dsimp only;rw [C,ß];have ⟨D,b1,p3,n3,c3,p4,n4,c4,f,E,F,s,G⟩:=Dl (h.le (x.m y)) j;refine ⟨aW f,Ź,_,_,_,_,_,_,_,D,f,F,s,G,λV9 l9=>(dM 1 φ φ).s λr eV M R=>RQ.ex R λ_ R=>λeW cU=>(eE ra ra (hs _ (ò j)) jV ω).s λr gC dI t=>RQ.ex t λ_ t=>⟨ω,A,hv,rfl,?_,λsp J K h2 iI dS T w=>?_⟩⟩;{intro v hm;simp only [í,Ğ,Ì] at hm;rcases hm with rfl|rfl|rfl<;>rfl};have L:=l9.m (M.m (cU.m (dI.m dS)));have:=(B.le (V':=iI) λ_ _ g=>g.le L).snoc (sp:=sp) rfl ra φ;rw [hlen] at this;have k:=aZ.bo (c:=J) w this φ (by rw [ï,hlen];exact K);rw [ï,hlen] at k;rw [jN j];exact ⟨_,_,_,rfl,k⟩
def cX (x:Rat):List Rat->List Rat
 | []=>[x]
 | y::r=>if y<x then y::cX x r else if y=x then y::r else x::y::r
theorem Pt:∀(o:zA Rat)(k:Nat),k<=o.length->(∀j (h:j<o.length),j<k->o[j]<x)->(∀h:k<o.length,¬o[k]<x) ->cX x o=if (∃h:k<o.length,o[k]=x) then o else o.take k++x::o.drop k:=by
 intro o
 induction o with
 | nil=>grind [cX]
 | cons y r u=>
  intro k g a b
  cases k with
  | zero=>
   have f:¬y<x:=b ψ;unfold cX;rw [Ã f];by_cases e:y=x
   ·rw [Ä e,Ä ⟨ψ,e⟩]
   grind
  | succ k=>
   have f:y<x:=a 0 ψ ω;unfold cX;rw [Ä f,u k (by simpa using g) (λj h i=>a (j+1) (by simpa using h) ω) (λh=>b (by simpa using h))];by_cases e:∃h:k<r.length,r[k]=x
   ·obtain ⟨c,d⟩:=e;rw [Ä ⟨c,d⟩,Ä ⟨by simpa using c,d⟩]
   ·rw [Ã e,Ã (by rintro ⟨c,d⟩;exact e ⟨by simpa using c,d⟩)];rfl
def fE (s:Sp)(o:List Rat):Nat->List Rat
 | 0=>o
 | 1=>if s.a then o else cX s.lo o
 | _=>if s.b then (if s.a then o else cX s.lo o) else cX s.hi (if s.a then o else cX s.lo o)
def á (ss:List Sp):List Rat:=ss.foldl (λo s=>fE s o 2) []
theorem Nn (hi:i<ss.length):á (ss.take (i+1))=fE ss[i] (á (ss.take i)) 2:=by grind [á,List.take_add_one]
theorem KD:∀{o:zA Rat},q∈cX x o->q=x\/q∈o:=by
 intro o
 induction o with
 | nil=>intro h;simp [cX] at h;exact .inl h
 | cons y r u=>
  unfold cX;grind
theorem lY:∀{o:zA Rat},(cX x o).length<=o.length+1:=by
 intro o
 induction o with
 | nil=>simp [cX]
 | cons y r u=>
  unfold cX;grind
theorem Om {s:Sp}{o:zA Rat}(u:y<2):fE s o (y+1)=if (if y=0 then s.a else s.b)=true then fE s o y else cX (if y=0 then s.lo else s.hi) (fE s o y):=by have:y=0\/y=1:=ω;rcases this with rfl|rfl<;>rfl
theorem Ha {s:Sp}{o:zA Rat}(u:y<=2):(fE s o y).length<=o.length+y:=by have d:=@lY s.lo o;have e:=@lY s.hi (if s.a then o else cX s.lo o);have c:(if s.a then o else cX s.lo o).length<=o.length+1:=by{split<;>omega};have:y=0\/y=1\/y=2:=ω;rcases this with rfl|rfl|rfl;{exact Ú _};{exact c};show (if s.b=true then (if s.a=true then o else cX s.lo o) else cX s.hi (if s.a=true then o else cX s.lo o)).length<=_;by_cases f:s.b=true<;>grind
theorem Hb {s:Sp}{o:zA Rat}(u:y<=2)(h:q∈fE s o y):q=s.lo\/q=s.hi\/q∈o:=by have c:q∈(if s.a then o else cX s.lo o)->q=s.lo\/q=s.hi\/q∈o:=by{grind [KD]};have:y=0\/y=1\/y=2:=ω;rcases this with rfl|rfl|rfl;{exact .inr (.inr h)};{exact c h};replace h:q∈(if s.b=true then (if s.a=true then o else cX s.lo o) else cX s.hi (if s.a=true then o else cX s.lo o)):=h;by_cases d:s.b=true<;>grind [KD]
theorem Gt (ss:zA Sp):(á ss).length<=2*ss.length:=by
 have:∀(ss:zA Sp)(o:zA Rat),(ss.foldl (λo s=>fE s o 2) o).length<=o.length+2*ss.length:=by
  intro ss
  induction ss<;>grind [Ha]
 grind [á]
theorem yy (h:q∈á ss):∃s∈ss,q=s.lo\/q=s.hi:=by
 have:∀(ss:zA Sp)(o:zA Rat),q∈(ss.foldl (λo s=>fE s o 2) o)->q∈o\/∃s∈ss,q=s.lo\/q=s.hi:=by
  intro ss
  induction ss with
  | nil=>exact λo h=>.inl h
  | cons s r u=>
   intro o h;rcases u _ h with h|⟨t,a,h⟩
   ·rcases Hb (Ú 2) h with h|h|h<;>grind
   grind
 rcases this ss [] h with h|h
 ·simp at h
 ·exact h
theorem IG {vs:zA un}{qs:zA Rat}(h:é 3 RQ V vs qs)(hi:i<qs.length):∃b u z c1 D E F,i*3+3<=vs.length/\(vs.drop (i*3)).take 3=[gF b,yD u z c1,yD D E F]/\RQ V (dB #[gF b,yD u z c1,yD D E F]) qs[i]:=by obtain ⟨xs,-,c,a⟩:=h.at_ i hi;obtain ⟨u,z,c1,D,E,F,e⟩:=c.shape;have e:=Æ Array.toList (Value.agg.inj e);subst e;have d:=a 2 _ rfl;have g:=(Ī.1 d).1;refine ⟨_,u,z,c1,D,E,F,ω,?_,c⟩;apply Qg8;intro j;rw [ķ];by_cases f:j<3;{rw [Ä f,Qm3];have:j=0\/j=1\/j=2:=ω;rcases this with rfl|rfl|rfl;{exact (a 0 _ rfl)};{exact (a 1 _ rfl)};exact d};rw [Ã f,Ū (by simp;omega)]
theorem cmpQ_neg {a b:Rat}:ç a b<0↔a<b:=by
 rcases cE a b with ⟨h,e⟩|⟨h,e⟩|⟨h,e⟩<;>rw [e]<;>constructor<;>intro c<;>first|exact h|omega|(exfalso;grind)
theorem Vj (h:RQ V (.agg xs.toArray) q):∀v∈xs,v.oneCell'=true:=by obtain ⟨p,n,c,a,b,d,ex⟩:=h.shape;have ex:=Æ Array.toList (Value.agg.inj ex);dsimp only at ex;subst ex;intro v u;simp only [í,Ğ,Ì] at u;rcases u with rfl|rfl|rfl<;>rfl
set_option maxHeartbeats 1000000 in
theorem HK (h:MO V p n ss)(hn:ss.length<100000000)(hs:∀s∈ss,s.sz k)(hk:2*k<2^38:=by omega):À 142 #[yD p n c] V λr W=>∃q m e,r=yD q m e/\aZ 3 RQ W q m (á ss):=by
 obtain rfl:=h.len
 refine FH V _ ⟨λz V'=>∃i:Nat,z.2.2.2=(i:Int)/\i<=ss.length/\z.1=(á (ss.take i)).length/\z.1<=z.2.1/\z.2.1*3<=z.2.2.1.length/\é 3 RQ V' z.2.2.1 (á (ss.take i)),λz=>ss.length-z.2.2.2.toNat,
  ⟨(0,0,[],0),σ,0,rfl,å _,rfl,Ú _,Ú _,é.nil⟩,?_⟩
 rintro ⟨z1,z2,vs,z4⟩ V1 l1 ⟨i,e4,NF,e1,ic,hv,hx⟩;dsimp only at e4 e1 ic hv hx;subst e4;refine ⟨rfl,λf=>?_,λf iI dS bk hb=>?_⟩
 ·have f:(i:Int)<ss.length:=Á f;have hi:i<ss.length:=ω
  have w:i64.wrap ((i:Int)+1)=(i:Int)+1:=aq ω;dsimp only;rw [ß,w];obtain ⟨ad,I,xs,hf,l⟩:=(h.le l1).at_ i hi;have A:=hs _ (ò hi);have v:=Nn hi
  have b0:(á (ss.take i)).length<300000000:=by have:=Gt (ss.take i);rw [ì] at this;omega
  have a2:∀q∈á (ss.take i),Sz k q:=λq hq=>by have ⟨s,h1,h2⟩:=yy hq;have:=hs s (ţ h1);rcases h2 with rfl|rfl;{exact this.1};exact this.2
  generalize á (ss.take i)=o at *;generalize ss[i]=s at *;obtain ⟨b,K,L,M,N,P,Q,d,S,T,f1,U,W,f2,ex,b1,b2⟩:=hf;have ex:=Æ Array.toList (Value.agg.inj ex);dsimp only at ex;subst ex
  refine ⟨aW I,Ź,b,K,L,M,N,P,Q,d,S,T,f1,U,W,f2,s.a,s.b,ad,I,l 0 _ rfl,l 1 _ rfl,l 2 _ rfl,l 3 _ rfl,l 4 _ rfl,l 5 _ rfl,l 6 _ rfl,l 7 _ rfl,
   λz _=>z=(2,2,[gF b,yD K L M,yD N P Q,gF d,yD S T f1,yD U W f2],2,0),⟨(2,2,[gF b,yD K L M,yD N P Q,gF d,yD S T f1,yD U W f2],2,0),by and_intros<;>first|rfl|decide,rfl⟩,?_⟩
  rintro z V2 l2 rfl;dsimp only
  refine ⟨rfl,λz V'=>∃y:Nat,z.2.2.2=(y:Int)/\y<=2/\z.1=(fE s o y).length/\z.1<=z.2.1/\z.2.1*3<=z.2.2.1.length/\é 3 RQ V' z.2.2.1 (fE s o y),λz=>2-z.2.2.2.toNat,
   ⟨(z1,z2,vs,0),σ,0,rfl,ω,e1,ic,hv,hx.le λ_ _ g=>g.le l2⟩,?_⟩
  rintro ⟨C,w2,us,w4⟩ V3 l3 ⟨y,f4,X,Y,E,Z,F⟩;dsimp only at f4 Y E Z F;subst f4;refine ⟨rfl,λhy=>?_,λhy=>?_⟩
  ·have hy:(y:Int)<2:=Á hy;have a3:y<2:=ω
   have a0:=Om (s:=s) (o:=o) a3;have b3:=Ha (s:=s) (o:=o) X
   have Rf:∀q∈fE s o y,Sz k q:=λq hq=>by rcases Hb X hq with h|h|h;{rw [h];exact A.1};{rw [h];exact A.2};exact a2 q h
   have wy:i64.wrap ((y:Int)+1)=(y:Int)+1:=aq ω;generalize hO:fE s o y=O at *;generalize Ss:fE s o (y+1)=O' at *
   have el:∃eb ep en ec eq em ee x no,([gF b,yD K L M,yD N P Q,gF d,yD S T f1,yD U W f2].drop (y*3)).take 3=[Value.bool eb,yD ep en ec,yD eq em ee]/\RQ V3 (dB #[gF eb,yD ep en ec,yD eq em ee]) x/\Sz k x/\O'=(if no=true then O else cX x O) /\
     ((y=0/\no=s.a)\/(y=1/\no=s.b)):=by
    have:y=0\/y=1:=ω
    rcases this with rfl|rfl
    ·exact ⟨b,K,L,M,N,P,Q,s.lo,s.a,rfl,ra,A.1,a0,.inl ⟨rfl,rfl⟩⟩
    ·exact ⟨d,S,T,f1,U,W,f2,s.hi,s.b,rfl,ra,A.2,a0,.inr ⟨rfl,rfl⟩⟩
   obtain ⟨eb,ep,en,ec,eq,em,ee,x,no,a4,hq,sx,G,a5⟩:=el;dsimp only;rw [ß,wy];refine ⟨Ź,Ú _,eb,ep,en,ec,eq,em,ee,⟨by simp;omega,a4⟩,λz _=>z=no,?_,?_⟩
   ·rcases a5 with ⟨rfl,rfl⟩|⟨rfl,rfl⟩;{exact ⟨λ_=>⟨λI=>⟨true,σ,I.symm⟩,λI=>⟨(λh=>by simp at h),λ_=>⟨false,σ,I.symm⟩⟩⟩,λh=>by simp at h⟩};exact ⟨λh=>by simp at h,λ_=>⟨λ_=>⟨s.b,σ,rfl⟩,λh=>by simp at h⟩⟩
   ·rintro z V4 l4 rfl;refine ⟨rfl,λu=>⟨(C,w2,us,(y:Int)+1),ω,σ,y+1,rfl,ω,?_,E,Z,?_⟩,λu=>?_⟩;{show C=(fE s o (y+1)).length;rw [Ss,G,Ä u];exact Y};{show é 3 RQ V4 us (fE s o (y+1));rw [Ss,G,Ä u];exact F.le λ_ _ g=>g.le l4};have H:O'=cX x O:=by{rw [G,u];rfl};refine ⟨λz _=>∃j:Nat,z=(j:Int)/\j<=O.length/\∀(D:Nat)(h:D<O.length),D<j->O[D]<x,λz=>O.length-z.toNat,⟨0,σ,0,rfl,å _,λD _ h=>Å h (Œ D)⟩,?_⟩;rintro z V5 l5 ⟨j,rfl,pH,jl⟩;have wj:i64.wrap ((j:Int)+1)=(j:Int)+1:=aq ω;rw [ß,wj];refine ⟨rfl,λz _=>z=true↔∃h:j<O.length,O[j]<x,⟨λf=>?_,λf=>⟨false,σ,?_⟩⟩,?_⟩;{have f:=Á f;have B:j<O.length:=ω;have ⟨rb,rp,rn,rc,rq,rm,re,fw,Ah,hr⟩:=IG F B;refine ⟨Ź,E,rb,rp,rn,rc,rq,rm,re,⟨fw,Ah⟩,λV6 l6=>(dR ra ra (Rf _ (ò B)) sx).s λr V7 l7 rfl=>⟨_,rfl,_,σ,by dsimp only;rw [Ñ,cmpQ_neg];exact ⟨λh=>⟨B,h⟩,λ⟨_,h⟩=>h⟩⟩⟩};{have f:=Â f;exact ⟨π,λ⟨h,_⟩=>Å h ω⟩};rintro z V8 l8 Ky;refine ⟨rfl,λu=>?_,λu=>?_⟩;{have ⟨B,a6⟩:=Ky.1 u;refine ⟨(j:Int)+1,ω,σ,j+1,rfl,B,λD h b4=>?_⟩;by_cases e:D=j;{subst e;exact a6};exact jl D h ω};have a7:∀h:j<O.length,¬O[j]<x:=λh h'=>by{have:=Ky.2 ⟨h,h'⟩;rw [u] at this;cases this};have t:=Pt O j pH jl a7;refine ⟨λz _=>z=true↔¬∃h:j<O.length,O[j]=x,⟨λhe=>⟨true,σ,?_⟩,λhe=>?_⟩,?_⟩;{have he:(j:Int)=(C:Int):=by{simpa using he};exact ⟨λ_ ⟨h,_⟩=>Å h ω,λ_=>rfl⟩};{have he:¬(j:Int)=(C:Int):=by{simpa using he};have B:j<O.length:=ω;have ⟨rb,rp,rn,rc,rq,rm,re,fw,Ah,hr⟩:=IG F B;refine ⟨Ź,E,rb,rp,rn,rc,rq,rm,re,⟨fw,Ah⟩,λV6 l6=>(dR ra ra (Rf _ (ò B)) sx).s λr V7 l7 rfl=>⟨_,rfl,_,σ,by dsimp only;rw [bne_iff_ne,ne_eq,<-fI];exact ⟨λh ⟨_,h'⟩=>h h',λh h'=>h ⟨B,h'⟩⟩⟩⟩};rintro z eW cU rE;refine ⟨rfl,λu gC dI bk hb J=>?_,λu=>?_⟩;{have a8:=rE.1 u;rw [Ã a8] at t;obtain ⟨xs,ys,x1,x2,x3,y1,y2,y3,r1,r2,r3,r4,r5⟩:=tz (V:=gC) (R:=RQ) (GR.s ⟨Y,E,Z,F⟩ λ_ _ g=>g.le au) φ (λ_ _=>Vj) hb (es:=[_,_,_]) rfl ra (j:=j);refine ⟨Ź,Ź,Ź,xs,x1,x2,ω,Ú _,Ú _,x2,x3,λb5 J2 sp c' h1 h2=>?_⟩;show ∃_,_;rw [r1,r2];(refine ⟨ys,y1,y2,Ú _,y3,ω,ω,r3,r4,λa9 a1 h3 h4=>⟨(j+(1+(C-j)),a1,_,(y:Int)+1),ω,Ÿ,y+1,rfl,ω,?_⟩⟩;have r6:=r5 a9 a1 h3 h4;rw [<-t,<-H,<-Ss] at r6;exact ⟨r6.len,r6.le,r6.cap,r6.row⟩)};have hex:=Qj5 λh=>by{have:=rE.2 h;rw [u] at this;cases this};rw [Ä hex] at t;refine ⟨(C,w2,us,(y:Int)+1),ω,σ,y+1,rfl,ω,?_,E,Z,?_⟩;{show C=(fE s o (y+1)).length;rw [Ss,H,t];exact Y};show é 3 RQ eW us (fE s o (y+1));rw [Ss,H,t];exact F.le λ_ _ g=>g.le au
  ·have hy:¬(y:Int)<2:=Â hy;obtain rfl:y=2:=ω;exact ⟨(C,w2,us,(i:Int)+1),ω,σ,i+1,rfl,hi,by dsimp only;rw [v];exact Y,E,Z,by dsimp only;rw [v];exact F⟩
 ·have f:¬(i:Int)<ss.length:=Â f;obtain rfl:i=ss.length:=ω;rw [Ė] at e1 hx;subst e1;exact ⟨_,_,_,rfl,aZ.bo hb (hx.le λ_ _ g=>g.le dS) φ ic⟩
def dO (cuts:List Rat)(i:Nat):Sp:=⟨if 0<i then cuts.getD (i-1) 0 else 0,if i<cuts.length then cuts.getD i 0 else 0,decide (i=0),decide (i=cuts.length)⟩
def yH (out:List Sp)(s:Sp):List Sp:=out.dropLast++[⟨(out.getLastD Sp.zero).lo,s.hi,(out.getLastD Sp.zero).a,s.b⟩]
def cI (cuts:List Rat)(marks:List Bool):Nat->List Sp
 | 0=>[]
 | i+1=>if marks.getD i false=true then (if 0<i/\marks.getD (i-1) false=true/\0<(cI cuts marks i).length then yH (cI cuts marks i) (dO cuts i) else cI cuts marks i++[dO cuts i]) else cI cuts marks i
def rC (cuts:List Rat)(marks:List Bool):List Sp:=cI cuts marks marks.length
theorem CH {out:zA Sp}{s:Sp}(h:0<out.length):(yH out s).length=out.length:=by grind [yH]
theorem GC (cuts:zA Rat)(marks:zA md)(i:Nat):(cI cuts marks i).length<=i:=by
 induction i with
 | zero=>simp [cI]
 | succ i u=>
  unfold cI;split
  ·split;{rename_i h;rw [CH h.2.2];omega};grind
  ·omega
theorem Vg {α:Type}{sz:Nat}{R:ut->un->α->Prop}{vs us:zA un}{ls:zA α}(h:é sz R V vs ls)(D:0<ls.length){a:α}(u:xs.length=sz)(z:R V (.agg xs.toArray) a)(hlow:∀q,q<(ls.length-1)*sz->us[q]?=vs[q]?)(hlast:∀j x,xs[j]?=some x->us[(ls.length-1)*sz+j]?=some x):é sz R V us (ls.dropLast++[a]):=by refine ⟨λi n=>?_⟩;have o:(ls.dropLast++[a]).length=ls.length:=by{rw [ï,List.length_dropLast];simp;omega};by_cases e:i=ls.length-1;{subst e;refine ⟨xs,u,?_,hlast⟩;have b:(ls.dropLast++[a])[ls.length-1]=a:=χ;rw [b];exact z};have c:i<ls.length-1:=ω;have ⟨d,f,g,p⟩:=h.at_ i ω;refine ⟨d,f,?_,λj x k=>?_⟩;{have b:(ls.dropLast++[a])[i]=ls[i]:=χ;rw [b];exact g};have l:=(Ī.1 k).1;have m:i*sz+j<(ls.length-1)*sz:=by{have:(i+1)*sz<=(ls.length-1)*sz:=ć _ ω;grind};grind
def RBl (_:Ó)(v:Value)(b:Bool):Prop:=v=.agg #[.bool b]
theorem ZG {u:zA md}(h:aZ 1 RBl V p n u)(hi:i<u.length):∃ad,ae p (i*1)=some ad/\V.at ad (gF u[i]):=by obtain ⟨ad,b,xs,-,e,a⟩:=h.at_ i hi;have e:=Æ Array.toList (Value.agg.inj e);subst e;have:=a 0 _ rfl;grind [Addr.add]
theorem wW {s:Sp}(h:oO V (.agg xs.toArray) s):∃b p n c u z D d q m e E F M,xs=[gF b,yD p n c,yD u z D,gF d,yD q m e,yD E F M,gF s.a,gF s.b]/\RQ V (dB #[gF b,yD p n c,yD u z D]) s.lo/\RQ V (dB #[gF d,yD q m e,yD E F M]) s.hi:=by obtain ⟨_,_,_,_,_,_,_,_,_,_,_,_,_,_,ex,f,g⟩:=h;exact qxW ⟨(Æ Array.toList (Value.agg.inj ex)),f,g⟩
theorem II (V:ut):RQ V (dB #[gF false,yD none 0 0,yD none 0 0]) 0:=by have:=RQ.zero (V:=V);simpa using this
set_option maxHeartbeats 1000000 in
theorem vU {q:OA}{m e:Nat}{cuts:zA Rat}{marks:zA md}(hc:aZ 3 RQ V p n cuts)(hm:aZ 1 RBl V q m marks)(hlen:marks.length=cuts.length+1)(hn:cuts.length<100000000:=by omega):À 80 #[yD p n c,yD q m e] V λr W=>∃p' n' c',r=yD p' n' c'/\aZ 8 oO W p' n' (rC cuts marks):=by
 obtain rfl:=hc.len;obtain rfl:=hm.len
 refine FE V _ ⟨λz V'=>∃i:Nat,z.2.2.2=(i:Int)/\i<=marks.length/\z.1=(cI cuts marks i).length/\z.1<=z.2.1/\z.2.1*8<=z.2.2.1.length/\é 8 oO V' z.2.2.1 (cI cuts marks i),λz=>marks.length-z.2.2.2.toNat,
  ⟨(0,0,[],0),σ,0,rfl,å _,rfl,Ú _,Ú _,é.nil⟩,?_⟩
 rintro ⟨f,z2,vs,z4⟩ V1 l1 ⟨i,e4,NF,P,L,hv,hx⟩;dsimp only at e4 P L hv hx;subst e4;refine ⟨rfl,λy=>?_,λy V5 l5 bk D=>?_⟩
 ·have y:(i:Int)<marks.length:=Á y;have hi:i<marks.length:=ω;have w:i64.wrap ((i:Int)+1)=(i:Int)+1:=aq ω;have a8:=GC cuts marks i;have R:marks.getD i false=marks[i]:=by{rw [ě,ô hi];rfl};have S:marks[i]=false->cI cuts marks (i+1)=cI cuts marks i:=λh=>by{show (if marks.getD i false=true then _ else _)=_;rw [R,h];rfl};have l:marks[i]=true->cI cuts marks (i+1)=if 0<i/\marks.getD (i-1) false=true/\0<(cI cuts marks i).length then yH (cI cuts marks i) (dO cuts i) else cI cuts marks i++[dO cuts i]:=λh=>by{show (if marks.getD i false=true then _ else _)=_;rw [R,h];rfl};dsimp only;rw [ß,w];have ⟨ad,ha,a0⟩:=ZG (hm.le l1 λ_ _ g=>g) hi;refine ⟨aW ha,Ź,marks[i],⟨ad,ha,a0⟩,λD=>?_,λD=>?_⟩;{rw [ŋ] at D;exact ⟨(f,z2,vs,(i:Int)+1),ω,σ,i+1,rfl,hi,by dsimp only;rw [S D];exact P,L,hv,by dsimp only;rw [S D];exact hx⟩};rw [Qm5] at D;have l:=l D;generalize cI cuts marks i=out at *;generalize hO:cI cuts marks (i+1)=out' at *;refine ⟨λz V'=>RQ V' (dB #[gF z.1,yD z.2.1 z.2.2.1 z.2.2.2.1,yD z.2.2.2.2.1 z.2.2.2.2.2.1 z.2.2.2.2.2.2.1]) ((dO cuts i).lo)/\RQ V' (dB #[gF z.2.2.2.2.2.2.2.1,yD z.2.2.2.2.2.2.2.2.1 z.2.2.2.2.2.2.2.2.2.1 z.2.2.2.2.2.2.2.2.2.2.1,yD z.2.2.2.2.2.2.2.2.2.2.2.1 z.2.2.2.2.2.2.2.2.2.2.2.2.1 z.2.2.2.2.2.2.2.2.2.2.2.2.2.1]) (0)/\z.2.2.2.2.2.2.2.2.2.2.2.2.2.2.1=decide (i=0)/\z.2.2.2.2.2.2.2.2.2.2.2.2.2.2.2=decide (i=cuts.length),⟨λs=>?_,λs=>⟨(false,none,0,0,none,0,0,false,none,0,0,none,0,0,(i:Int)==0,(i:Int)==(cuts.length:Int)),σ,?_⟩⟩,?_⟩;{have s:=Á s;have k:i-1<cuts.length:=ω;have T:i64.wrap ((i:Int)-1)=((i-1:Nat):Int):=by{rw [aq ω];omega};rw [T,ß];have ⟨U,b1,p3,n3,c3,p4,n4,c4,t,A,b0,M,b2⟩:=Dl (hc.le l1) k;refine ⟨aW t,Ź,_,_,_,_,_,_,_,U,t,b0,M,b2,(b1,p3,n3,c3,p4,n4,c4,false,none,0,0,none,0,0,(i:Int)==0,(i:Int)==(cuts.length:Int)),σ,?_,II _,?_,?_⟩;{show RQ V1 _ (if 0<i then cuts.getD (i-1) 0 else 0);rw [Ä ω,jN k];exact A};{show ((i:Int)==0)=decide (i=0);rw [ĵ,Ë,Ñ];omega};show ((i:Int)==(cuts.length:Int))=decide (i=cuts.length);rw [ĵ,Ë,Ñ];omega};{have s:=Â s;refine ⟨?_,II _,?_,?_⟩;{show RQ V1 _ (if 0<i then cuts.getD (i-1) 0 else 0);rw [Ã ω];exact II _};{show ((i:Int)==0)=decide (i=0);rw [ĵ,Ë,Ñ];omega};show ((i:Int)==(cuts.length:Int))=decide (i=cuts.length);rw [ĵ,Ë,Ñ];omega};rintro ⟨x1,x2,x3,x4,x5,x6,x7,x8,x9,a1,A7,Mx,My,a2,a9,b3⟩ V2 l2 ⟨hA,hB,hC,hD⟩;dsimp only at hA hB hC hD;subst hC hD;refine ⟨rfl,λz V'=>RQ V' (dB #[gF z.1,yD z.2.1 z.2.2.1 z.2.2.2.1,yD z.2.2.2.2.1 z.2.2.2.2.2.1 z.2.2.2.2.2.2.1]) ((dO cuts i).lo)/\RQ V' (dB #[gF z.2.2.2.2.2.2.2.1,yD z.2.2.2.2.2.2.2.2.1 z.2.2.2.2.2.2.2.2.2.1 z.2.2.2.2.2.2.2.2.2.2.1,yD z.2.2.2.2.2.2.2.2.2.2.2.1 z.2.2.2.2.2.2.2.2.2.2.2.2.1 z.2.2.2.2.2.2.2.2.2.2.2.2.2.1]) ((dO cuts i).hi)/\z.2.2.2.2.2.2.2.2.2.2.2.2.2.2.1=decide (i=0)/\z.2.2.2.2.2.2.2.2.2.2.2.2.2.2.2=decide (i=cuts.length),⟨λs=>?_,λs=>⟨(x1,x2,x3,x4,x5,x6,x7,x8,x9,a1,A7,Mx,My,a2,decide (i=0),decide (i=cuts.length)),σ,hA,?_,rfl,rfl⟩⟩,?_⟩;{have s:=Á s;have k:i<cuts.length:=ω;have ⟨U,b1,p3,n3,c3,p4,n4,c4,t,A,b0,M,b2⟩:=Dl (hc.le (l1.m l2)) k;refine ⟨aW t,Ź,_,_,_,_,_,_,_,U,t,b0,M,b2,(x1,x2,x3,x4,x5,x6,x7,b1,p3,n3,c3,p4,n4,c4,decide (i=0),decide (i=cuts.length)),σ,hA,?_,rfl,rfl⟩;show RQ V2 _ (if i<cuts.length then cuts.getD i 0 else 0);rw [Ä k,jN k];exact A};{have s:=Â s;show RQ V2 _ (if i<cuts.length then cuts.getD i 0 else 0);rw [Ã ω];exact hB};rintro ⟨y1,y2,y3,y4,y5,y6,y7,E,F,G,H,I,u,J,b4,b5⟩ V3 l3 ⟨kA,kB,kC,kD⟩;dsimp only at kA kB kC kD;subst kC kD;refine ⟨rfl,λz _=>z=decide (0<i/\marks.getD (i-1) false=true/\0<out.length),⟨λs=>?_,λs=>⟨false,σ,?_⟩⟩,?_⟩;{have s:=Á s;have k:i-1<marks.length:=ω;have T:i64.wrap ((i:Int)-1)=((i-1:Nat):Int):=by{rw [aq ω];omega};have a3:marks.getD (i-1) false=marks[i-1]:=by{rw [ě,ô k];rfl};rw [T,ß,a3];have ⟨U,t,W⟩:=ZG (hm.le (l1.m (l2.m l3)) λ_ _ g=>g) k;refine ⟨aW t,Ź,marks[i-1],⟨U,t,W⟩,λN=>⟨_,σ,?_⟩,λN=>⟨false,σ,?_⟩⟩;{dsimp only;rw [N,É];constructor;{intro h;exact ⟨ω,rfl,ω⟩};rintro ⟨_,_,h⟩;omega};dsimp only;rw [N];simp};{have s:=Â s;dsimp only;rw [È];rintro ⟨h,_⟩;omega};rintro z V4 l4 rfl;have gA:oO V4 (dB #[gF y1,yD y2 y3 y4,yD y5 y6 y7,gF E,yD F G H,yD I u J,gF (decide (i=0)),gF (decide (i=cuts.length))]) (dO cuts i):=qxW ⟨rfl,ra,kB.le l4⟩;have B:=hx.le (V':=V4);refine ⟨rfl,λK=>?_,λK=>?_⟩;{have K:=Á K;rw [Ä K] at l;have T:i64.wrap ((f:Int)-1)=((f-1:Nat):Int):=by{rw [aq ω];omega};rw [T,ß];have X:=K.2.2;have b6:=B.eX φ;have Y:out.length-1<out.length:=ω;have a4:out.getLastD Sp.zero=out[out.length-1]:=by{rw [Wz1,List.getLast?_eq_getElem?,ô Y];rfl};obtain ⟨b7,-,a5,a6⟩:=B.at_ (out.length-1) Y;obtain ⟨b,s1,s2,s3,s4,s5,s6,d,t1,t2,t3,t4,t5,t6,ex,A,b8⟩:=wW a5;subst ex;have sv:=mu (vs:=vs) (xs:=[gF E,yD F G H,yD I u J]) (o:=(f-1)*8+3) (by simp only [Ĉ,ĺ];omega);have a7:(bG vs ((f-1)*8+3) [gF E,yD F G H,yD I u J]).length=vs.length:=by{rw [sv];simp only [ï,ì,į,Ĉ,ĺ];omega};have sg:∀r,r<(f-1)*8+3\/(f-1)*8+6<=r->(bG vs ((f-1)*8+3) [gF E,yD F G H,yD I u J])[r]?=vs[r]?:=by{intro r Z;rw [sv,Ě];have Q:(vs.take ((f-1)*8+3)).length=(f-1)*8+3:=by{rw [ì];omega};rcases Z with Z|Z;{rw [Ĺ ω,ķ,Ä Z]};rw [ŕ ω,ŕ (by rw [Q];simp only [Ĉ,ĺ];omega),Qm3,Q];congr 1;simp only [Ĉ,ĺ];omega};have sm:∀j x,([gF E,yD F G H,yD I u J]:zA un)[j]?=some x->(bG vs ((f-1)*8+3) [gF E,yD F G H,yD I u J])[(f-1)*8+3+j]?=some x:=by{intro j x C;have O:=(Ī.1 C).1;have Q:(vs.take ((f-1)*8+3)).length=(f-1)*8+3:=by{rw [ì];omega};rw [sv,Ě,ŕ ω,Q,Qn8,Ĺ O];exact C};generalize bG vs ((f-1)*8+3) [gF E,yD F G H,yD I u J]=us at *;refine ⟨Ź,L,ω,Ź,L,ω,(f,z2,us.set ((f-1)*8+7) (gF (decide (i=cuts.length))),(i:Int)+1),ω,σ,i+1,rfl,hi,?_,L,?_,?_⟩;{dsimp only;rw [hO,l,CH X];exact P};{dsimp only;rw [Qf6,a7];exact hv};dsimp only;rw [hO,l];unfold yH;rw [a4];refine Vg B X (xs:=[gF b,yD s1 s2 s3,yD s4 s5 s6,gF E,yD F G H,yD I u J,gF out[out.length-1].a,gF (dO cuts i).b]) rfl (qxW ⟨rfl,A,ra⟩) ?_ ?_;{intro r Z;rw [Qm2 ω,sg r ω]};intro j x C;have O:=(Ī.1 C).1;have b9:j<8:=O;by_cases h7:j=7;{subst h7;rw [show (out.length-1)*8+7=(f-1)*8+7 by omega,Qt3 ω];exact C};rw [Qm2 ω];by_cases h3:j<3\/j=6;{rw [sg _ ω];have hc:=a6 j x;have:j=0\/j=1\/j=2\/j=6:=ω;rcases this with rfl|rfl|rfl|rfl<;>exact hc C};{have:j=3\/j=4\/j=5:=ω;rcases this with rfl|rfl|rfl;{have:=sm 0 x C;rw [show (out.length-1)*8+3=(f-1)*8+3+0 by omega];exact this};{have:=sm 1 x C;rw [show (out.length-1)*8+4=(f-1)*8+3+1 by omega];exact this};{have:=sm 2 x C;rw [show (out.length-1)*8+5=(f-1)*8+3+2 by omega];exact this}}};have K:=Â K;rw [Ã K] at l;refine ⟨ω,L,hv,rfl,?_,λsp c' h1 h2=>⟨(f+1,c',_,(i:Int)+1),ω,σ,i+1,rfl,hi,?_,h1,?_,?_⟩⟩;{intro v Cw;simp only [í,Ğ,Ì] at Cw;rcases Cw with rfl|rfl|rfl|rfl|rfl|rfl|rfl|rfl<;>rfl};{dsimp only;rw [hO,l,ï,P];rfl};{dsimp only;have Q:(vs.take (f*8)).length=f*8:=by{rw [ì];omega};rw [ï,ï,Q];simp only [Ĉ,ĺ];omega};dsimp only;rw [hO,l];have:=B.snoc (sp:=sp) rfl gA φ;rw [<-P] at this;exact this
 ·have y:¬(i:Int)<marks.length:=Â y;obtain rfl:i=marks.length:=ω;subst P;exact ⟨_,_,_,rfl,aZ.bo D (hx.le λ_ _ g=>oO.le g l5) φ L⟩
end Go.Proofs.Tryz
namespace Go.Proofs.Tryz
def getD_l {a b:zA Rat}{i:Nat}(h:i<a.length:=by omega):(a++b).getD i 0=a.getD i 0:=χ
def asc (c:List Rat):Prop:=c.Pairwise (·< ·)
theorem rG {x q:Rat}:∀{o:zA Rat},q∈cX x o↔q=x\/q∈o:=by
 intro o
 induction o with
 | nil=>simp [cX]
 | cons y r u=>
  unfold cX;split
  ·grind
  ·split;{rename_i e;subst e;exact ⟨.inr,λh=>h.elim (λe=>by subst e;simp) id⟩};rw [í]
theorem Cz {x:Rat}:∀{o:zA Rat},asc o->asc (cX x o):=by
 intro o
 induction o with
 | nil=>intro _;simp [cX,asc]
 | cons y r u=>
  intro h;have ⟨d,a⟩:=ģ.1 h;unfold cX;split
  ·rename_i c;refine ģ.2 ⟨λq b=>?_,u a⟩<;>grind [rG.1]
  ·split;{exact h};rename_i e f;refine ģ.2 ⟨λq b=>?_,h⟩<;>grind
def Sp.cV (s:Sp)(q:Rat):Prop:=(s.a=false/\q=s.lo)\/(s.b=false/\q=s.hi)
theorem Vy {s:Sp}{o:zA Rat}{q:Rat}:q∈fE s o 2↔s.cV q\/q∈o:=by show q∈(if s.b=true then (if s.a=true then o else cX s.lo o) else cX s.hi (if s.a=true then o else cX s.lo o))↔_;unfold Sp.cV;cases s.a<;>cases s.b<;>simp [rG];grind
theorem Vx {s:Sp}{o:zA Rat}(h:asc o):asc (fE s o 2):=by show asc (if s.b=true then (if s.a=true then o else cX s.lo o) else cX s.hi (if s.a=true then o else cX s.lo o));cases s.a<;>cases s.b<;>simp [Cz,h]
def Gu:∀(ss:zA Sp)(o:zA Rat),(asc o->asc (ss.foldl (λo s=>fE s o 2) o))/\∀q,q∈(ss.foldl (λo s=>fE s o 2) o)↔q∈o\/∃s∈ss,s.cV q:=by
 intro ss
 induction ss<;>grind [Vx,Vy]
def Ck (ss:zA Sp):asc (á ss):=(Gu ss []).1 List.Pairwise.nil
def fC {ss:zA Sp}{q:Rat}:q∈á ss↔∃s∈ss,s.cV q:=by have:=(Gu ss []).2 q;simpa [á] using this
section
variable{c:List Rat}(h:asc c)
include h
theorem xV {i j:Nat}(hij:i<j)(u:j<c.length):c.getD i 0<c.getD j 0:=by rw [jN,jN u];exact Qv6.1 h i j ω u hij
theorem SO {i j:Nat}(hij:i<=j)(u:j<c.length):c.getD i 0<=c.getD j 0:=by rcases ę i j with a|a;{have:=xV h a u;grind};grind
omit h
theorem Xj {i:Nat}{t:Rat}:(dO c i).inn t↔(0<i->c.getD (i-1) 0<t)/\(i≠c.length->i<c.length->t<c.getD i 0)/\(i≠c.length->c.length<i->t<0):=by unfold dO Sp.inn;grind
theorem rD {i:Nat}(hi:i<=c.length:=by omega){t:Rat}:(dO c i).inn t↔(0<i->c.getD (i-1) 0<t)/\(i<c.length->t<c.getD i 0):=by grind [Xj]
include h
theorem TR {i:Nat}(hi:i<=c.length):(dO c i).good:=by refine ⟨⟨λe=>?_,λe=>?_⟩,Sp.iS.2 ?_⟩;{have e:=Á e;subst e;rfl};{have e:=Á e;subst e;exact Ã (Ww6 _)};by_cases a:i=0;{exact .inl (Ç a)};by_cases b:i=c.length;{exact .inr (.inl (Ç b))};refine .inr (.inr ?_);show (if 0<i then c.getD (i-1) 0 else 0)<(if i<c.length then c.getD i 0 else 0);grind [xV]
theorem TQ {t:Rat}(z:t∉c):∃i,i<=c.length/\(dO c i).inn t:=by
 have key:∀k,k<=c.length->(∀j,j<k->c.getD j 0<t)\/∃i,i<=c.length/\(dO c i).inn t:=by
  intro k
  induction k with
  | zero=>exact λ_=>.inl λj b=>Å b (Œ j)
  | succ k u=>
   intro e;rcases u ω with g|g
   ·by_cases d:c.getD k 0<t;{grind};refine .inr ⟨k,ω,(rD).2 ⟨λa=>g _ ω,λ_=>?_⟩⟩<;>grind
   ·exact .inr g
 rcases key c.length (Ú _) with g|g
 ·exact ⟨c.length,Ú _,(rD (Ú _)).2 ⟨λa=>g _ ω,λa=>ω⟩⟩
 ·exact g
theorem lR {i:Nat}(hi:i<=c.length){t u x:Rat}(z:(dO c i).inn t)(hu:(dO c i).inn u)(D:x∈c):(x<t↔x<u)/\(t<x↔u<x)/\x≠t:=by obtain ⟨t1,t2⟩:=(rD hi).1 z;obtain ⟨d,e⟩:=(rD hi).1 hu;obtain ⟨j,b,rfl⟩:=Qc3 D;rcases ę j i with a|a;{have:=SO h (show j<=i-1 by omega) ω;grind};{have:=SO h a b;grind}
theorem Lb {i:Nat}(hi:i<=c.length):(dO c i).inn ((bE c).getD i 0):=by rw [rD hi];unfold bE;by_cases a:c.length=0;{exact ⟨λ_=>ω,λ_=>ω⟩};rw [Ã a];have b:=C7 c (show 1<=c.length by omega);by_cases d:i=c.length;{grind};rw [getD_l];unfold EY;by_cases e:i=0;{grind};obtain ⟨m,rfl⟩:∃m,i=m+1:=⟨i-1,ω⟩;have:=xV h (show m<m+1 by omega) ω;grind
omit h
theorem eK:(bE c).length=c.length+1:=by unfold bE;grind [C7]
end
section
variable{c:List Rat}{ms:List Bool}
structure FI (c:List Rat) (ms:List Bool) (i:Nat):Prop where
 r:uu (cI c ms i)
 mem:∀t,t∉c->(An (cI c ms i) t↔∃j,j<i/\ms.getD j false=true/\(dO c j).inn t)
 top:0<i->i<=c.length->∀s∈cI c ms i,s.b=false/\s.hi<=c.getD (i-1) 0
 str:0<i->i<=c.length->ms.getD (i-1) false=false->∀s∈cI c ms i,s.hi<c.getD (i-1) 0
 last:0<i->i<=c.length->ms.getD (i-1) false=true->∃l0 l,cI c ms i=l0++[l]/\l.hi=c.getD (i-1) 0
theorem yK {ss:zA Sp}{s:Sp}{t:Rat}:An (ss++[s]) t↔An ss t\/s.inn t:=by constructor;{rintro ⟨x,a,b⟩;rcases ü.1 a with a|a;{exact .inl ⟨x,a,b⟩};grind};rintro (⟨x,a,b⟩|b);{exact ⟨x,by simp [a],b⟩};exact ⟨s,ψ,b⟩
theorem wS {ss:zA Sp}{s:Sp}(h:uu ss)(u:s.good)(z:∀x∈ss,x.MG s):uu (ss++[s]):=by refine ⟨λx a=>?_,Qg7.2 ⟨h.2,ψ,λx a y b=>?_⟩⟩;{rcases ü.1 a with a|a;{exact h.1 x a};grind};grind
theorem Lm {ss:zA Sp}{s:Sp}(h:uu (ss++[s])):uu ss/\s.good/\∀x∈ss,x.MG s:=by obtain ⟨b,-,c⟩:=Qg7.1 h.2;exact ⟨⟨λx a=>h.1 x (by simp [a]),b⟩,h.1 s ψ,λx a=>c x a s ψ⟩
theorem HV {P:Nat->Prop}{i:Nat}:(∃j,j<i+1/\P j)↔(∃j,j<i/\P j)\/P i:=χ
theorem Xc (h:asc c){i:Nat}(hi:i<=c.length)(F:FI c ms i):FI c ms (i+1):=by have A:=TR h hi;have D:i<c.length->(dO c i).hi=c.getD i 0:=λj=>Ä j;have E:0<i->(dO c i).lo=c.getD (i-1) 0:=λj=>Ä j;have B:0<i->(dO c i).a=false:=λj=>È ω;have I:i<c.length->(dO c i).b=false:=λj=>È ω;by_cases hm:ms.getD i false=true;{have y:¬ms.getD i false=false:=by{rw [hm];decide};by_cases j:0<i/\ms.getD (i-1) false=true;{have ⟨L,l,el,G⟩:=F.last j.1 hi j.2;have e:cI c ms (i+1)=L++[⟨l.lo,(dO c i).hi,l.a,(dO c i).b⟩]:=by{rw [cI,Ä hm,Ä ⟨j.1,j.2,by rw [el];simp⟩,el];simp [yH]};have J:=F.r;rw [el] at J;have ⟨f1,f2,f3⟩:=Lm J;have m:=(F.top j.1 hi l (by rw [el];simp)).1;have q:(⟨l.lo,(dO c i).hi,l.a,(dO c i).b⟩:Sp).good:=by{refine ⟨⟨f2.1.1,A.1.2⟩,Sp.iS.2 ?_⟩;(cases Z:l.a with|true=>exact .inl rfl|false=>{(cases w:(dO c i).b with|true=>exact .inr (.inl rfl)|false=>{have n:=oB f2.2 Z m;have u:=oB A.2 (B j.1) w;exact .inr (.inr χ)})})};refine ⟨?_,λt v=>?_,λ_ d s f=>?_,λ_ d k=>?_,λ_ d _=>?_⟩;{rw [e];exact wS f1 q λx k=>⟨(f3 x k).1,(f3 x k).2.1,(f3 x k).2.2⟩};{rw [e,HV,<-F.mem t v,yK,el,yK,or_assoc];refine or_congr Wv3 ?_;have M:(dO c i).inn t↔c.getD (i-1) 0<t/\((dO c i).b=true\/t<(dO c i).hi):=by{unfold Sp.inn;rw [B j.1,E j.1];simp};have K:t≠c.getD (i-1) 0:=by{rintro rfl;rw [jN] at v;exact v (ò _)};show (l.a=true\/l.lo<t)/\((dO c i).b=true\/t<(dO c i).hi)↔((l.a=true\/l.lo<t)/\(l.b=true\/t<l.hi))\/_;rw [G,m];have n:l.a=true\/l.lo<c.getD (i-1) 0:=by{(cases Z:l.a with|true=>exact .inl rfl|false=>{have:=oB f2.2 Z m;rw [G] at this;exact .inr this})};have u:(dO c i).b=true\/c.getD (i-1) 0<(dO c i).hi:=by{(cases w:(dO c i).b with|true=>exact .inl rfl|false=>{have:=oB A.2 (B j.1) w;rw [E j.1] at this;exact .inr this})};constructor;{rintro ⟨C,o⟩;by_cases g:t<c.getD (i-1) 0;{exact .inl ⟨C,.inr g⟩};exact .inr ⟨hm,χ,o⟩};rintro (⟨C,o⟩|⟨-,C,o⟩);{have N:t<c.getD (i-1) 0:=by{rcases o with o|o;{cases o};exact o};exact ⟨C,u.imp_right λu=>χ⟩};exact ⟨n.imp_right λn=>χ,o⟩};{rw [e] at f;rcases ü.1 f with f|f;{have b:=f3 s f;refine ⟨b.1,?_⟩;have n:l.lo<c.getD (i-1) 0:=by{have:=oB f2.2 b.2.1 m;rwa [G] at this};have u:=xV h (show i-1<i by omega) d;have:=b.2.2;grind};obtain rfl:s=_:=by{simpa using f};refine ⟨I d,?_⟩;rw [D d];grind};{rw [Qc9] at k;exact Å k y};grind};have e:cI c ms (i+1)=cI c ms i++[dO c i]:=by{rw [cI,Ä hm,Ã (λg=>j ⟨g.1,g.2.1⟩)]};have w:∀x∈cI c ms i,x.MG (dO c i):=λx k=>by{by_cases p:0<i;{have H:ms.getD (i-1) false=false:=by{(cases hq:ms.getD (i-1) false with|false=>rfl|true=>exact Å ⟨p,hq⟩ j)};exact ⟨(F.top p hi x k).1,B p,by rw [E p];exact F.str p hi H x k⟩};obtain rfl:i=0:=ω;cases k};refine ⟨?_,λt v=>?_,λ_ d s f=>?_,λ_ d k=>?_,λ_ d _=>?_⟩;{rw [e];exact wS F.r A w};{rw [e,HV,<-F.mem t v,yK];exact or_congr Wv3 ⟨λg=>⟨hm,g⟩,λg=>g.2⟩};{rw [e] at f;rcases ü.1 f with f|f;{refine ⟨(w s f).1,?_⟩;by_cases p:0<i;{have n:=(F.top p hi s f).2;have u:=xV h (show i-1<i by omega) d;grind};obtain rfl:i=0:=ω;cases f};obtain rfl:s=_:=by{simpa using f};refine ⟨I d,?_⟩;rw [D d];grind};{rw [Qc9] at k;exact Å k y};rw [Qc9];exact ⟨_,_,e,D d⟩};have e:cI c ms (i+1)=cI c ms i:=by{rw [cI,Ã hm]};have z:i<c.length->∀s∈cI c ms i,s.b=false/\s.hi<c.getD i 0:=λd s f=>by{by_cases p:0<i;{have ⟨n,u⟩:=F.top p hi s f;have O:=xV h (show i-1<i by omega) d;exact ⟨n,χ⟩};obtain rfl:i=0:=ω;cases f};refine ⟨by rw [e];exact F.r,λt v=>?_,λ_ d s f=>?_,λ_ d k s f=>?_,λ_ d k=>?_⟩;{rw [e,HV,F.mem t v];exact ⟨.inl,λg=>g.elim id λg=>Å g.1 hm⟩};{rw [e] at f;have ⟨n,u⟩:=z d s f;exact ⟨n,χ⟩};{rw [e] at f;exact (z d s f).2};rw [Qc9] at k;exact Å k hm
theorem fi (h:asc c):∀{i:Nat},i<=c.length+1->FI c ms i:=by
 intro i
 induction i with
 | zero=>exact λ_=>⟨⟨ű,List.Pairwise.nil⟩,(λt _=>⟨(λ⟨_,h,_⟩=>by cases h),(λ⟨_,h,_⟩=>Å h (Œ _))⟩),(λh=>Å h (Ww6 _)),(λh=>Å h (Ww6 _)),(λh=>Å h (Ww6 _))⟩
 | succ i u=>exact λa=>Xc h ω (u ω)
end
def Sp.innB (s:Sp)(t:Rat):Bool:=(s.a||decide (s.lo<t))&&(s.b||decide (t<s.hi))
variable{ss:List Sp}
def ð (ss:List Sp)(t:Rat):Bool:=ss.any λs=>s.innB t
theorem innB_iff {s:Sp}{t:Rat}:s.innB t=true↔s.inn t:=by unfold Sp.innB Sp.inn;simp
theorem kU {t:Rat}:ð ss t=true↔An ss t:=by unfold ð An;rw [Qh7];exact ⟨λ⟨s,a,b⟩=>⟨s,a,innB_iff.1 b⟩,λ⟨s,a,b⟩=>⟨s,a,innB_iff.2 b⟩⟩
theorem A_ {a b:md}(h:a=true↔b=true):a=b:=by cases a<;>cases b<;>simp at h<;>rfl
theorem WZ {t:Rat}(h:∀s∈ss,¬s.cV t):(n_ ss t==2)=ð ss t:=by
 induction ss with
 | nil=>rfl
 | cons s r z=>
  have f:=h s ψ
  have c:s.innB t=decide (yo (s.la t) (s.lb t)=2)/\(yo (s.la t) (s.lb t)≠0->yo (s.la t) (s.lb t)=2):=by unfold Sp.cV at f;unfold Sp.innB Sp.la Sp.lb yo;rcases cE t s.lo with ⟨g,d⟩|⟨g,d⟩|⟨g,d⟩<;>rcases cE t s.hi with ⟨u,e2⟩|⟨u,e2⟩|⟨u,e2⟩<;>rw [d,e2]<;>cases D:s.a<;>cases c:s.b<;>simp at f⊢<;>grind
  have e:ð (s::r) t=(s.innB t||ð r t):=rfl;rw [e,<-(z λx j=>h x (by simp [j])),c.1];by_cases i:yo (s.la t) (s.lb t)=0
  ·simp [n_,i]
  ·have:=c.2 i;simp [n_,this]
def ĥ (op:Int)(x y:Bool):Bool:=if op=2 then x&&y else if op=3 then x&&!y else if op=4 then x != y else x||y
def ju (op:Int)(a b:List Sp)(c:List Rat):List Bool:=(bE c).map λt=>ĥ op (n_ a t==2) (n_ b t==2)
def Ü (op:Int)(a b:List Sp):List Sp:=rC (á (a++b)) (ju op a b (á (a++b)))
theorem lq (op:Int)(a b:zA Sp)(c:zA Rat):(ju op a b c).length=c.length+1:=by unfold ju;rw [Č,eK]
theorem comb_reg (op:Int)(a b:zA Sp):uu (Ü op a b):=by unfold Ü rC;rw [lq];exact (fi (Ck _) (Ú _)).r
theorem Xi {c:zA Rat}(h:asc c)(D:∀s∈ss,∀q,s.cV q->q∈c){i:Nat}(hi:i<=c.length){t u:Rat}(z:(dO c i).inn t)(hu:(dO c i).inn u):ð ss t=ð ss u:=by
 induction ss with
 | nil=>rfl
 | cons s r M=>
  have e:∀t,ð (s::r) t=(s.innB t||ð r t):=λ_=>rfl;rw [e,e,(M λx f=>D x (by simp [f]))];congr 1;have d:=D s ψ;unfold Sp.innB;cases E:s.a<;>cases F:s.b<;>simp
  ·have g:=lR h hi z hu (d s.lo (.inl ⟨E,rfl⟩));have j:=lR h hi z hu (d s.hi (.inr ⟨F,rfl⟩));grind
  ·exact (lR h hi z hu (d s.lo (.inl ⟨E,rfl⟩))).1
  ·exact (lR h hi z hu (d s.hi (.inr ⟨F,rfl⟩))).2.1
theorem comb_inB (op:Int)(a b:zA Sp){t:Rat}(u:t∉á (a++b)):ð (Ü op a b) t=ĥ op (ð a t) (ð b t):=by have e:=Ck (a++b);have f:∀s∈a++b,∀q,s.cV q->q∈á (a++b):=λs d q k=>fC.2 ⟨s,d,k⟩;unfold Ü rC;generalize á (a++b)=c at u e f;rw [lq];have l:∀s∈a,∀q,s.cV q->q∈c:=λs d=>f s (by simp [d]);have m:∀s∈b,∀q,s.cV q->q∈c:=λs d=>f s (by simp [d]);have mk:∀j,j<=c.length->(dO c j).inn t->(ju op a b c).getD j false=ĥ op (ð a t) (ð b t):=λj g n=>by{have h:=Lb e g;have i:(bE c).getD j 0∉c:=λhm=>(lR e g h h hm).2.2 rfl;grind [ju,eK,WZ,Xi]};refine A_ ?_;rw [kU,(fi e (Ú _)).mem t u];grind [TQ]
theorem reg_eq {xs ys:zA Sp}(E:zA Rat)(u:uu xs)(z:uu ys)(h:∀t,t∉E->ð xs t=ð ys t):xs=ys:=
 Oa (E:=E) u z λt a=>by rw [<-kU,<-kU,h t a]
end Go.Proofs.Tryz
namespace Go.Proofs.Tryz
section
variable{α:Type}
structure Ř (c:α->α->Int):Prop where
 asy:∀a b,c a b<0->¬c b a<0
 tr:∀a b d,¬c a b<0->¬c b d<0->¬c a d<0
variable{c:α->α->Int}
theorem Ř.refl (h:Ř c)(a:α):¬c a a<0:=λl=>h.asy a a l l
def IU (d:α)(l:List α)(i j:Nat):List α:=(l.set i (l.getD j d)).set j (l.getD i d)
variable{d:α}
theorem IV {l:zA α}{i j:Nat}:(IU d l i j).length=l.length:=by simp [IU]
theorem wA {l:zA α}{i k:Nat}{x:α}(hi:i<l.length):(l.set i x).getD k d=if k=i then x else l.getD k d:=by simp only [ě,Qr2];by_cases h:k=i;{subst h;simp [hi]};{have:¬i=k:=λe=>h e.symm;simp [h,this]}
theorem yR {l:zA α}{i j k:Nat}(hi:i<l.length)(u:j<l.length:=by omega):(IU d l i j).getD k d=if k=j then l.getD i d else if k=i then l.getD j d else l.getD k d:=by unfold IU;rw [wA (by simpa using u),wA hi]
theorem VF {l:zA α}{i j:Nat}(hi:i<l.length)(u:j<l.length:=by omega):(IU d l i j).Perm l:=by have e:(l.toArray.swap i j (by simpa using hi) (by simpa using u)).toList=IU d l i j:=by{simp [Array.swap,IU,ě,hi,u]};have:=(Array.swap_perm (xs:=l.toArray) (i:=i) (j:=j) (by simpa using hi) (by simpa using u)).toList;rw [e] at this;simpa using this
structure uC (d:α) (l m:List α) (a b:Nat):Prop where
 len:m.length=l.length
 out:∀k,¬(a<=k/\k<b)->m.getD k d=l.getD k d
 mem:∀k,a<=k->k<b->∃k',a<=k'/\k'<b/\m.getD k d=l.getD k' d
 perm:m.Perm l
theorem uC.refl (l:zA α)(a b:Nat):uC d l l a b:=⟨rfl,λ_ _=>rfl,λk h c=>⟨k,h,c,rfl⟩,.refl _⟩
theorem uC.m {l m n:zA α}{a b:Nat}(h:uC d l m a b)(g:uC d m n a b):uC d l n a b:=
 ⟨g.len.m h.len,λk f=>(g.out k f).m (h.out k f),λk i j=>by
  have ⟨o,p,q,e⟩:=g.mem k i j;have ⟨c,r,s,t⟩:=h.mem o p q;exact ⟨c,r,s,e.m t⟩,g.perm.m h.perm⟩
theorem uC.wide {l m:zA α}{a b u b':Nat}(h:uC d l m a b)(z:u<=a)(D:b<=b'):uC d l m u b':=
 ⟨h.len,λk c=>h.out k ω,λk f g=>by
  by_cases c:a<=k/\k<b
  ·have ⟨i,j,n,e⟩:=h.mem k c.1 c.2;exact ⟨i,ω,ω,e⟩
  ·exact ⟨k,f,g,h.out k c⟩,h.perm⟩
theorem uC.IU {l:zA α}{a b i j:Nat}(hi:a<=i)(u:i<b)(D:a<=j)(z:j<b)(E:b<=l.length:=by omega):uC d l (IU d l i j) a b:=by refine ⟨IV,λk f=>?_,λk c e=>?_,VF ω⟩;{rw [yR ω,Ã ω,Ã ω]};rw [yR ω];split;{exact ⟨i,hi,u,rfl⟩};split;{exact ⟨j,D,z,rfl⟩};exact ⟨k,c,e,rfl⟩
def p_ (c:α->α->Int)(d:α)(l:List α)(a b:Nat):Prop:=∀p q,a<=p->p<q->q<b->¬c (l.getD q d) (l.getD p d)<0
theorem p_.short {l:zA α}{a b:Nat}(h:b<=a+1):p_ c d l a b:=λp q e f g=>ω
def YQ (c:α->α->Int)(d:α)(l:List α)(a i j:Nat):Prop:=∀p q,a<=p->p<q->q<=i->q≠j->¬c (l.getD q d) (l.getD p d)<0
theorem YQ.start {l:zA α}{a i:Nat}(h:p_ c d l a i):YQ c d l a i i:=λp q b e f g=>h p q b e ω
theorem YQ.done (z:Ř c){l:zA α}{a i j:Nat}(h:YQ c d l a i j)(hji:j<=i)(u:j<=a\/¬c (l.getD j d) (l.getD (j-1) d)<0):p_ c d l a (i+1):=by intro p q b f k;by_cases e:q=j;{subst e;rcases u with u|u;{omega};by_cases g:p=q-1;{subst g;exact u};exact z.tr _ _ _ u (h p (q-1) b ω ω ω)};exact h p q b f ω e
theorem YQ.move (u:Ř c){l:zA α}{a i j:Nat}(h:YQ c d l a i j)(D:a<j)(hji:j<=i)(hi:i<l.length)(z:c (l.getD j d) (l.getD (j-1) d)<0):YQ c d (IU d l j (j-1)) a i (j-1):=by intro p q g n f o;have m:=λk=>yR (d:=d) (l:=l) (i:=j) (j:=j-1) (k:=k) ω;rw [m,m];by_cases eq:q=j;{subst eq;rw [Ã ω,Ä rfl];by_cases b:p=q-1;{rw [Ä b];exact u.asy _ _ z};rw [Ã b,Ã ω];exact h p (q-1) g ω ω ω};rw [Ã o,Ã eq];by_cases b:p=j-1;{rw [Ä b];exact h j q ω ω f eq};rw [Ã b];by_cases e:p=j;{rw [Ä e];exact h (j-1) q ω ω f eq};rw [Ã e];exact h p q g n f eq
end
end Go.Proofs.Tryz
namespace Go.Proofs.Tryz
variable{k:Int}
abbrev qc:=Rat×Int×Int
def ko (k:Int)(s:Sp):List qc:=(if s.a then [] else [(s.lo,k,1)])++(if s.b then [] else [(s.hi,k,-1)])
def rk (A B:List Sp):List qc:=A.flatMap (ko 0)++B.flatMap (ko 1)
def nR:List Sp->Int
 | []=>0
 | s::r=>(if s.a then 1 else 0)+nR r
def nH (k:Int):List qc->Rat->Int
 | [],_=>0
 | c::r,t=>(if c.2.1=k/\c.1<t then c.2.2 else 0)+nH k r t
def iY (k:Int):List qc->Int
 | []=>0
 | c::r=>(if c.2.1=k then c.2.2 else 0)+iY k r
theorem R8 {t:Rat}{l m:zA qc}(h:l.Perm m):nH k l t=nH k m t:=by induction h<;>grind [nH]
theorem oI {t:Rat}:∀{l m:zA qc},nH k (l++m) t=nH k l t+nH k m t
 | [],m=>by simp [nH]
 | c::r,m=>by simp only [Qc2,nH,oI (l:=r)];omega
theorem DA:∀{l m:zA qc},iY k (l++m)=iY k l+iY k m
 | [],m=>by simp [iY]
 | c::r,m=>by simp only [Qc2,iY,DA (l:=r)];omega
theorem LH {t:Rat}:∀{l:zA qc},(∀c∈l,c.1<t)->nH k l t=iY k l
 | [],_=>rfl
 | c::r,h=>by
  simp only [nH,iY,LH (l:=r) λx u=>h x (by simp [u]),h c ψ,Í]
theorem Hd {t:Rat}:∀{l:zA qc},(∀c∈l,¬c.1<t)->nH k l t=0
 | [],_=>rfl
 | c::r,h=>by
  simp only [nH,Hd (l:=r) λx u=>h x (by simp [u]),h c ψ,and_false,Ð];omega
theorem vk {k':Int}{t:Rat}(z:k≠k'):∀{l:zA Sp},nH k (l.flatMap (ko k')) t=0
 | []=>rfl
 | s::r=>by
  rw [Ę,oI,vk z (l:=r)];have u:¬k'=k:=λe=>z e.symm;unfold ko;cases s.a<;>cases s.b<;>simp [nH,u]
theorem DB {k:Int}{t:Rat}:∀{l:zA Sp},(∀s∈l,s.good)->(∀s∈l,¬s.cV t)->nR l+nH k (l.flatMap (ko k)) t=(l.countP λs=>s.innB t:Nat)
 | [],_,_=>rfl
 | s::r,u,he=>by
  have D:=DB (k:=k) (t:=t) (l:=r) (λx c=>u x (by simp [c])) λx c=>he x (by simp [c]);have d:=(u s ψ).2;have e:=he s ψ;rw [Ę,oI,List.countP_cons];simp only [nR];rw [Sp.iS] at d;unfold Sp.cV at e
  have key:(if s.a=true then (1:Int) else 0)+nH k (ko k s) t=(if s.innB t=true then 1 else 0:Nat):=by
   unfold ko Sp.innB;cases E:s.a<;>cases z:s.b<;>simp [z] at d e<;>simp [nH]<;>(try (by_cases f:s.lo<t))<;>(try (by_cases g:s.hi<t))<;>(try (by_cases h:t<s.hi))<;>simp_all<;>grind
  omega
theorem Kd {l:zA Sp}{t:Rat}:decide ((0:Int)<(l.countP λs=>s.innB t:Nat))=ð l t:=by refine A_ ⟨λh=>?_,λh=>?_⟩;{have h:=Á h;have:0<l.countP λs=>s.innB t:=ω;have ⟨s,a,h⟩:=Qs1.1 this;exact Qh7.2 ⟨s,a,h⟩};have ⟨s,a,h⟩:=Qh7.1 h;have:0<l.countP λs=>s.innB t:=Qs1.2 ⟨s,a,h⟩;grind
theorem WX {A B:zA Sp}{c:qc}:c∈rk A B->∃s∈A++B,s.cV c.1:=by intro h;have one:∀{k:Int} {s:Sp},c∈ko k s->s.cV c.1:=λ{k s} h=>by{unfold ko at h;unfold Sp.cV;cases u:s.a<;>cases z:s.b<;>simp [u,z] at h ⊢;{rcases h with rfl|rfl<;>simp};{subst h;rfl};subst h;rfl};rcases ü.1 h with h|h<;>grind
def ou (s:Sp):Sp:=⟨s.lo,0,s.a,true⟩
def DD (was:Bool)(last:Sp)(out:List Sp):List Sp:=out++if was then [ou last] else []
def SI (acc:Bool->Bool->Bool)(A B:List Sp)(t:Rat):Bool:=acc (ð A t) (ð B t)
structure YU (acc:Bool->Bool->Bool) (A B:List Sp) (cs:List qc) (i:Nat) (was:Bool) (last:Sp) (out:List Sp):Prop where
 rg:uu (DD was last out)
 lo:∀s∈DD was last out,∀h:i<cs.length,s.a=false->s.lo<cs[i].1
 hi:∀s∈out,s.b=false/\∀h:i<cs.length,s.hi<cs[i].1
 inn:∀t,(∀s∈A++B,¬s.cV t)->(∀h:i<cs.length,t<cs[i].1)->ð (DD was last out) t=SI acc A B t
 fr:was=true->last.hi=0/\last.b=false
section
variable{acc:Bool->Bool->Bool}{A B:List Sp}{cs:List qc}{i:Nat}{was:Bool}{last:Sp}{out:List Sp}
theorem VD (D:cs.Perm (rk A B))(E:∀s∈A,s.good)(F:∀s∈B,s.good)(u:cs.Pairwise λx y=>x.1<=y.1){t:Rat}(z:∀s∈A++B,¬s.cV t)(M:∀c∈cs.take i,c.1<t)(N:∀h:i<cs.length,t<cs[i].1):acc (decide ((0:Int)<nR A+iY 0 (cs.take i))) (decide ((0:Int)<nR B+iY 1 (cs.take i)))=SI acc A B t:=by
 have a:∀c∈cs.drop i,¬c.1<t:=by grind [List.getElem_of_mem,List.pairwise_iff_getElem.1]
 have e:∀k,iY k (cs.take i)=nH k (rk A B) t:=λk=>by
  rw [<-R8 D,<-LH M]
  conv=>rhs;rw [<-Qv4 i cs]
  rw [oI,Hd a];omega
 have b:nH 0 (B.flatMap (ko 1)) t=0:=vk φ;have d:nH 1 (A.flatMap (ko 0)) t=0:=vk φ;rw [e,e];unfold rk SI;rw [oI,oI,b,d,<-Kd,<-Kd,<-(DB (k:=0) (t:=t) E λs u=>z s (Ń _ u)),<-(DB (k:=1) (t:=t) F λs u=>z s (ŝ _ u)),Wy7,Int.zero_add]
theorem Bh {x y:zA Sp}{t:Rat}:ð (x++y) t=(ð x t||ð y t):=by unfold ð;rw [List.any_append]
theorem VE {was:md}(hw:was=acc (decide ((0:Int)<nR A)) (decide ((0:Int)<nR B)))(u:cs.Perm (rk A B))(z:∀s∈A,s.good)(D:∀s∈B,s.good)(E:cs.Pairwise λx y=>x.1<=y.1):YU acc A B cs 0 was ⟨0,0,true,false⟩ []:=by refine ⟨?_,λs h _ a=>?_,λs h=>(by cases h),λt b d=>?_,λ_=>⟨rfl,rfl⟩⟩;{unfold DD;cases was;{exact ⟨λs h=>by simp at h,ψ⟩};refine ⟨λs h=>?_,ψ⟩;obtain rfl:s=ou ⟨0,0,true,false⟩:=by{simpa using h};exact ⟨⟨λ_=>rfl,λ_=>rfl⟩,rfl⟩};{unfold DD at h;cases was<;>simp at h;subst h;cases a};{have:=VD (acc:=acc) (i:=0) u z D E b (λc e=>by simp at e) d;simp only [Qd4,iY,Wy7] at this;rw [<-this,<-hw];unfold DD ou ð Sp.innB;cases was<;>simp}
theorem YA (h:YU acc A B cs i was last out)(hi:i+1<cs.length)(he:cs[i].1=cs[i+1].1):YU acc A B cs (i+1) was last out:=
 ⟨h.rg,λs a _ b=>by rw [<-he];exact h.lo s a ω b,λs a=>⟨(h.hi s a).1,λ_=>by rw [<-he];exact (h.hi s a).2 ω⟩,
  λt c d=>h.inn t c λ_=>by rw [he];exact d hi,h.fr⟩
theorem Yb (h:YU acc A B cs i was last out)(hi:i<cs.length){t:Rat}(u:cs[i].1<t):ð out t=false:=by refine Bool.eq_false_iff.2 λhe=>?_;have ⟨s,b,a⟩:=Qh7.1 he;have ⟨c,e⟩:=h.hi s b;rw [innB_iff] at a;obtain ⟨-,d⟩:=a;rw [c] at d;grind
def mw (was now:Bool)(last:Sp)(x:Rat):Sp:=if now&&!was then ⟨x,0,false,false⟩ else if was&&!now then ⟨last.lo,x,last.a,last.b⟩ else last
def DC (was now:Bool)(last:Sp)(x:Rat)(out:List Sp):List Sp:=if was&&!now then out++[⟨last.lo,x,last.a,last.b⟩] else out
theorem YB (h:YU acc A B cs i was last out)(hi:i<cs.length)(N:∀h:i+1<cs.length,cs[i].1<cs[i+1].1)(O:cs.Perm (rk A B))(Z:∀s∈A,s.good)(hB:∀s∈B,s.good)(M:cs.Pairwise λx y=>x.1<=y.1){now:md}(hw:now=acc (decide ((0:Int)<nR A+iY 0 (cs.take (i+1)))) (decide ((0:Int)<nR B+iY 1 (cs.take (i+1))))):YU acc A B cs (i+1) now (mw was now last cs[i].1) (DC was now last cs[i].1 out):=by have z:=WX (O.mem_iff.1 (ò hi));have g:∀t,(∀s∈A++B,¬s.cV t)->cs[i].1<t->(∀h:i+1<cs.length,t<cs[i+1].1)->SI acc A B t=now:=λt f d o=>by{rw [hw,VD (acc:=acc) O Z hB M f (λc D=>?_) o];obtain ⟨j,E,rfl⟩:=Qc3 D;rw [ì] at E;rw [Qt8];by_cases e:j=i;{subst e;exact d};{have:=Qv6.1 M j i ω hi ω;grind}};have apart:∀t,(∀s∈A++B,¬s.cV t)->t<cs[i].1\/cs[i].1<t:=λt f=>by{obtain ⟨s,d,o⟩:=z;grind};have on:∀{t:Rat},cs[i].1<t->ð out t=false:=λ{t}=>Yb (t:=t) h hi;have m:∀s∈DD was last out,s.a=false->s.lo<cs[i].1:=λs M l=>h.lo s M hi l;have n:∀s∈out,s.hi<cs[i].1:=λs M=>(h.hi s M).2 hi;have q:∀s∈out,s.b=false:=λs M=>(h.hi s M).1;have inn:∀t,(∀s∈A++B,¬s.cV t)->t<cs[i].1->ð (DD was last out) t=SI acc A B t:=λt f d=>h.inn t f λ_=>d;have p:=h.rg;have u:=h.fr;generalize cs[i].1=x at *;clear z hw O M h;unfold mw DC;cases was<;>cases now<;>simp only [Bool.not_true,Bool.not_false,Bool.and_true,Wj9]<;>unfold DD at*<;>simp only [ő,Ï,Ð,ý] at *;{refine ⟨by simpa [DD] using p,λs M d l=>?_,λs M=>⟨q s M,λd=>?_⟩,λt f o=>?_,λh=>nomatch h⟩;{have:=m s (by simpa [DD] using M) l;have:=N d;grind};{have:=n s M;have:=N d;grind};simp only [DD,ő,Ð,ý];rcases apart t f with k|k;{exact inn t f k};rw [g t f k o,on k]};{have e:ð (out++[ou ⟨x,0,false,false⟩])=λt=>ð out t||decide (x<t):=by{funext t;rw [Bh];unfold ð ou Sp.innB;simp};refine ⟨?_,λs M d l=>?_,λs M=>⟨q s M,λd=>?_⟩,λt f o=>?_,λ_=>⟨rfl,rfl⟩⟩;{simp only [DD,Ï];exact wS p ⟨⟨π,λ_=>rfl⟩,rfl⟩ λy r=>⟨q y r,rfl,n y r⟩};{simp only [DD,Ï] at M;rcases ü.1 M with M|M;{have:=m s M l;have:=N d;grind};obtain rfl:s=ou ⟨x,0,false,false⟩:=by{simpa using M};exact N d};{have:=n s M;have:=N d;grind};simp only [DD,Ï];rw [e];dsimp only;rcases apart t f with k|k;{rw [inn t f k,È χ,Bool.or_false]};rw [g t f k o,Ç k,Bool.or_true]};{obtain ⟨f1,f2⟩:last.hi=0/\last.b=false:=by{simpa using u};obtain ⟨F,G,C⟩:=Lm p;have v:last.a=false->last.lo<x:=λl=>m (ou last) ψ l;have e:ð (out++[(⟨last.lo,x,last.a,last.b⟩:Sp)])=λt=>ð out t||((last.a||decide (last.lo<t))&&decide (t<x)):=by{funext t;rw [Bh];unfold ð Sp.innB;simp [f2]};have w:ð (out++[ou last])=λt=>ð out t||(last.a||decide (last.lo<t)):=by{funext t;rw [Bh];unfold ð ou Sp.innB;simp};refine ⟨?_,λs M d l=>?_,λs M=>?_,λt f o=>?_,λh=>nomatch h⟩;{simp only [DD,ő,Ð,ý];refine wS F ⟨⟨λh=>G.1.1 h,λh=>by rw [f2] at h;cases h⟩,?_⟩ λy r=>⟨q y r,(C y r).2.1,(C y r).2.2⟩;rw [Sp.iS];cases l:last.a;{exact .inr (.inr (v l))};exact .inl rfl};{simp only [DD,ő,Ð,ý] at M;rcases ü.1 M with M|M;{have:=m s (Ń _ M) l;grind};obtain rfl:s=⟨last.lo,x,last.a,last.b⟩:=by{simpa using M};have:=v l;dsimp only;grind};{rcases ü.1 M with M|M;{exact ⟨q s M,λd=>by have:=n s M;have:=N d;grind⟩};obtain rfl:s=⟨last.lo,x,last.a,last.b⟩:=by{simpa using M};exact ⟨f2,λd=>N d⟩};simp only [DD,ő,Ð,ý];rw [e];dsimp only;rcases apart t f with k|k;{rw [<-inn t f k,w,Ç k,Bool.and_true]};rw [g t f k o,on k,È (show ¬t<x by grind),Wj9];rfl};have w:ð (out++[ou last])=λt=>ð out t||(last.a||decide (last.lo<t)):=by{funext t;rw [Bh];unfold ð ou Sp.innB;simp};have v:last.a=false->last.lo<x:=λl=>m (ou last) ψ l;refine ⟨by simpa [DD] using p,λs M d l=>?_,λs M=>⟨q s M,λd=>?_⟩,λt f o=>?_,λ_=>by simpa using u⟩;{have:=m s (by simpa [DD] using M) l;have:=N d;grind};{have:=n s M;have:=N d;grind};simp only [DD,Ï];rcases apart t f with k|k;{exact inn t f k};rw [g t f k o,w];dsimp only;cases l:last.a;{have:=v l;rw [Ç (show last.lo<t by grind)];simp};simp
end
end Go.Proofs.Tryz
namespace Go.Proofs.Tryz
variable{a b:List Sp}
theorem DF (k:Nat)(u:0<k:=by omega):Sz k (0:Rat):=⟨by show (0:Int).natAbs<_;exact ł φ (Nat.one_le_two_pow),Qf1 ω⟩
def bV:Sp:=⟨0,0,true,true⟩
def zH (l:List Sp):List Rat:=l.flatMap λs=>s.Jw++s.H2
def fe (l:List Sp):Nat:=(zH l).length
theorem tu {s:Sp}{r:zA Sp}:fe (s::r)=(s.Jw++s.H2).length+fe r:=by unfold fe zH;rw [Ę,ï]
theorem Nq:fe (a++b)=fe a+fe b:=by unfold fe zH;rw [Qn5,ï]
theorem HM {A B:zA Sp}:(rk A B).length=fe A+fe B:=by
 have one:∀(k:Int)(l:zA Sp),(l.flatMap (ko k)).length=fe l:=λk l=>by
  induction l with
  | nil=>rfl
  | cons s r u=>
   rw [Ę,ï,tu,u];unfold ko Sp.Jw Sp.H2;cases s.a<;>cases s.b<;>simp
 unfold rk;grind
theorem TL:∀(l:zA Sp),fe l<=2*l.length
 | []=>by simp [fe,zH]
 | s::r=>by
  have:=TL r;have h:(s.Jw++s.H2).length<=2:=by unfold Sp.Jw Sp.H2;cases s.a<;>cases s.b<;>simp
  rw [tu,Ĉ];omega
theorem uj:∀(ss:zA Sp)(o:zA Rat),(ss.foldl (λo s=>fE s o 2) o).length<=o.length+fe ss
 | [],o=>by simp [zH]
 | s::r,o=>by
  have u:=uj r (fE s o 2)
  have:(fE s o 2).length<=o.length+(s.Jw++s.H2).length:=by
   have c:=@lY s.lo o;have d:=@lY s.hi o;have e:=@lY s.hi (cX s.lo o);show (if s.b=true then (if s.a=true then o else cX s.lo o) else cX s.hi (if s.a=true then o else cX s.lo o)).length<=_;unfold Sp.Jw Sp.H2;cases s.a<;>cases s.b<;>simp<;>omega
  grind [tu]
theorem Kp (ss:zA Sp):(á ss).length<=fe ss:=by have:=uj ss [];simpa [á] using this
theorem IB:∀{l:zA Sp},uu l->asc (zH l)
 | [],_=>List.Pairwise.nil
 | s::r,h=>by
  unfold asc zH;refine Qg7.2 ⟨?_,IB h.tail,λx D y u=>?_⟩
  ·refine Qg7.2 ⟨by unfold Sp.Jw;cases s.a<;>simp,by unfold Sp.H2;cases s.b<;>simp,λx D y u=>?_⟩;obtain ⟨E,rfl⟩:=mS D;obtain ⟨c,rfl⟩:=pG u;exact oB (h.1 s ψ).2 E c
  ·have ⟨z,d,u⟩:=ė.1 u;have ⟨e,f,g⟩:=h.MG d
   have i:x<=s.hi:=by
    rcases ü.1 D with D|D
    ·obtain ⟨E,rfl⟩:=mS D;have:=oB (h.1 s ψ).2 E e;grind
    grind [pG]
   have j:z.lo<=y:=by rcases ü.1 u with u|u;{obtain ⟨E,rfl⟩:=mS u;grind};obtain ⟨c,rfl⟩:=pG u;have:=oB (h.1 z (by simp [d])).2 f c;grind
   grind
theorem A9:∀{ys xs:zA Rat},asc xs->asc ys->(∀x∈xs,x∈ys)->xs.length<=ys.length
 | [],xs,_,_,h=>by
  cases xs with
  | nil=>simp
  | cons x r=>exact Å (h x ψ) ψ
 | y::r,[],_,_,_=>ψ
 | y::r,x::s,u,D,h=>by
  have ⟨F,E⟩:=ģ.1 u;have ⟨d,a⟩:=ģ.1 D;by_cases e:x=y
  ·have:=A9 (xs:=s) E a λz b=>χ
   grind
  ·have c:x∈r:=χ
   have:=A9 (xs:=x::s) u a λz b=>χ
   grind
theorem TP {c:zA Rat}{i:Nat}(hi:i<=c.length:=by omega):((dO c i).a=false->(dO c i).lo∈c)/\((dO c i).b=false->(dO c i).hi∈c):=by unfold dO;grind
theorem GD {c:zA Rat}{ms:zA md}:∀(i:Nat),i<=c.length+1->∀s∈cI c ms i,(s.a=false->s.lo∈c)/\(s.b=false->s.hi∈c)
 | 0,_,s,h=>by cases h
 | i+1,hi,s,h=>by
  have u:=GD (c:=c) (ms:=ms) i ω;have g:=TP (c:=c) (i:=i);unfold cI at h;split at h
  ·split at h
   ·rename_i f;rcases ü.1 h with h|h
    ·exact u s (List.dropLast_subset _ h)
    ·obtain rfl:=ú.1 h;refine ⟨λj=>?_,λk=>g.2 k⟩;have d:cI c ms i≠[]:=λe=>by rw [e] at f;simp at f
     have l:(cI c ms i).getLastD Sp.zero=(cI c ms i).getLast d:=by rw [Wz1,List.getLast?_eq_some_getLast d];rfl
     rw [l] at j ⊢;exact (u _ (List.getLast_mem d)).1 j
   ·rcases ü.1 h with h|h
    ·exact u s h
    ·obtain rfl:=ú.1 h;exact g
  ·exact u s h
theorem oh {op:Int}:∀s∈Ü op a b,(s.a=false->s.lo∈á (a++b))/\(s.b=false->s.hi∈á (a++b)):=by intro s c;exact GD _ (by rw [lq];omega) s c
theorem W3 (op:Int)(a b:zA Sp):fe (Ü op a b)<=fe a+fe b:=by have h:=A9 (IB (comb_reg op a b)) (Ck (a++b)) λx c=>by{have ⟨s,d,c⟩:=ė.1 c;rcases ü.1 c with c|c;{obtain ⟨e,rfl⟩:=mS c;exact (oh s d).1 e};obtain ⟨f,rfl⟩:=pG c;exact (oh s d).2 f};have:=Kp (a++b);rw [Nq] at this;unfold fe at *;omega
theorem W4 {op:Int}{k:Nat}(u:1<=k)(z:∀s∈a,s.sz k)(D:∀s∈b,s.sz k):∀s∈Ü op a b,s.sz k:=by intro s d;have f:=(comb_reg op a b).1 s d;have he:∀q∈á (a++b),Sz k q:=λq g=>by{have ⟨x,c,h⟩:=yy g;have:x.sz k:=by{rcases ü.1 c with c|c;{exact z x c};exact D x c};rcases h with rfl|rfl;{exact this.1};exact this.2};have ⟨i,j⟩:=oh s d;constructor;{cases e:s.a;{exact he _ (i e)};rw [f.1.1 e];exact DF k u};cases e:s.b;{exact he _ (j e)};rw [f.1.2 e];exact DF k u
theorem Cd (op:Int)(a b:zA Sp):(Ü op a b).length<=fe a+fe b+1:=by have h:=GC (á (a++b)) (ju op a b (á (a++b))) (ju op a b (á (a++b))).length;have c:=Kp (a++b);rw [Nq] at c;rw [lq] at h;unfold Ü rC;rw [lq];omega
end Go.Proofs.Tryz
namespace Go.Proofs.Tryz.ax
abbrev V2:=Rat×Rat
def cr (u v:V2):Rat:=u.1*v.2-u.2*v.1
def dt (u v:V2):Rat:=u.1*v.1+u.2*v.2
def up (u:V2):Prop:=u.2>0\/u.2=0/\u.1>0
def dn (u:V2):Prop:=u.2<0\/u.2=0/\u.1<0
def nz (u:V2):Prop:=u.1≠0\/u.2≠0
theorem tj (u v:V2):cr v u=-cr u v:=by unfold cr;grind
def jac2 (u w r:V2):cr u r*w.2+cr r w*u.2=cr u w*r.2:=by unfold cr;grind
def mp {a b:Rat}(u:a>0)(z:b>0):a*b>0:=ı u z
def mn {a b:Rat}(u:a≥0)(z:b≥0):a*b≥0:=Wv0 u z
def nz_of {r:V2}(h:nz r){c:Rat}(u:c*r.1=0)(z:c*r.2=0):c=0:=by rcases Qp6.1 u with e|e;{exact e};rcases Qp6.1 z with a|a;{exact a};unfold nz at h;grind
def sq_pos {u:V2}(h:nz u):dt u u>0:=by have a:∀x:Rat,x*x≥0:=λx=>by{by_cases b:x≥0;{exact mn b b};{have:=mn (show -x≥0 by grind) (show -x≥0 by grind);grind}};have:=a u.1;have:=a u.2;by_cases c:u.1*u.1+u.2*u.2>0;{exact c};grind [nz,Rat.mul_eq_zero.1]
end Go.Proofs.Tryz.ax
namespace Go.Proofs.Tryz
def uD (V:Ó)(g:Nat)(y:Value):Prop:=V.at ⟨g,0,none⟩ y
theorem uD.le {V V':ut}{g:Nat}{y:un}(h:uD V g y)(l:V.Le V'):uD V' g y:=l.at h
def SErr (y:Value):Prop:=∃a:Addr,y=.iface 387 (.pointer (some a))
end Go.Proofs.Tryz
namespace Go.Proofs.Tryz
variable{V:Ó}{p:OA}{v:Value}{l:L3}{c n:Nat}
def RT (V:Ó):OA->Tr->Prop
 | p,.leaf i=>∃(b:Nat)(c0 c1 c2 c3 c4 c5 c6 c7 c8:Value)(r:OA),p=some ⟨b,0,none⟩/\V.aX b (.cells #[c0,c1,c2,c3,c4,c5,c6,c7,c8,.pointer none,.pointer r,.bool i] 234 (0,0))
 | p,.node l x y=>∃(b:Nat)(u z:Int)(D:OA)(E F:Int)(M:OA)(N O:Int)(Z:OA)(pl pr:OA)(i:Bool),p=some ⟨b,0,none⟩ /\
   V.aX b (.cells #[.int .i64 u,.int .i64 z,.pointer D,.int .i64 E,.int .i64 F,.pointer M,.int .i64 N,.int .i64 O,.pointer Z,.pointer pl,.pointer pr,.bool i] 234 (0,0)) /\
   xM V (.agg #[.int .i64 u,.int .i64 z,.pointer D,.int .i64 E,.int .i64 F,.pointer M,.int .i64 N,.int .i64 O,.pointer Z]) l.1 l.2.1 l.2.2/\RT V pl x/\RT V pr y
theorem RT.le {V V':ut}(h:V.Le V'):∀{t:Tr} {p:OA},RT V p t->RT V' p t
 | .leaf i,p,⟨b,z,c1,D,E,F,M,N,O,Z,r,e,u⟩=>⟨b,z,c1,D,E,F,M,N,O,Z,r,e,h _ _ u⟩
 | .node l x y,p,⟨b,x1,x2,x3,y1,y2,y3,z1,z2,z3,pl,pr,i,e,u,hl,hx,hy⟩=>⟨b,x1,x2,x3,y1,y2,y3,z1,z2,z3,pl,pr,i,e,h _ _ u,hl.le h,RT.le h hx,RT.le h hy⟩
theorem RT.isS {t:Tr}(h:RT V p t):p.isSome=true:=by (cases t with|leaf i=>{obtain ⟨b,a,c,d,e,f,g,j,k,m,r,rfl,n⟩:=h;rfl}|node l x y=>{obtain ⟨b,o,q,s,u,v,w,z,A,B,pl,C,i,rfl,-⟩:=h;rfl})
theorem ji (i:md):À 201 #[gF i] V λr W=>∃p,r=Õ p/\RT W p (.leaf i):=
 LP V _ λc d b a=>⟨_,rfl,b,_,_,_,_,_,_,_,_,_,_,rfl,a⟩
theorem dX {t:Tr}(h:RT V p t):À 148 #[Õ p] V λr W=>r=gF t.rI:=by (cases t with|leaf i=>{obtain ⟨b,g,j,k,m,n,o,q,s,u,r,rfl,c⟩:=h;exact qu V _ ⟨rfl,rfl,_,Ao c 9 rfl,λd e=>rfl⟩}|node l x y=>{obtain ⟨b,v,w,z,A,B,C,D,E,F,pl,G,i,rfl,c,H,f,I⟩:=h;refine qu V _ ⟨rfl,rfl,_,Ao c 9 rfl,λd e=>?_⟩;have:=f.isS;(cases pl with|none=>{cases this}|some a=>rfl)})
theorem QE {q:OA}{x y:Tr}(u:xM V v l.1 l.2.1 l.2.2)(D:RT V p x)(E:RT V q y):À 203 #[v,Õ p,Õ q] V λr W=>∃z,r=Õ z/\RT W z (.node l x y):=by obtain ⟨d,e,f,g,h,i,j,k,m,rfl,-⟩:=id u;exact Ow V _ λn a b c=>⟨_,rfl,b,_,_,_,_,_,_,_,_,_,_,_,_,rfl,c,u.le a,D.le a,E.le a⟩
def YT (V:Ó)(v:Value)(l:L3):Prop:=RL V v l.1 l.2.1 l.2.2\/cq l=false/\∃b1 p n c xs z q m e ys D s i j u,v=.agg #[.bool b1,.slice p n c,.bool z,.slice q m e,.bool D,.slice s i j]/\RD V p n c xs/\RD V q m e ys/\RD V s i j u /\
 EX b1 xs z ys D u=false/\(xs.length<=1000000/\ys.length<=1000000/\u.length<=1000000)/\Sz 1000000 (bK b1 xs:Rat)/\Sz 1000000 (bK z ys:Rat)/\Sz 1000000 (bK D u:Rat)
theorem YT.le {V V':ut}(h:YT V v l)(e:V.Le V'):YT V' v l:=by rcases h with h|⟨a,b,p,n,c,xs,d,q,m,f,g,k,s,i,j,o,z,r,t,u,w⟩;{exact .inl (h.le e)};exact .inr ⟨a,b,p,n,c,xs,d,q,m,f,g,k,s,i,j,o,z,r.le e,t.le e,u.le e,w⟩
theorem YT.ok (h:YT V v l)(u:cq l=true):RL V v l.1 l.2.1 l.2.2:=by rcases h with h|⟨h,-⟩;{exact h};rw [u] at h;cases h
theorem HC {x:L3}(h:YT V v x)(E:Bd x):À 202 #[v] V λr W=>∃w,r=ê #[w,gF (cq x)]/\Wv w/\(cq x=true->xM W w x.1 x.2.1 x.2.2):=by rcases h with h|⟨a,b,p,n,c,xs,d,q,m,u,y,e,s,i,j,z,rfl,f,g,k,l,⟨A,B,C⟩,s1,s2,s3⟩;{exact JW h E};refine (BU b d e f g k ω ω ω s1 s2 s3).s ?_;rintro r V2 D ⟨w,rfl,o,t⟩;rw [l] at t ⊢;rw [a];exact ⟨w,rfl,o,λh=>by cases h⟩
def NR (V:Ó)(vs:List Value)(l:List Nd):Prop:=∀(i:Nat)(d:Nd),l[i]?=some d->∃(b1:Bool)(u:OA)(z c1:Nat)(D:Bool)(E:OA)(F M:Nat)(N:Bool)(O:OA)(Z c3:Nat),
 (∀j v,([.bool b1,.slice u z c1,.bool D,.slice E F M,.bool N,.slice O Z c3,.int .i64 d.left,.int .i64 d.right]:List Value)[j]?=some v->vs[i*8+j]?=some v) /\
 YT V (.agg #[.bool b1,.slice u z c1,.bool D,.slice E F M,.bool N,.slice O Z c3]) d.ln
theorem NR.le {V V':ut}{vs:zA un}{l:zA Nd}(h:NR V vs l)(u:V.Le V'):NR V' vs l:=λi d a=>by
 have ⟨b,c,e,f,g,j,k,m,n,o,p,q,r,s⟩:=h i d a;exact ⟨b,c,e,f,g,j,k,m,n,o,p,q,r,s.le u⟩
structure NS (V:Ó) (p:OA) (n c:Nat) (l:List Nd):Prop where
 len:n=l.length
 cap:n<=c
 row:∃vs,V.sl p vs/\NR V vs l
 KS:p.isNone=true->c=0
theorem NS.le {V V':ut}{l:zA Nd}(h:NS V p n c l)(u:V.Le V'):NS V' p n c l:=by obtain ⟨a,b,⟨d,e,f⟩,g⟩:=h;exact ⟨a,b,⟨d,u.sl e,f.le u⟩,g⟩
theorem NS.isS {l:zA Nd}(h:NS V p n c l)(u:n≠0):p.isSome=true:=by (cases p with|none=>{have:=h.KS rfl;have:=h.cap;omega}|some a=>rfl)
def qO (l:List Bool):List Value:=l.map .bool
theorem QA {l:zA md}{i:Nat}{b:md}(h:l[i]?=some b):(qO l)[i]?=some (gF b):=by simp [qO,h]
theorem NS.rd {l:zA Nd}(h:NS V p n c l){k:Nat}{d:Nd}(hd:l[k]?=some d):∃(b1:md)(u:OA)(z c1:Nat)(D:md)(E:OA)(F M:Nat)(N:md)(O:OA)(Z c3:Nat)(a:Addr),ae p (k*8)=some a/\V.at (a.add 0) (gF b1)/\V.at (a.add 1) (yD u z c1)/\V.at (a.add 2) (gF D)/\V.at (a.add 3) (yD E F M)/\V.at (a.add 4) (gF N)/\V.at (a.add 5) (yD O Z c3)/\V.at (a.add 6) (Ô .i64 d.left)/\V.at (a.add 7) (Ô .i64 d.right)/\YT V (dB #[gF b1,yD u z c1,gF D,yD E F M,gF N,yD O Z c3]) d.ln:=by obtain ⟨r,b,g⟩:=h.row;have ⟨b1,u,z,c1,D,E,F,M,N,O,Z,c3,f,i⟩:=g k d hd;obtain ⟨m,rfl,-⟩:=b _ _ (f 0 _ rfl);have key:∀j v,([gF b1,yD u z c1,gF D,yD E F M,gF N,yD O Z c3,Ô .i64 d.left,Ô .i64 d.right]:zA un)[j]?=some v->V.at ((m.add (k*8)).add j) v:=by{intro j v hv;have ⟨o,e,q⟩:=b _ _ (f j v hv);cases e;rw [BE];exact q};exact ⟨b1,u,z,c1,D,E,F,M,N,O,Z,c3,_,rfl,key 0 _ rfl,key 1 _ rfl,key 2 _ rfl,key 3 _ rfl,key 4 _ rfl,key 5 _ rfl,key 6 _ rfl,key 7 _ rfl,i⟩
theorem M4 {l:zA Nd}(hb:∀x∈l,Bd x.ln)(hlen:l.length<=65536):∀(f:Nat) (n:Int) (s:RS) {V:ut} {rb sb:Nat} {npp:OA} {nc:Nat},NS V npp l.length nc l ->V.w.heap[rb]?=some (.cells #[yD npp l.length nc,yD (some ⟨sb,0,none⟩) l.length l.length,Ô .i64 (s.qJ:Int),gF s.bad] 231 (0,0))->V.X rb ->V.w.heap[sb]?=some (.cells (qO s.seen).toArray 4 (0,0))->V.X sb->rb≠sb->s.seen.length=l.length->s.seen.count false<f->s.qJ+s.seen.count false<=l.length ->À 147 #[Õ (some ⟨rb,0,none⟩),Ô .i64 n] V λr W=>∃p,r=Õ p/\RT W p (jx l f n s).1/\W.w.heap[rb]?=some (.cells #[yD npp l.length nc,yD (some ⟨sb,0,none⟩) l.length l.length,Ô .i64 ((jx l f n s).2.qJ:Int),gF (jx l f n s).2.bad] 231 (0,0))/\W.w.heap[sb]?=some (.cells (qO (jx l f n s).2.seen).toArray 4 (0,0)):=by
 intro f
 induction f with
 | zero=>intro n s V rb sb npp nc _ _ _ _ _ _ _ h;omega
 | succ f ih=>
  intro n s V rb sb npp nc D Q R S T W E b6 b7;refine vt rb sb npp l.length nc l.length l.length s.qJ s.bad (qO s.seen) n V _ Q R S T W ⟨λt V1 l1=>(ji _).s ?_,λt=>⟨λC V4 l4=>(ji _).s ?_,λC=>⟨λF V7 l7=>(ji _).s ?_,λF=>⟨λL eV b8=>(ji _).s ?_,λL=>?_⟩⟩⟩⟩
  ·rintro r V2 G ⟨p,rfl,d⟩;have Y:n=-2:=by{simpa using t};have e:jx l (f+1) n s=(.leaf true,s):=by{simp [jx,Y]};rw [t] at d;exact ⟨p,rfl,λI j g c=>⟨p,rfl,by rw [e];exact d.le j,by rw [e];exact g,by rw [e];exact c⟩⟩
  ·rintro r V2 G ⟨p,rfl,d⟩;have Y:n=-1:=by{simpa using C};have e:jx l (f+1) n s=(.leaf false,s):=by{simp [jx,Y]};rw [t] at d;exact ⟨p,rfl,λI j g c=>⟨p,rfl,by rw [e];exact d.le j,by rw [e];exact g,by rw [e];exact c⟩⟩
  ·rintro r V2 G ⟨p,rfl,d⟩;have A:¬n=-2:=by{simpa using t};have B:¬n=-1:=by{simpa using C};have y:n<0:=by{simpa using F};have e:jx l (f+1) n s=(.leaf false,{ s with bad:=true }):=by{simp [jx,A,B,y]};exact ⟨p,rfl,λI j g c=>⟨p,rfl,by rw [e];exact d.le j,by rw [e];exact g,by rw [e];exact c⟩⟩
  ·rintro r V2 G ⟨p,rfl,d⟩;have A:¬n=-2:=by{simpa using t};have B:¬n=-1:=by{simpa using C};have y:¬n<0:=by{simpa using F};have M:(l.length:Int)<=n:=by{simpa using L};have e:jx l (f+1) n s=(.leaf false,{ s with bad:=true }):=by{simp only [jx,A,B,y,Ð];rw [Ū ω]};exact ⟨p,rfl,λI j g c=>⟨p,rfl,by rw [e];exact d.le j,by rw [e];exact g,by rw [e];exact c⟩⟩
  ·have A:¬n=-2:=by{simpa using t};have B:¬n=-1:=by{simpa using C};have y:¬n<0:=by{simpa using F};have M:n<(l.length:Int):=by{simpa using L};clear t C F L;obtain ⟨k,rfl⟩:=đ (Ww7.1 y);have hk:k<l.length:=ω;have Z:k<s.seen.length:=ω;simp only [ß,Ġ,č];have i:=ô Z;have m:=ô hk;refine ⟨⟨ω,M⟩,s.seen[k],QA i,λh4 iI dS=>(ji _).s ?_,λh4=>⟨⟨ω,M⟩,by simp [qO];omega,D.isS ω,⟨ω,M⟩,?_⟩⟩;{rintro r V2 G ⟨p,rfl,d⟩;have e:jx l (f+1) (k:Int) s=(.leaf false,{ s with bad:=true }):=by{simp only [jx,A,B,y,Ð,ß];rw [i,h4,m]};exact ⟨p,rfl,λI j g c=>⟨p,rfl,by rw [e];exact d.le j,by rw [e];exact g,by rw [e];exact c⟩⟩};have ⟨b1,p1,m1,c1,b2,p2,m2,c2,b3,p3,m3,c3,a,ha,a0,a1,a2,a3,a4,a5,a6,a7,hL⟩:=D.rd m;refine ⟨b1,p1,m1,c1,b2,p2,m2,c2,b3,p3,m3,c3,_,_,a,ha,a0,a1,a2,a3,a4,a5,a6,a7,λkf e_=>(HC ra (hb _ (ò hk))).s ?_⟩;rintro r lu gX ⟨w,rfl,⟨x1,x2,x3,y1,y2,y3,z1,z2,z3,rfl⟩,hw⟩;rw [h4] at i;have J:(qO s.seen).set k (gF true)=qO (s.seen.set k true):=by{simp [qO,List.map_set]};have N:=count_set i;have w1:i64.wrap ((s.qJ:Int)+1)=((s.qJ+1:Nat):Int):=by{rw [aq ω];omega};rw [J,w1];refine ⟨_,_,_,_,_,_,_,_,_,_,rfl,λz mD gj=>(ji _).s ?_,λz qC nQ a8 a9 g c g3 g4 g5=>?_⟩;{rintro r V2 G ⟨p,rfl,d⟩;have z:cq l[k].ln=false:=by{simpa using z};have e:jx l (f+1) (k:Int) s=(.leaf false,⟨s.seen.set k true,s.qJ+1,true⟩):=by{simp only [jx,A,B,y,Ð,ß];rw [i,m];simp [z]};exact ⟨p,rfl,λI j g c=>⟨p,rfl,by rw [e];exact d.le j,by rw [e];exact g,by rw [e];exact c⟩⟩};have z:cq l[k].ln=true:=by{simpa using z};have O:∀(U:ut)(u v:Nat),U.H u->U.H v->(U.ao [u,v]).X u/\(U.ao [u,v]).X v:=λU u v hu hv=>⟨⟨ψ,hu⟩,⟨ψ,hv⟩⟩;have i1:=ih l[k].left ⟨s.seen.set k true,s.qJ+1,s.bad⟩ (V:=qC.ao [a8,a9]) ra g (O _ _ _ c g4).1 g3 (O _ _ _ c g4).2 g5 (by simp [E]) ω ω;have hm:=Db l f l[k].left ⟨s.seen.set k true,s.qJ+1,s.bad⟩;have b0:=It l f l[k].left ⟨s.seen.set k true,s.qJ+1,s.bad⟩;have e:jx l (f+1) (k:Int) s=(.node l[k].ln (jx l f l[k].left ⟨s.seen.set k true,s.qJ+1,s.bad⟩).1 (jx l f l[k].right (jx l f l[k].left ⟨s.seen.set k true,s.qJ+1,s.bad⟩).2).1,(jx l f l[k].right (jx l f l[k].left ⟨s.seen.set k true,s.qJ+1,s.bad⟩).2).2):=by{simp only [jx,A,B,y,Ð,ß];rw [i,m];simp [z]};rw [e];clear e;dsimp only;generalize jx l f l[k].left ⟨s.seen.set k true,s.qJ+1,s.bad⟩=q1 at *;obtain ⟨t1,s1⟩:=q1;dsimp only at i1 hm b0 ⊢;refine i1.s ?_;rintro r qN lZ ⟨p,rfl,d,e1,e2⟩;refine ⟨p,rfl,_,_,_,_,_,e1,_,e2,λP l_ O5 Sn f1 f2 f3 f4 f5=>?_⟩;have b9:qC.Le P:=λb o h=>l_ b o (lZ b o h);have i2:=ih l[k].right s1 (V:=P.ao [O5,Sn]) ra f1 (O _ _ _ f2 f4).1 f3 (O _ _ _ f2 f4).2 f5 (by rw [hm.2];simp [E]) ω ω;generalize jx l f l[k].right s1=q2 at *;obtain ⟨t2,s2⟩:=q2;dsimp only at i2 ⊢;refine i2.s ?_;rintro r Aa nt ⟨q,rfl,hq,e3,e4⟩;refine ⟨q,rfl,_,_,_,_,_,e3,_,e4,λA8 uV=>?_⟩;have b4:P.Le Aa:=λb o h=>nt b o h;have K:Aa.Le A8:=λb o h=>uV b o h;have b5:qN.Le P:=λb o h=>l_ b o h;refine (QE ((hw z).le (nQ.m au)) (d.le au) (hq.le K)).s ?_;rintro r MD Bj ⟨u,rfl,hu⟩;exact ⟨u,rfl,λMQ yF g c=>⟨u,rfl,hu.le yF,g,c⟩⟩
theorem Ti {l:zA Nd}(Z:∀x∈l,Bd x.ln)(root:Int)(h:NS V p n c l):À 91 #[dB #[Ô .i64 root,yD p n c]] V λr W=>(GU l root=none->∃q,r=ê #[Õ q,gF false])/\(∀t,GU l root=some t->∃q,r=ê #[Õ q,gF true]/\RT W q t):=by have v:=h.len;subst v;refine Se V _ ⟨λa I J=>?_,λa=>⟨ω,Wx9 _,?_,λV2 K j k u w m y z=>?_⟩⟩;{have a:65536<l.length:=by{simp at a;omega};have e:GU l root=none:=by{unfold GU;rw [Ä a]};exact ⟨λ_=>⟨_,rfl⟩,λt d=>by rw [e] at d;cases d⟩};{have a:¬65536<l.length:=by{simp at a;omega};omega};have a:¬65536<l.length:=by{simp at a;omega};simp only [ß] at u m ⊢;have A:List.replicate l.length (Value.bool false)=qO (List.replicate l.length false):=by{simp [qO]};rw [A] at m;have B:(List.replicate l.length false).count false=l.length:=ψ;refine (M4 Z ω (l.length+1) root ⟨List.replicate l.length false,0,false⟩ (V:=V2.ao [j,k]) ra u ⟨ψ,w⟩ m ⟨ψ,y⟩ z ψ ω ω).s ?_;rintro r C L ⟨q,rfl,D,E,F⟩;have g:GU l root=if (jx l (l.length+1) root ⟨List.replicate l.length false,0,false⟩).2.bad=true\/(jx l (l.length+1) root ⟨List.replicate l.length false,0,false⟩).2.qJ≠l.length then none else some (jx l (l.length+1) root ⟨List.replicate l.length false,0,false⟩).1:=by{unfold GU;rw [Ã a]};rw [g];clear g;generalize jx l (l.length+1) root ⟨List.replicate l.length false,0,false⟩=r0 at *;obtain ⟨t,s⟩:=r0;refine ⟨q,rfl,_,_,_,_,_,E,_,F,λi M N=>?_,λi=>⟨λf O P=>?_,λf G H=>?_⟩⟩;{rw [Ä (.inl i)];exact ⟨λ_=>⟨_,rfl⟩,λt d=>by cases d⟩};{have f:s.qJ≠l.length:=by{simp at f;omega};rw [Ä (.inr f)];exact ⟨λ_=>⟨_,rfl⟩,λt d=>by cases d⟩};have f:s.qJ=l.length:=by{simp at f;omega};dsimp only at i ⊢;rw [Ã (by rw [i,f];simp)];exact ⟨λe=>(by cases e),λt1 d=>by cases d;exact ⟨q,rfl,RT.le (V:=C) (V':=G) (λb o h=>H b o h) D⟩⟩
end Go.Proofs.Tryz
