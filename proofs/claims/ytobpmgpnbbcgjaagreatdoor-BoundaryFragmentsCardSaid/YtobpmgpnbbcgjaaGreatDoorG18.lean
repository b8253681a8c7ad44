import Derived.Shelf.SlSortCmp.WholeK
import Derived.Shelf.SlSortCmp.NoneTotal
import Derived.Test.YtobpmgpnbbcgjaaGreatDoorG17
set_option linter.all false
open Go.IntKind (i64 u64 u32)
open Go.Value renaming slice→dB,agg→qvK,bool→Õ,pointer→qyQ,tuple→æ,int→Ô
open Go.Eng Go.Big
namespace Go.Eng
open Go.Proofs.Tryz
variable {α:Type} {sz:Nat} {R:Ó->Value->α->Prop} {V V':Ó} {d:α}
theorem é.get {vs:zA un}{al:zA α}(h:é sz R V vs al){i:Nat}(hi:i<al.length)(u:0<sz):∃xs:zA un,xs.length=sz/\R V (.agg xs.toArray) (al.getD i d)/\i*sz+sz<=vs.length/\(vs.drop (i*sz)).take sz=xs:=by have ⟨xs,a,b,c⟩:=h.at_ i hi;have e:=h.eM u;have:(i+1)*sz<=al.length*sz:=Ā _ hi;rw [Ş] at this;refine ⟨xs,a,by simpa [hi] using b,ω,?_⟩;apply Qg5;intro j;rw [Ħ];split;{grind};{grind}
theorem é.put {vs:zA un}{al:zA α}(h:é sz R V vs al){i:Nat}(hi:i<al.length)(z:0<sz){xs:zA un}{a:α}(y:xs.length=sz)(D:R V (.agg xs.toArray) a):é sz R V (bD vs (i*sz) xs) (al.set i a):=by have q:=h.eM z;have g:∀k,k<al.length->k*sz+sz<=vs.length:=λk u=>by{have:(k+1)*sz<=al.length*sz:=Ā _ u;rw [Ş] at this;omega};have l:=g i hi;rw [lK];have d:(vs.take (i*sz)).length=i*sz:=by{rw [è];omega};refine ⟨λk u=>?_⟩;rw [Qf3] at u;by_cases e:k=i;{subst e;refine ⟨xs,y,by simpa using D,λj x b=>?_⟩;have c:=(Ġ.1 b).1;rw [Ĕ,Ň ω,d,Qn6,į c];exact b};{have ⟨m,n,o,f⟩:=h.at_ k u;refine ⟨m,n,by rw [List.getElem_set_ne (λp=>e p.symm)];exact o,λj x b=>?_⟩;have c:=(Ġ.1 b).1;by_cases lt:k<i;{have:(k+1)*sz<=i*sz:=Ā _ lt;rw [Ş] at this;rw [Ĕ,į ω,Ħ,Ä ω];exact f j x b};{have:(i+1)*sz<=k*sz:=Ā _ ω;rw [Ş] at this;rw [Ň (by rw [ë];omega),ë,d,y,Qm4];rw [show i*sz+sz+(k*sz+j-(i*sz+sz))=k*sz+j by omega];exact f j x b}}
theorem qR {vs xs:zA un}{o:Nat}(h:o+xs.length<=vs.length):(bD vs o xs).length=vs.length:=by rw [lK h];simp only [ë,è,ī];omega
theorem é.swap {vs:zA un}{al:zA α}(h:é sz R V vs al){i j:Nat}(hi:i<al.length)(y:j<al.length)(u:0<sz){xs ys:zA un}(z:xs.length=sz)(D:ys.length=sz)(E:R V (.agg xs.toArray) (al.getD i d))(F:R V (.agg ys.toArray) (al.getD j d)):é sz R V (bD (bD vs (i*sz) ys) (j*sz) xs) (Hq d al i j):=by have:=h.put hi u D F;exact this.put (by simpa using y) u z E
end Go.Eng
namespace Go.Proofs.Tryz
section
variable {α:Type} (e:α->α->Bool)
def qh:α->List α->List α
 | _,[]=>[]
 | p,a::r=>if e a p then qh a r else a::qh a r
def ie:List α->List α
 | []=>[]
 | a::r=>a::qh e a r
variable {e}
theorem E9 {d:α}:∀{r:zA α} {p a:α},qh e p (r++[a])=qh e p r++if e a ((p::r).getD r.length d) then [] else [a]
 | [],p,a=>by simp [qh]
 | b::r,p,a=>by
  have u:=E9 (d:=d) (r:=r) (p:=b) (a:=a);have c:(p::b::r).getD (b::r).length d=(b::r).getD r.length d:=rfl;rw [c,Qc2];simp only [qh];split
  ·exact u
  ·rw [u];rfl
theorem kJ {d:α}{l:zA α}{k:Nat}(u:k+1<l.length:=by omega):ie e (l.take (k+2))=ie e (l.take (k+1))++if e (l.getD (k+1) d) (l.getD k d) then [] else [l.getD (k+1) d]:=by (cases l with|nil=>simp at u|cons a r=>{have b:k<r.length:=by{simpa using u};have c:(a::r).take (k+2)=a::(r.take k++[r[k]]):=by{rw [List.take_succ_cons,ŀ b]};have f:(a::r).take (k+1)=a::r.take k:=List.take_succ_cons;rw [c,f];simp only [ie];rw [E9 (d:=d)];have g:(a::r).getD (k+1) d=r[k]:=by{rw [Wx4,Ė,ñ b];rfl};have h:(a::r.take k).getD (r.take k).length d=(a::r).getD k d:=by{have i:(r.take k).length=k:=by{rw [è];omega};rw [i];(cases k with|zero=>rfl|succ k=>{rw [Wx4,Wx4,Ė,Ė,Ħ,Ä ω]})};rw [g,h,Qc2]})
theorem IV:∀{r:zA α} {p:α},(qh e p r).length<=r.length
 | [],p=>Ù _
 | b::r,p=>by
  have:=IV (r:=r) (p:=b);grind [qh]
theorem A8 {l:zA α}:(ie e l).length<=l.length:=by (cases l with|nil=>exact Ù _|cons a r=>{have:=IV (e:=e) (r:=r) (p:=a);simp [ie];omega})
theorem Nv {d:α}{l:zA α}{k:Nat}(u:k+1<l.length)(he:e (l.getD (k+1) d) (l.getD k d)=true):(ie e l).length<l.length:=by
 have key:∀j,k+2+j<=l.length->(ie e (l.take (k+2+j))).length<k+2+j:=by
  intro j
  induction j with
  | zero=>
   intro _;rw [ě,kJ (d:=d) u,he,Ä rfl,þ];have:=A8 (e:=e) (l:=l.take (k+1));rw [è] at this;omega
  | succ j y=>
   intro a;have:=y ω;rw [show k+2+(j+1)=k+1+j+2 by omega,kJ (d:=d),ë,show k+1+j+1=k+2+j by omega];split<;>simp<;>omega
 have:=key (l.length-(k+2)) ω
 rwa [show k+2+(l.length-(k+2))=l.length by omega,ď] at this
theorem uZ {l:zA α}(h:l.length<=1:=by omega):ie e l=l:=by
 match l,h with
 | [],_=>rfl
 | [a],_=>rfl
 | _::_::_,h=>simp at h
end
end Go.Proofs.Tryz
namespace Go.Eng
open Go.Proofs.Tryz
section
variable {α:Type} {sz:Nat} {R:Ó->Value->α->Prop} {V:Ó} {d:α}
theorem é.Nt {vs u:zA un}{al:zA α}(h:é sz R V vs al){k:Nat}(y:k<=al.length)(z:0<sz):é sz R V (vs.take (k*sz)++u) (al.take k):=by have l:=h.eM z;refine ⟨λi b=>?_⟩;rw [è] at b;have ⟨xs,c,d,e⟩:=h.at_ i ω;refine ⟨xs,c,by rw [Qt2];exact d,λj x a=>?_⟩;have f:=(Ġ.1 a).1;have g:(i+1)*sz<=k*sz:=Ā _ ω;have m:k*sz<=al.length*sz:=Ā _ y;rw [Ş] at g;rw [į (by rw [è];omega),Ħ,Ä ω];exact e j x a
end
end Go.Eng
namespace Go.Proofs.Tryz
variable{V:Ó}{v w:Value}{k n:Nat}{L M a b l m:L3}{s:Sp}{p:OA}{px py qx qy:Rat}
theorem Lj {x y:Rat}(u:RR V v x)(z:RR V w y)(D:Sz k x)(E:Sz k y)(F:2*k<2^40):À 309 #[v,w] V λr W=>RR W r (tX x y):=by have g:=u;have i:=z;obtain ⟨a,b,c,rfl⟩:=u.shape;obtain ⟨d,e,f,rfl⟩:=z.shape;refine Kn V _ λj l=>(jg ra ra E D).s ?_;rintro r V2 m rfl;unfold tX;exact ⟨_,rfl,λh n o=>by rw [Ä (Á h)];exact i.le au,λh p q=>by rw [Ã (Â h)];exact g.le au⟩
theorem Lk {x y:Rat}(u:RR V v x)(z:RR V w y)(D:Sz k x)(E:Sz k y)(F:2*k<2^40):À 310 #[v,w] V λr W=>RR W r (tY x y):=by have g:=u;have i:=z;obtain ⟨a,b,c,rfl⟩:=u.shape;obtain ⟨d,e,f,rfl⟩:=z.shape;refine Ko V _ λj l=>(jg ra ra E D).s ?_;rintro r V2 m rfl;unfold tY;exact ⟨_,rfl,λh n o=>by rw [Ä (Á h)];exact i.le au,λh p q=>by rw [Ã (Â h)];exact g.le au⟩
theorem Sp.GU {v w:Sp}(u:v.sz k)(y:w.sz k):(v.meet w).sz k:=by unfold Sp.meet Sp.sz tX tY;constructor<;>dsimp only;{split;{exact y.1};{split;{exact u.1};{split;{exact y.1};{exact u.1}}}};{split;{exact y.2};{split;{exact u.2};{split;{exact y.2};{exact u.2}}}}
theorem EZ {s t:Sp}(h:f_ V v s)(h':f_ V w t)(hs:s.sz k)(ht:t.sz k)(hk:2*k<2^40:=by omega):À 301 #[v,w] V λr W=>∃u,r=æ #[u,Õ (!(s.meet t).emp)]/\f_ W u (s.meet t):=by obtain ⟨H,I,p,l,m,q,rfl,h1,J⟩:=h;obtain ⟨K,L,o,M,N,j,rfl,S,T⟩:=h';have lo1:s.a=true->(s.meet t).lo=t.lo/\(s.meet t).a=t.a:=λe=>by{simp [Sp.meet,e]};have U:s.a=false->t.a=false->(s.meet t).lo=tX s.lo t.lo:=λe d=>by{simp [Sp.meet,e,d]};have W:s.a=false->t.a=true->(s.meet t).lo=s.lo:=λe d=>by{simp [Sp.meet,e,d]};have n:s.a=false->(s.meet t).a=s.a:=λe=>by{simp [Sp.meet,e]};have x:s.b=true->(s.meet t).hi=t.hi/\(s.meet t).b=t.b:=λe=>by{simp [Sp.meet,e]};have X:s.b=false->t.b=false->(s.meet t).hi=tY s.hi t.hi:=λe d=>by{simp [Sp.meet,e,d]};have Y:s.b=false->t.b=true->(s.meet t).hi=s.hi:=λe d=>by{simp [Sp.meet,e,d]};have y:s.b=false->(s.meet t).b=s.b:=λe=>by{simp [Sp.meet,e]};refine CJ V _ ⟨λz i=>RR i (qvK #[Ô .i64 z.1,Ô .i64 z.2.1,qyQ z.2.2.1]) (s.meet t).lo/\RR i (qvK #[Ô .i64 z.2.2.2.1,Ô .i64 z.2.2.2.2.1,qyQ z.2.2.2.2.2.1]) s.hi/\z.2.2.2.2.2.2.1=(s.meet t).a/\z.2.2.2.2.2.2.2=s.b,⟨λc=>?_,λc=>⟨λf i l1=>(Lj ra ra hs.1 ht.1 hk).s ?_,λf=>?_⟩⟩,?_⟩;{refine ⟨(K,L,o,l,m,q,t.a,s.b),σ,?_,J,(lo1 c).2.symm,rfl⟩;rw [(lo1 c).1];exact S};{rintro r V2 l2 g;rw [Ľ] at f;obtain ⟨B,C,D,rfl⟩:=g.shape;refine ⟨_,_,_,rfl,(B,C,D,l,m,q,s.a,s.b),σ,?_,ra,(n c).symm,rfl⟩<;>grind};{rw [š] at f;refine ⟨(H,I,p,l,m,q,s.a,s.b),σ,?_,J,(n c).symm,rfl⟩<;>grind};{rintro ⟨E,F,G,Z,z5,z6,z7,z8⟩ V3 l3 ⟨A,k2,O,P⟩;dsimp only at A k2 O P;subst O P;refine ⟨rfl,λz i=>RR i (qvK #[Ô .i64 z.1,Ô .i64 z.2.1,qyQ z.2.2.1]) (s.meet t).lo/\RR i (qvK #[Ô .i64 z.2.2.2.1,Ô .i64 z.2.2.2.2.1,qyQ z.2.2.2.2.2.1]) (s.meet t).hi/\z.2.2.2.2.2.2.1=(s.meet t).a/\z.2.2.2.2.2.2.2=(s.meet t).b,⟨λc=>?_,λc=>⟨λf V4 l4=>(Lk ra ra hs.2 ht.2 hk).s ?_,λf=>?_⟩⟩,?_⟩;{refine ⟨(E,F,G,M,N,j,(s.meet t).a,t.b),σ,A,?_,rfl,(x c).2.symm⟩;rw [(x c).1];exact T.le l3};{rintro r V5 l5 g;rw [Ľ] at f;obtain ⟨B,C,D,rfl⟩:=g.shape;refine ⟨_,_,_,rfl,(E,F,G,B,C,D,(s.meet t).a,s.b),σ,A.le au,?_,rfl,(y c).symm⟩<;>grind};{rw [š] at f;refine ⟨(E,F,G,Z,z5,z6,(s.meet t).a,s.b),σ,A,?_,rfl,(y c).symm⟩<;>grind};{rintro ⟨l,m,y3,y4,y5,y6,y7,y8⟩ V6 l6 ⟨j1,j2,Q,R⟩;dsimp only at j1 j2 Q R;subst Q R;refine ⟨rfl,λV7 l7=>(La ⟨_,_,_,_,_,_,rfl,ra,ra⟩ (Sp.GU hs ht) hk).s ?_⟩;rintro r V8 l8 rfl;exact ⟨_,rfl,λV9 l9=>⟨_,rfl,_,_,_,_,_,_,rfl,ra,ra⟩⟩}}
theorem sf (sl:iJ k L)(sm:iJ k M):Sz (4*k+3) (Û M L):=Dn sm.1 sm.2.1 sl.2.1 sl.1.neg
theorem QP:(((M.1:Rat)*((L.1:Rat)*(((-(L.2.2:Rat))*(((L.1:Rat)*(L.1:Rat))+((L.2.1:Rat)*(L.2.1:Rat)))⁻¹))))+((M.2.1:Rat)*((L.2.1:Rat)*(((-(L.2.2:Rat))*(((L.1:Rat)*(L.1:Rat))+((L.2.1:Rat)*(L.2.1:Rat)))⁻¹)))))+(M.2.2:Rat)=jB M L:=by unfold jB aC cg cj fM;grind
theorem r_ (sl:iJ k L)(sm:iJ k M):Sz (50*k+49) (jB M L):=by rw [<-QP];exact Sz.s (xY (k:=10*k+9) (sm.1.s ω) (sm.2.1.s ω) (sm.2.2.s ω) (pE sl.1 sl.2.1 sl.2.2) (pF sl.1 sl.2.1 sl.2.2)) ω
theorem kv (sl:iJ k L)(sm:iJ k M):Sz (60*k+60) (Ø M L):=Sz.s ((r_ sl sm).mul (jW (sf sl sm))).neg ω
theorem It {l m:un}(hl:wJ V l L)(hv:f_ V v s)(hm:wJ V m M)(sl:iJ k L)(hs:s.sz k)(sm:iJ k M)(hk:200*k+200<2^38:=by omega):À 278 #[l,v,m] V λr W=>∃w,r=æ #[w,Õ (cS L s M)]/\f_ W w (bC L s M):=by have d:=hl;have j:=hv;have e:=hm;obtain ⟨_,_,_,_,_,_,_,_,_,rfl,-,-,-⟩:=hl;obtain ⟨_,_,_,_,_,_,rfl,-,-⟩:=hv;obtain ⟨_,_,_,_,_,_,_,_,_,rfl,-,-,-⟩:=hm;have f:s.sz (60*k+60):=⟨hs.1.s ω,hs.2.s ω⟩;have z:=CB (60*k+60);refine Ed V _ λP B=>(pg (e.le B) sm.1 sm.2.1 sm.2.2 ω).s λr V2 Q x=>pP.ex x λ_ _ x _ _=>λR S=>(uL (d.le au) sl.1 sl.2.1 sl.2.2 ω).s λr T U y=>pP.ex y λ_ _ y _ _=>λW X=>(uM ra ra sm.1 sm.2.1 sl.2.1 sl.1.neg ω).s λr V6 l6 (g:RR V6 r (Û M L))=>RR.ex g λ_ g=>λY Z=>(sP (d.le au) sl.1 sl.2.1 sl.2.2).s λr V8 l8 n=>pP.ex n λ_ _ n _ _=>λV9 C=>(AL (k:=10*k+9) (e.le au) (n.le C) (sm.1.s ω) (sm.2.1.s ω) (sm.2.2.s ω) (pE sl.1 sl.2.1 sl.2.2) (pF sl.1 sl.2.1 sl.2.2)).s ?_;rintro r fo D A;rw [QP] at A;obtain ⟨_,_,_,rfl⟩:=A.shape;refine ⟨_,_,_,rfl,λfg dy=>(pV ra (sf sl sm)).s ?_⟩;rintro r gT dX rfl;refine ⟨_,rfl,λa iL dS=>(pV ra (r_ sl sm)).s ?_,λa=>⟨λo kH fy=>(zX ra ra (r_ sl sm) (sf sl sm) ω).s ?_,λo uF pk=>(zX ra ra (r_ sl sm) (sf sl sm) ω).s ?_⟩⟩;{rintro r lR gj rfl;have h:cS L s M=decide ((jB M L).num.sign>0):=by{unfold cS;rw [Ä a]};have b:bC L s M=s:=by{unfold bC;rw [Ä a]};rw [h,b];exact ⟨_,rfl,λlS gC=>⟨_,rfl,ra⟩⟩};{have b:bC L s M=s.meet ⟨Ø M L,0,false,true⟩:=by{unfold bC;rw [Ã (by rw [a];exact Š),Ä o]};have h:cS L s M=!(s.meet ⟨Ø M L,0,false,true⟩).emp:=by{rw [<-b];unfold cS;rw [Ã (by rw [a];exact Š)]};rw [h,b];rintro r E F p;obtain ⟨_,_,_,rfl⟩:=p.shape;refine ⟨_,_,_,rfl,λG H=>(uJ ra ((r_ sl sm).mul (jW (sf sl sm))) ω).s λr I J c=>RR.ex c λ_ c=>λK q=>(EZ (t:=⟨Ø M L,0,false,true⟩) (j.le au) ⟨_,_,_,_,_,_,rfl,c.le q,RR.zero _⟩ f ⟨kv sl sm,z⟩).s ?_⟩;rintro r N O ⟨w,rfl,i⟩;have u:=i;obtain ⟨_,_,_,_,_,_,rfl,-,-⟩:=i;grind [u.le]};{have b:bC L s M=s.meet ⟨0,Ø M L,true,false⟩:=by{unfold bC;rw [Ã (by rw [a];exact Š),Ã (by rw [o];exact Š)]};have h:cS L s M=!(s.meet ⟨0,Ø M L,true,false⟩).emp:=by{rw [<-b];unfold cS;rw [Ã (by rw [a];exact Š)]};rw [h,b];rintro r E F p;obtain ⟨_,_,_,rfl⟩:=p.shape;refine ⟨_,_,_,rfl,λG H=>(uJ ra ((r_ sl sm).mul (jW (sf sl sm))) ω).s λr I J c=>RR.ex c λ_ c=>λK q=>(EZ (t:=⟨0,Ø M L,true,false⟩) ra ⟨_,_,_,_,_,_,rfl,RR.zero _,c.le q⟩ f ⟨z,kv sl sm⟩).s ?_⟩;rintro r N O ⟨w,rfl,i⟩;obtain ⟨_,_,_,_,_,_,rfl,-,-⟩:=id i;grind [i.le]}
structure QC (V:Ó) (p:OA) (n:Nat) (fs:List (L3×Sp)):Prop where
 len:n=fs.length
 at_:∀(i:Nat)(h:i<fs.length),∃ad,ae p (i*17)=some ad/\∃xs:List Value,zU V (.agg xs.toArray) fs[i].1 fs[i].2/\∀j x,xs[j]?=some x->V.at (ad.add j) x
theorem QC.le {V V':ut}{fs:zA (L3×Sp)}(h:QC V p n fs)(e:V.Le V'):QC V' p n fs:=⟨h.len,λi a=>by have ⟨b,c,xs,d,f⟩:=h.at_ i a;exact ⟨b,c,xs,d.le e,λj x g=>e.at (f j x g)⟩⟩
def po (l:L3)(s:Sp)(m:L3):List (L3×Sp):=if cS l s m=true then [(l,bC l s m)] else []
theorem Ld {c:Nat}{fs:zA (L3×Sp)}(h:QC V p n fs)(hn:fs.length<=10000)(hs:∀f∈fs,iJ k f.1/\f.2.sz k)(hk:k<=2^40:=by omega):À 30 #[dB p n c] V λr W=>∃q m e,r=dB q m e/\F3 W q m fs:=by
 obtain rfl:=h.len
 refine zz V _ ⟨λz V'=>∃j:Nat,z.2.2.2=(j:Int)/\j<=fs.length/\z.1=j/\j<=z.2.1/\z.2.1*14<=z.2.2.1.length/\∀(i:Nat)(_:i<j)(l:i<fs.length),∃xs:zA un,xs.length=14/\QB V' (.agg xs.toArray) fs[i].1 fs[i].2/\∀q x,xs[q]?=some x->z.2.2.1[i*14+q]?=some x,
  λz=>fs.length-z.2.2.2.toNat,⟨(0,0,[],0),σ,0,rfl,á _,rfl,Ù _,Ù _,λi l=>Å l (ŋ i)⟩,?_⟩
 rintro ⟨b,K,y,U⟩ W L ⟨j,E,X,F,G,u,A⟩;dsimp only at E F G u A;subst E F;refine ⟨rfl,λd=>?_,λd Y Z B hb=>?_⟩
 ·have d:(b:Int)<fs.length:=Á d;have l:b<fs.length:=ω;obtain ⟨M,H,xs,N,a⟩:=(h.le L).at_ b l;have w:i64.wrap ((b:Int)+1)=(b:Int)+1:=ao ω;dsimp only;rw [Ü,w];obtain ⟨_,_,_,_,_,_,_,_,_,_,_,_,_,_,_,ex,-,-⟩:=id N;have ex:=Æ Array.toList (Value.agg.inj ex);dsimp only at ex;subst ex;have ⟨s1,s2⟩:=hs _ (ó l);refine ⟨aK H,⟨ω,ω⟩,_,_,_,_,_,_,_,_,_,_,_,_,_,_,_,_,_,M,H,a 0 _ rfl,a 1 _ rfl,a 2 _ rfl,a 3 _ rfl,a 4 _ rfl,a 5 _ rfl,a 6 _ rfl,a 7 _ rfl,a 8 _ rfl,a 9 _ rfl,a 10 _ rfl,a 11 _ rfl,a 12 _ rfl,a 13 _ rfl,a 14 _ rfl,a 15 _ rfl,a 16 _ rfl,λV2 l2=>(Rc ra s1 s2 hk).s ?_⟩;rintro r V3 l3 g;obtain ⟨_,_,_,_,_,_,_,_,_,_,_,_,_,_,_,_,_,_,_,_,_,_,_,_,_,_,rfl⟩:=RV g;refine ⟨_,_,_,_,_,_,_,_,_,_,_,_,_,_,_,_,_,_,_,_,_,_,_,_,_,_,_,_,rfl,ω,G,u,rfl,?_,?_⟩;{intro v hm;simp only [ê,ę,Ì] at hm;rcases hm with rfl|rfl|rfl|rfl|rfl|rfl|rfl|rfl|rfl|rfl|rfl|rfl|rfl|rfl<;>rfl};{intro sp O P h2;refine ⟨(b+1,O,_,(b:Int)+1),by dsimp only;omega,σ,b+1,rfl,l,rfl,P,?_,?_⟩;{dsimp only;have t:(y.take (b*14)).length=b*14:=by{rw [è];omega};rw [ë,ë,t];simp only [Ą];omega};{intro i Q C;dsimp only;have t:(y.take (b*14)).length=b*14:=by{rw [è];omega};by_cases o:i=b;{subst o;refine ⟨_,rfl,g,λq x s=>?_⟩;rw [Ĕ,Ň (by rw [t];omega),t,Qn6];have:q<14:=(Ġ.1 s).1;rw [į (by exact this)];exact s};{have ⟨D,I,R,J⟩:=A i ω C;refine ⟨D,I,ra,λq x s=>?_⟩;have:q<14:=by{have:=(Ġ.1 s).1;omega};rw [Ĕ,į (by rw [t];omega),Ħ,Ä ω];exact J q x s}}}
 ·have d:¬(b:Int)<fs.length:=Â d;obtain rfl:b=fs.length:=ω;refine ⟨_,_,_,rfl,rfl,λi l=>?_⟩;have S:K≠0:=ω;have T:y≠[]:=λe=>by{rw [e] at u;simp at u;omega};have ⟨D,I,R,J⟩:=A i l l;refine ⟨⟨B,i*14,none⟩,by simp [mA,S,ae,add_zero'],D,ra,λq x s=>?_⟩;have hj:(⟨B,i*14,none⟩:Addr).add q=⟨B,i*14+q,none⟩:=by{rw [<-add_zero',fQ,add_zero']};grind [dD]
theorem Ve:((L.1:Rat)=(M.1:Rat)/\(L.2.1:Rat)=(M.2.1:Rat)/\(L.2.2:Rat)=(M.2.2:Rat))↔L=M:=by grind [Rat.intCast_inj.1]
theorem rN (u:wJ V v L)(hm:wJ V w M)(sl:iJ k L)(sm:iJ k M)(y:k+k<2^40:=by omega):À 162 #[v,w] V λr W=>r=Õ (decide (L=M)):=by refine (yg u hm sl.1 sl.2.1 sl.2.2 sm.1 sm.2.1 sm.2.2 y).s ?_;rintro r V' l rfl;rw [É.2 Ve]
theorem yT (x y:Rat):0<=(fu x y).num:=by unfold fu;grind [Rat.num_mkRat]
theorem TP (h:¬(px=qx/\py=qy)):ig (mS px py qx qy) qx qy-ig (mS px py qx qy) px py=fu (fu (-(qy-py)) (qx-px)) (-(-(qy-py)*px+(qx-px)*py)):=by obtain ⟨f,d,e,-⟩:=rR (a:=-(qy-py)) (b:=qx-px) (c:=-(-(qy-py)*px+(qx-px)*py)) (vY h);change _=((mS px py qx qy).1:Rat) at d;change _=((mS px py qx qy).2.1:Rat) at e;generalize fu (fu (-(qy-py)) (qx-px)) (-(-(qy-py)*px+(qx-px)*py))=g at *;have i:=Ŧ g f;have j:=Ŧ _ ((Ow h).norm);unfold ig;have k:fM (mS px py qx qy)=((qy-py)*(qy-py)+(qx-px)*(qx-px))*(g⁻¹*g⁻¹):=by{unfold fM;rw [<-d,<-e];grind};grind
theorem WC (h:¬(px=qx/\py=qy)):(Mu px py qx qy).emp=false:=by obtain ⟨f,-⟩:=rR (a:=-(qy-py)) (b:=qx-px) (c:=-(-(qy-py)*px+(qx-px)*py)) (vY h);have d:=TP h;have i:=yT (fu (-(qy-py)) (qx-px)) (-(-(qy-py)*px+(qx-px)*py));unfold Mu Sp.emp;generalize fu (fu (-(qy-py)) (qx-px)) (-(-(qy-py)*px+(qx-px)*py))=g at *;have e:cY (ig (mS px py qx qy) px py) (ig (mS px py qx qy) qx qy)=- g.num.sign:=by{rw [O7,<-d];rfl};grind [Jz]
theorem ZS (h:¬(px=qx/\py=qy)):FOk (mS px py qx qy) (Mu px py qx qy):=⟨S7 h,⟨π,π⟩,WC h⟩
theorem rq0 (V:ut):RQ V (qvK #[Õ false,dB none 0 0,dB none 0 0]) 0:=by have:=RQ.zero (V:=V);simpa using this
theorem uR:À 260 #[] V λr W=>mb W r ⟨0,0,true,true⟩:=
 Ey V _ λa b=>⟨_,_,_,_,_,_,_,_,_,_,_,_,_,_,rfl,rq0 _,rq0 _⟩
theorem Cg (h:mb V v s):∃b p n c u y z d q m e D E F,v=qvK #[Õ b,dB p n c,dB u y z,Õ d,dB q m e,dB D E F,Õ s.a,Õ s.b]:=by obtain ⟨_,_,_,_,_,_,_,_,_,_,_,_,_,_,e,-⟩:=h;exact qxZ e
theorem JZ (h:RF V v l s):∃b1 u y c1 z D E F N O Z c3 b p n c p' n' c' d q m e q' m' e',
 v=qvK #[Õ b1,dB u y c1,Õ z,dB D E F,Õ N,dB O Z c3,Õ b,dB p n c,dB p' n' c',Õ d,dB q m e,dB q' m' e',Õ s.a,Õ s.b]:=by obtain ⟨_,_,_,_,_,_,_,_,_,_,_,_,_,_,_,_,_,_,_,_,_,_,_,_,_,_,e,-⟩:=h;exact ⟨_,_,_,_,_,_,_,_,_,_,_,_,_,_,_,_,_,_,_,_,_,_,_,_,_,_,e⟩
theorem WM {k:Nat}(h:iJ k l):l.1.natAbs<2^k/\l.2.1.natAbs<2^k/\l.2.2.natAbs<2^k:=by have e:∀{x:Int},Sz k (x:Rat)->x.natAbs<2^k:=λh=>by{have:=h.1;rwa [Qg9] at this};exact ⟨e h.1,e h.2.1,e h.2.2⟩
theorem Yr (h:iJ 1000 l):Bd l:=WM (k:=1000) h
theorem mH (z w:Int){q:OA}{c m e:Nat}(F:RD V p n c (ah z.natAbs))(N:RD V q m e (ah w.natAbs))(hm:(ah z.natAbs).length<=2^40)(E:(ah w.natAbs).length<=2^40):À 186 #[qvK #[Õ (decide (z<0)),dB p n c],qvK #[Õ (decide (w<0)),dB q m e]] V λr W=>r=Ô .i64 (z-w).sign:=by refine CV V _ λa b=>(jD w ra).s ?_;rintro r V2 d ⟨f,g,h,rfl,i⟩;refine qyJ ⟨rfl,λj k=>(wV z (-w) ra ra hm (by rw [ť];exact E)).s ?_⟩;rintro r l o ⟨s,t,u,rfl,v⟩;refine qyJ ⟨rfl,λx y=>(oz _ ra).s λr A B rfl=>⟨_,rfl,λC D=>by rw [Int.sub_eq_add_neg]⟩⟩
def iq (l m:L3):Int:=if (l.1-m.1).sign≠0 then (l.1-m.1).sign else if (l.2.1-m.2.1).sign≠0 then (l.2.1-m.2.1).sign else (l.2.2-m.2.2).sign
theorem rH:iq l m=0↔l=m:=by have e:∀{a b:Int},(a-b).sign=0↔a=b:=λ{a b}=>by{rw [Qm9];omega};unfold iq;constructor;{intro h;by_cases c:(l.1-m.1).sign=0;{rw [Ã (by simpa using c)] at h;by_cases d:(l.2.1-m.2.1).sign=0;{rw [Ã (by simpa using d)] at h;exact Wj7 (e.1 c) (Wj7 (e.1 d) (e.1 h))};{rw [Ä d] at h;exact Å h d}};{rw [Ä c] at h;exact Å h c}};{rintro rfl;simp}
theorem fH (O:RL V v l.1 l.2.1 l.2.2)(hm:RL V w m.1 m.2.1 m.2.2)(sl:iJ k l)(sm:iJ k m)(N:k<=2^40:=by omega):À 104 #[v,w] V λr W=>r=Ô .i64 (iq l m):=by have ⟨d1,d2,d3⟩:=sl.ah N;have ⟨a,b,c⟩:=sm.ah N;obtain ⟨_,_,_,_,_,_,_,_,_,rfl,d,e,f⟩:=O;obtain ⟨_,_,_,_,_,_,_,_,_,rfl,g,i,j⟩:=hm;refine HM V _ λn o=>(mH _ _ ra ra d1 a).s ?_;rintro r V2 p rfl;unfold iq;refine ⟨_,rfl,λh q s=>?_,λh t u=>(mH _ _ ra ra d2 b).s ?_⟩;{rw [bne_iff_ne] at h;rw [Ä h]};{rw [bne_eq_false_iff_eq] at h;rw [Ã (by rw [h];decide)];rintro r x y rfl;refine ⟨_,rfl,λh z A=>?_,λh B C=>(mH _ _ ra ra d3 c).s ?_⟩;{rw [bne_iff_ne] at h;rw [Ä h]};{rw [bne_eq_false_iff_eq] at h;rw [Ã (by rw [h];decide)];rintro r D E rfl;exact ⟨_,rfl,λF G=>rfl⟩}}
theorem IM:(iq l m==(0:Int))=decide (l=m):=by by_cases h:l=m;{rw [Ç h,Ë];exact rH.2 h};{rw [È h,beq_eq_false_iff_ne];exact λe=>h (rH.1 e)}
def M9 (u:Value):Prop:=u=.agg #[.bool false,.slice none 0 0,.slice none 0 0,.bool false,.slice none 0 0,.slice none 0 0]
theorem Mk {l m:L3}(hl:RL V v l.1 l.2.1 l.2.2)(hm:RL V w m.1 m.2.1 m.2.2)(sl:iJ k l)(sm:iJ k m)(hk:20*k+20<2^38:=by omega):À 54 #[v,w] V λr W=>∃u,r=æ #[u,Õ (decide (Ý l m≠0))]/\(Ý l m=0->M9 u)/\(Ý l m≠0->RP W u (PD l m) (PE l m)):=by have e0:((l.1:Int):Rat)*((m.2.1:Int):Rat)-((m.1:Int):Rat)*((l.2.1:Int):Rat)=Ý l m:=by{unfold Ý;grind};have e1:((l.2.1:Int):Rat)*((m.2.2:Int):Rat)-((m.2.1:Int):Rat)*((l.2.2:Int):Rat)=((l.2.1:Rat)*(m.2.2:Rat))-((l.2.2:Rat)*(m.2.1:Rat)):=χ;have e2:((m.1:Int):Rat)*((l.2.2:Int):Rat)-((l.1:Int):Rat)*((m.2.2:Int):Rat)=((l.2.2:Rat)*(m.1:Rat))-((l.1:Rat)*(m.2.2:Rat)):=χ;obtain ⟨a,b,e⟩:=sl;obtain ⟨f,g,i⟩:=sm;obtain ⟨_,_,_,_,_,_,_,_,_,rfl,a1,a2,a3⟩:=hl;obtain ⟨_,_,_,_,_,_,_,_,_,rfl,b1,b2,b3⟩:=hm;refine Eo V _ λV1 l1=>(cq (a1.le l1) a ω).s ?_;rintro r V2 l2 x;obtain ⟨_,_,_,_,_,_,rfl⟩:=x.shape;refine qxW ⟨rfl,λV3 l3=>(cq (b2.le au) g ω).s ?_⟩;rintro r V4 l4 y;obtain ⟨_,_,_,_,_,_,rfl⟩:=y.shape;refine qxW ⟨rfl,λV5 l5=>(bE (x.le au) (y.le l5) a g ω).s ?_⟩;rintro r V6 l6 z;obtain ⟨_,_,_,_,_,_,rfl⟩:=z.shape;refine qxW ⟨rfl,λV7 l7=>(cq (b1.le au) f ω).s ?_⟩;rintro r V8 l8 A;obtain ⟨_,_,_,_,_,_,rfl⟩:=A.shape;refine qxW ⟨rfl,λV9 l9=>(cq (a2.le au) b ω).s ?_⟩;rintro r fo a0 B;obtain ⟨_,_,_,_,_,_,rfl⟩:=B.shape;refine qxW ⟨rfl,λfg dy=>(bE (A.le au) (B.le dy) f b ω).s ?_⟩;rintro r gT dX C;obtain ⟨_,_,_,_,_,_,rfl⟩:=C.shape;refine qxW ⟨rfl,λiL dS=>(gW (z.le au) (C.le dS) (a.mul g) (f.mul b)).s ?_⟩;rintro r lR gj d;rw [e0] at d;obtain ⟨_,_,_,_,_,_,rfl,D,-⟩:=id d;have sD:Sz (4*k+3) (((l.1:Int):Rat)*((m.2.1:Int):Rat)-((m.1:Int):Rat)*((l.2.1:Int):Rat)):=Sz.s ((a.mul g).sub (f.mul b)) ω;rw [e0] at sD;refine qxW ⟨rfl,λlS gC=>(rG _ (D.le gC)).s ?_⟩;rintro r kH fy rfl;refine ⟨_,rfl,λj lT ij=>?_,λj=>?_⟩;{rw [Ë,vU] at j;rw [j];exact ⟨_,rfl,λ_=>rfl,λh=>Å rfl h⟩};{rw [beq_eq_false_iff_ne,ne_eq,vU] at j;rw [Ç j];have E:¬(Ý l m).num=0:=λh=>j (Qb6.1 h);intro lT ij;have M0:=(l1.m (l2.m (l3.m (l4.m (l5.m (l6.m (l7.m (l8.m (l9.m (a0.m (dy.m (dX.m (dS.m (gj.m (gC.m (fy.m ij))))))))))))))));replace d:=d.le (gC.m (fy.m ij));refine (cq (a2.le M0) b ω).s ?_;rintro r mZ hU F;obtain ⟨_,_,_,_,_,_,rfl⟩:=F.shape;refine qxW ⟨rfl,λpS jN=>(cq (b3.le au) i ω).s ?_⟩;rintro r sC kt G;obtain ⟨_,_,_,_,_,_,rfl⟩:=G.shape;refine qxW ⟨rfl,λsE qB=>(bE (F.le au) (G.le qB) b i ω).s ?_⟩;rintro r sN nH H;obtain ⟨_,_,_,_,_,_,rfl⟩:=H.shape;refine qxW ⟨rfl,λuF pk=>(cq (b2.le au) g ω).s ?_⟩;rintro r Dx pM I;obtain ⟨_,_,_,_,_,_,rfl⟩:=I.shape;refine qxW ⟨rfl,λHZ Bz=>(cq (a3.le au) e ω).s ?_⟩;rintro r Nb Jl J;obtain ⟨_,_,_,_,_,_,rfl⟩:=J.shape;refine qxW ⟨rfl,λUB GN=>(bE (I.le au) (J.le GN) g e ω).s ?_⟩;rintro r UC H4 K;obtain ⟨_,_,_,_,_,_,rfl⟩:=K.shape;refine qxW ⟨rfl,λW3 NI=>(gW (H.le au) (K.le NI) (b.mul i) (g.mul e)).s ?_⟩;rintro r QF H5 c;rw [e1] at c;obtain ⟨_,_,_,_,_,_,rfl⟩:=c.shape;have sX:Sz (4*k+3) (((l.2.1:Rat)*(m.2.2:Rat))-((l.2.2:Rat)*(m.2.1:Rat))):=by{rw [<-e1];exact Sz.s ((b.mul i).sub (g.mul e)) ω};have Z:=(M0.m (hU.m (jN.m (kt.m (qB.m (nH.m (pk.m (pM.m (Bz.m (Jl.m (GN.m (H4.m (NI.m H5)))))))))))));replace d:=d.le (hU.m (jN.m (kt.m (qB.m (nH.m (pk.m (pM.m (Bz.m (Jl.m (GN.m (H4.m (NI.m H5))))))))))));refine qxW ⟨rfl,λYi q=>(cq (b1.le (Z.m q)) f ω).s ?_⟩;rintro r Yj L M;obtain ⟨_,_,_,_,_,_,rfl⟩:=M.shape;refine qxW ⟨rfl,λUD s=>(cq (a3.le (Z.m (q.m (L.m s)))) e ω).s ?_⟩;rintro r a4 N O;obtain ⟨_,_,_,_,_,_,rfl⟩:=O.shape;refine qxW ⟨rfl,λa5 t=>(bE (M.le (s.m (N.m t))) (O.le t) f e ω).s ?_⟩;rintro r a6 Py P;obtain ⟨_,_,_,_,_,_,rfl⟩:=P.shape;refine qxW ⟨rfl,λa7 Q=>(cq (a1.le (Z.m (q.m (L.m (s.m (N.m (t.m (Py.m Q)))))))) a ω).s ?_⟩;rintro r a8 Sr R;obtain ⟨_,_,_,_,_,_,rfl⟩:=R.shape;refine qxW ⟨rfl,λa9 S=>(cq (b3.le (Z.m (q.m (L.m (s.m (N.m (t.m (Py.m (Q.m (Sr.m S)))))))))) i ω).s ?_⟩;rintro r b0 Zk T;obtain ⟨_,_,_,_,_,_,rfl⟩:=T.shape;refine qxW ⟨rfl,λb4 U=>(bE (R.le (S.m (Zk.m U))) (T.le U) a i ω).s ?_⟩;rintro r b5 n W;obtain ⟨_,_,_,_,_,_,rfl⟩:=W.shape;refine qxW ⟨rfl,λb6 Zm=>(gW (P.le (Q.m (Sr.m (S.m (Zk.m (U.m (n.m Zm))))))) (W.le Zm) (f.mul e) (a.mul i)).s ?_⟩;rintro r b7 X o;rw [e2] at o;obtain ⟨_,_,_,_,_,_,rfl⟩:=o.shape;have sY:Sz (4*k+3) (((l.2.2:Rat)*(m.1:Rat))-((l.1:Rat)*(m.2.2:Rat))):=by{rw [<-e2];exact Sz.s ((f.mul e).sub (a.mul i)) ω};replace d:=d.le (q.m (L.m (s.m (N.m (t.m (Py.m (Q.m (Sr.m (S.m (Zk.m (U.m (n.m (Zm.m X)))))))))))));replace c:=c.le (q.m (L.m (s.m (N.m (t.m (Py.m (Q.m (Sr.m (S.m (Zk.m (U.m (n.m (Zm.m X)))))))))))));refine qxW ⟨rfl,λb8 XI=>(iR (c.le XI) (d.le XI) E sX sD ω).s ?_⟩;rintro r b9 Y gr;obtain ⟨_,_,_,_,_,_,rfl⟩:=gr.shape;refine qxW ⟨rfl,λc0 p=>(iR (o.le (XI.m (Y.m p))) (d.le (XI.m (Y.m p))) E sY sD ω).s ?_⟩;rintro r c1 Zn gs;obtain ⟨_,_,_,_,_,_,rfl⟩:=gs.shape;exact qxW ⟨rfl,λc2 XJ=>⟨_,rfl,λh=>Å h j,λ_=>⟨_,_,_,_,_,_,_,_,_,_,_,_,rfl,gr.le (p.m (Zn.m XJ)),gs.le XJ⟩⟩⟩}
def IW:L3:=(0,0,0)
def Uo (a b:L3):Int:=iq a b
theorem uX:iq a b<0↔(a.1<b.1\/a.1=b.1/\(a.2.1<b.2.1\/a.2.1=b.2.1/\a.2.2<b.2.2)):=by have s:∀{x y:Int},(x<y/\(x-y).sign=-1)\/(x=y/\(x-y).sign=0)\/(y<x/\(x-y).sign=1):=χ;unfold iq;grind
theorem Te:Ō Uo:=⟨λa b h=>by unfold Uo at *;rw [uX] at *;omega,λa b d h c=>by unfold Uo at *;rw [uX] at *;omega⟩
theorem JE:PN [cY (a.1:Rat) (b.1:Rat),cY (a.2.1:Rat) (b.2.1:Rat),cY (a.2.2:Rat) (b.2.2:Rat)]=iq a b:=by have e:∀x y:Int,cY (x:Rat) (y:Rat)=(x-y).sign:=λx y=>by{unfold cY;rw [<-Wk9,Qg9]};rw [e,e,e];unfold iq;generalize (a.1-b.1).sign=x;generalize (a.2.1-b.2.1).sign=y;generalize (a.2.2-b.2.2).sign=z;simp only [PN];grind
def mF (V:Ó)(v:Value)(c:L3):Prop:=xZ V v c.1 c.2.1 c.2.2/\Bd c
theorem mF.le {V V':ut}{c:L3}(h:mF V v c)(l:V.Le V'):mF V' v c:=⟨h.1.le l,h.2⟩
theorem mF.shape {c:L3}(h:mF V v c):∃(x y:Int)(p:OA)(u z:Int)(D:OA)(xc E:Int)(F:OA),v=qvK #[Ô .i64 x,Ô .i64 y,qyQ p,Ô .i64 u,Ô .i64 z,qyQ D,Ô .i64 xc,Ô .i64 E,qyQ F]:=by obtain ⟨⟨a,b,p,d,f,q,g,i,r,e,-⟩,-⟩:=h;exact ⟨_,_,_,_,_,_,_,_,_,e⟩
theorem Lh (h:mF V v a)(u:mF V w b):À 160 #[v,w] V λr W=>r=Ô .i64 (Uo a b):=by obtain ⟨s1,s2,s3⟩:=h.2.sz;obtain ⟨t1,t2,t3⟩:=u.2.sz;refine (wT h.1 u.1 s1 s2 s3 t1 t2 t3).s ?_;rintro r c d rfl;rw [JE];rfl
def eL (a b:L3):Bool:=decide (a=b)
theorem Rm (h:mF V v a)(u:mF V w b):À 162 #[v,w] V λr W=>r=Õ (eL a b):=by obtain ⟨s1,s2,s3⟩:=h.2.sz;obtain ⟨t1,t2,t3⟩:=u.2.sz;refine (yg h.1 u.1 s1 s2 s3 t1 t2 t3).s ?_;rintro r g i rfl;unfold eL;congr 1;refine É.2 ⟨λ⟨c,d,f⟩=>Wj7 (Qg8.1 c) (Wj7 (Qg8.1 d) (Qg8.1 f)),λe=>by rw [e];exact ⟨rfl,rfl,rfl⟩⟩
end Go.Proofs.Tryz
namespace Go.Eng
open Go.Proofs Go.Shelf Go.RowKit Go.Lib Go.Sort
def WV {τ:Type}(R:Ó->Value->τ->Prop)(k:Nat)(V:Ó):Type:={p:List Value×τ // R V (.agg p.1.toArray) p.2/\p.1.length=k/\∀x∈p.1,x.oneCell'=true}
theorem GG {w w':World}(h:j_ (λ_=>False) w w'):∃q os,w'=grow (w.drewN q) os:=by refine ⟨w'.drawn-w.drawn,w'.heap.extract w.heap.size w'.heap.size,?_⟩;obtain ⟨a,k,dr,os,out⟩:=w';have b:=h.os;have c:=h.tape;have d:=h.out;have e:=h.dr;have f:=h.size;have g:=h.aW;dsimp only at b c d e f g;subst b c d;have i:a=w.heap++a.extract w.heap.size a.size:=χ;have j:dr=w.drawn+(dr-w.drawn):=ω;show (⟨a,w.tape,dr,w.os,w.output⟩:World)=⟨w.heap++a.extract w.heap.size a.size,w.tape,w.drawn+(dr-w.drawn),w.os,w.output⟩;rw [<-i,<-j]
def tV {α:Type}[Inhabited α](enc:α->zA un)(k:Nat)(w:World)(b off m:Nat)(d:Array α)(os:Array Obj)(i:Nat)(hi:i<w.heap.size):(sortWorldK enc k w b off m d os).heap[i]?=if b=i then (w.heap[i]?).map (onCells (putCells id off (flatK enc k d))) else w.heap[i]?:=by show (((w.heap.modify b (onCells (putCells id off (flatK enc k d))))++os))[i]?=_;rw [Array.getElem?_append,Ä (by rw [Array.size_modify];exact hi),Array.getElem?_modify]
def R6 {α:Type}[Inhabited α](enc:α->zA un)(k:Nat)(y:∀x,(enc x).length=k)(d:Array α)(vs:zA un)(z:d.size*k<=vs.length)(i:Nat)(hi:i<d.size)(j:Nat)(x:un)(u:(enc d[i]!)[j]?=some x):(putCells id 0 (flatK enc k d) vs.toArray).toList[i*k+j]?=some x:=by have c:j<k:=by{have:=(Ġ.1 u).1;rw [y] at this;exact this};have lt:i*k+j<d.size*k:=by{have:=Ā k (show i+1<=d.size from hi);rw [đ,Ŋ] at this;omega};have a:(i*k+j)/k=i:=(blk_iff k i _ ω).1 ⟨ω,ω⟩;have b:(i*k+j)%k=j:=by{rw [Nat.mod_eq_sub_div_mul,a];omega};unfold putCells;rw [Array.getElem?_toList,Array.getElem?_mapIdx,List.getElem?_toArray,ñ ω,Ww2,Ä ⟨á _,by rw [size_flatK];omega⟩,Wk2,get_flatK _ _ _ _ lt,a,b];rw [Qt8,u];rfl
variable {P:Program} {ρ:Ren} {τ:Type} {R:Ó->Value->τ->Prop} {k g:Nat} {ty:TypeId} {cf:τ->τ->Int}
set_option maxHeartbeats 1000000 in
theorem Mx (L:SlLaysF0.n6 P ρ)(aE:∀w,(isAgg (ρ.t 24)).run P w=.ok true w)(zE:∀w,(Go.sizeOf (ρ.t 24)).run P w=.ok k w)(hR:∀{V V':ut} {v a},R V v a->V.Le V'->R V' v a)(hS:∀{V:ut} {v a},R V v a->∃xs:zA un,v=.agg xs.toArray/\xs.length=k/\∀x∈xs,x.oneCell'=true)(hO:SWO λx y=>decide (cf x y<0))(hc:∀{V:ut} {v w a b},R V v a->R V w b->aa P g #[v,w] V λr _=>r=Ô .i64 (cf a b)){V:ut}{lb n c:Nat}{vs:zA un}{l:zA τ}(hw:V.w.heap[lb]?=some (.cells vs.toArray ty (0,0)))(hx:V.X lb)(row:é k R V vs l)(hn:n=l.length)(h0:l≠[])(k0:0<k)(kj:l.length<1000000000):aa P (ρ.f 6) #[dB (some ⟨lb,0,none⟩) n c,.func (.func g) #[] #[]] V λr W=>r=æ #[]/\∃vs' l',W.w.heap[lb]?=some (.cells vs'.toArray ty (0,0))/\é k R W vs' l'/\l'.Perm l/\l'.Pairwise λx y=>¬cf y x<0:=by subst hn;have s:∀i:Fin l.length,∃e:WV R k V,e.1.2=l[i.1]/\∀j x,e.1.1[j]?=some x->vs[i.1*k+j]?=some x:=λi=>by{have ⟨xs,I,N,Y⟩:=row.at_ i.1 i.2;have ⟨Z,f1,f2,f3⟩:=hS N;have:xs=Z:=List.toArray_inj (Value.agg.inj f1);subst this;exact ⟨⟨(xs,l[i.1]),N,f2,f3⟩,rfl,Y⟩};obtain ⟨J,-,-⟩:=s ⟨0,(Qh2.2 h0)⟩;letI:Inhabited (WV R k V):=⟨J⟩;let enc:WV R k V->zA un:=λe=>e.1.1;have hk:∀x,(enc x).length=k:=λx=>x.2.2.1;let d:Array (WV R k V):=Array.ofFn λi=>Classical.choose (s i);have B:d.size=l.length:=Array.size_ofFn;have O:∀i (p:i<l.length),(d[i]!)=Classical.choose (s ⟨i,p⟩):=λi p=>by{rw [getElem!_pos d i ω];exact Array.getElem_ofFn _};have d1:∀i (p:i<l.length),(d[i]!).1.2=l[i]:=λi p=>by{rw [O i p];exact (Classical.choose_spec (s ⟨i,p⟩)).1};have d2:∀i (p:i<l.length) j x,(enc d[i]!)[j]?=some x->vs[i*k+j]?=some x:=λi p j x h=>by{rw [O i p] at h;exact (Classical.choose_spec (s ⟨i,p⟩)).2 j x h};have E:=aJ hw;have hH:HoldsK enc k V.w lb 0 d:=λt K=>by{rw [size_flatK] at K;have Jb:t/k<l.length:=by{rw [<-B];exact Nat.div_lt_of_lt_mul (by rw [Ĺ];exact K)};have hm:t%k<k:=Ě _ k0;rw [get_flatK _ _ _ _ K,Ĉ];have hg:(enc d[t/k]!)[t%k]?=some ((enc d[t/k]!)[t%k]!):=by{rw [Qt8,ñ (by rw [hk];exact hm)];rfl};have:=d2 _ Jb _ _ hg;rw [Nat.div_add_mod' t k] at this;unfold World.cell? World.frozen?;rw [hw];refine ⟨?_,?_⟩;{show (if (none:Option _).isSome=true then none else vs.toArray[t]?)=_;rw [Ã ψ,List.getElem?_toArray];exact this};grind};have hle:∀m (u:Array (WV R k V)) os (F:∀b,V.H b->b<(sortWorldK enc k V.w lb 0 m u os).heap.size) (X:Nat->Prop) (C:∀b,X b->V.H b),V.Le ⟨sortWorldK enc k V.w lb 0 m u os,V.H,X,F,C⟩:=λm u os F X C b o ⟨D,Q⟩=>by{refine ⟨D,?_⟩;rw [tV _ _ _ _ _ _ _ _ _ (aJ Q),Ã (show ¬lb=b from λe=>D (e▸V.hX _ hx))];exact Q};have G:∀m (u:Array (WV R k V)) os,V.w.heap.size<=(sortWorldK enc k V.w lb 0 m u os).heap.size:=λm u os=>size_sortWorldK_c ..;have hC:CmpLays P g #[] enc k (λx y=>cf x.1.2 y.1.2) lb 0 d.size V.w:=λm os u _ x y=>by{have S:∀b,V.H b->b<(sortWorldK enc k V.w lb 0 m u os).heap.size:=λb D=>ĺ (V.hH b D) (G m u os);have:=(hc (hR x.2.1 (hle m u os S (λ_=>False) λ_ h=>h.elim)) (hR y.2.1 (hle m u os S (λ_=>False) λ_ h=>h.elim))).2;refine this.s ?_<;>grind [GG]};have Qt:SWO (ltOf λ(x y:WV R k V)=>cf x.1.2 y.1.2):=⟨λx=>hO.irrefl _,λx y z=>hO.2 _ _ _,λx y z=>hO.3 _ _ _⟩;rw [<-B];refine ⟨?_,(AnyQ.slices_SortFunc L k aE zE enc hk (λx=>x.2.2.2) (λx y=>cf x.1.2 y.1.2) Qt g #[] lb 0 c d V.w (λargs w=>ik.run (hc J.2.1 J.2.1).1 args) hC hH E ω).s ?_⟩;{obtain ⟨nm,F,C⟩:=L.f6;exact ⟨_,C,rfl,F⟩};rintro e w' ⟨rfl,A,q,os,hp,hs,rfl⟩;obtain ⟨p1,-,T⟩:=hp;have U:=p1.m B;refine ⟨_,rfl,⟨G _ _ _,λb D hX=>?_,rfl,rfl,rfl,Qp9 _ _⟩,rfl,(putCells id 0 (flatK enc k A) vs.toArray).toList,A.toList.map λx=>x.1.2,?_,⟨λi p=>?_⟩,?_,?_⟩;{rw [tV _ _ _ _ _ _ _ _ _ D,Ã (show ¬lb=b from λe=>hX (e▸hx))]};{show (sortWorldK enc k V.w lb 0 q A os).heap[lb]?=_;rw [tV _ _ _ _ _ _ _ _ _ E,Ä rfl,hw,Array.toArray_toList];rfl};{rw [ĉ,Ww5] at p;refine ⟨enc A[i]!,hk _,?_,λj x hx=>R6 enc k hk A vs (by rw [U];exact (row.eM k0)) i p j x hx⟩;rw [Qr1,Qp8,getElem!_pos A i p];exact hR A[i].2.1 (hle q A os _ V.X V.hX)};{have I:∀a:Array (WV R k V),a.size=l.length->a.extract 0 d.size=a:=λa ha=>by{rw [B,<-ha];simp};rw [I _ U,I _ B] at T;have p4:=T.map λx=>x.1.2;have:d.toList.map (λx=>x.1.2)=l:=List.ext_getElem (by simp [B]) λi F C=>by{rw [Qr1,Qp8,<-getElem!_pos d i ω];exact d1 i C};rwa [this] at p4};{refine Qm2.2 λi j p W M=>?_;rw [ĉ,Ww5] at p W;have:=hs i j (á _) M ω;rw [Qr1,Qr1,Qp8,Qp8,<-getElem!_pos A i p,<-getElem!_pos A j W];exact Â this}
end Go.Eng
namespace Go.Proofs.Tryz
open Go.Eng Go.Proofs Go.Shelf Go.RowKit Go.Lib Go.Sort
def Ō.swo {τ:Type}{c:τ->τ->Int}(h:Ō c):SWO λx y=>decide (c x y<0):=
 ⟨λx=>È (h.refl x),λx y z a b=>Ç (Decidable.byContradiction λn=>h.tr _ _ _ n (h.Yp _ _ (Á b)) (Á a)),
  λx y z a b=>È (h.tr _ _ _ (Â a) (Â b))⟩
variable {P:Program} {ρ:Ren} {τ:Type} {R:Ó->Value->τ->Prop} {k g:Nat} {ty:TypeId} {cf:τ->τ->Int}
theorem rZ (L:SlLaysF0.n6 P ρ){V:ut}{p:OA}{c:Nat}{u:un}:aa P (ρ.f 6) #[dB p 0 c,u] V λr W=>r=æ #[]/\W=V:=by refine ⟨?_,(AnyF.slices_SortFunc_none L p c u V.w).s ?_⟩;{obtain ⟨d,a,b⟩:=L.f6;exact ⟨_,b,rfl,a⟩};rintro e g ⟨rfl,rfl⟩;exact ⟨_,rfl,j_.refl _ _,rfl,rfl⟩
theorem Cp (L:SlLaysF0.n6 P ρ)(D:∀w,(isAgg (ρ.t 24)).run P w=.ok true w)(E:∀w,(Go.sizeOf (ρ.t 24)).run P w=.ok k w)(F:∀{V V':ut} {v a},R V v a->V.Le V'->R V' v a)(N:∀{V:ut} {v a},R V v a->∃xs:zA un,v=.agg xs.toArray/\xs.length=k/\∀x∈xs,x.oneCell'=true)(O:Ō cf)(Z:∀{V:ut} {v w a b},R V v a->R V w b->aa P g #[v,w] V λr _=>r=Ô .i64 (cf a b))(k0:0<k){V:ut}{lb n c:Nat}{vs:zA un}{l:zA τ}(hw:V.w.heap[lb]?=some (.cells vs.toArray ty (0,0)))(hx:V.X lb)(row:é k R V vs l)(z:n=l.length)(kj:l.length<1000000000:=by omega):aa P (ρ.f 6) #[dB (some ⟨lb,0,none⟩) n c,.func (.func g) #[] #[]] V λr W=>r=æ #[]/\∃u l',W.w.heap[lb]?=some (.cells u.toArray ty (0,0))/\é k R W u l'/\l'.Perm l/\l'.Pairwise λx y=>¬cf y x<0:=by by_cases d:l=[];{subst d z;refine (rZ L).s ?_;rintro r V' e ⟨rfl,rfl⟩;exact ⟨rfl,vs,[],hw,row,.refl _,.nil⟩};{exact Mx (R:=R) (cf:=cf) L D E F N O.swo Z hw hx row z d k0 kj}
end Go.Proofs.Tryz
namespace Go.Proofs.Tryz
variable{b n:Nat}{vs:List Value}{l:List L3}{V:Ó}{p:OA}
structure Qp (V:Ó) (n:Nat) (vs:List Value) (l:List L3):Prop where
 row:é 9 mF V vs l
 len:n=l.length
 kj:l.length<4000
theorem Qp.le {V V':ut}(h:Qp V n vs l)(e:V.Le V'):Qp V' n vs l:=⟨h.row.le λ_ _ g=>mF.le g e,h.len,h.kj⟩
theorem Qp.get (h:Qp V n vs l){k:Nat}(N:k<l.length):∃(x y:Int)(p:OA)(u z:Int)(D:OA)(xc E:Int)(F:OA),((0+k*9)+9<=vs.length/\(vs.drop (0+k*9)).take 9=[Ô .i64 x,Ô .i64 y,qyQ p,Ô .i64 u,Ô .i64 z,qyQ D,Ô .i64 xc,Ô .i64 E,qyQ F])/\mF V (qvK #[Ô .i64 x,Ô .i64 y,qyQ p,Ô .i64 u,Ô .i64 z,qyQ D,Ô .i64 xc,Ô .i64 E,qyQ F]) (l.getD k IW):=by obtain ⟨xs,-,a,b,c⟩:=h.row.get (d:=IW) N φ;obtain ⟨x,y,p,u,z,D,xc,E,F,e⟩:=a.shape;have e:=Æ Array.toList (Value.agg.inj e);dsimp only at e;subst e;rw [Ĉ];exact ⟨x,y,p,u,z,D,xc,E,F,⟨b,c⟩,a⟩
theorem mF.cells {v:un}{c:L3}(h:mF V v c):∃xs:zA un,v=.agg xs.toArray/\xs.length=9/\∀x∈xs,x.oneCell'=true:=by obtain ⟨_,_,_,_,_,_,_,_,_,rfl⟩:=h.shape;exact ⟨_,rfl,rfl,ĥ.1 rfl⟩
theorem Iv {lb c:Nat}(hw:V.w.heap[lb]?=some (.cells vs.toArray 95 (0,0)))(z:V.X lb)(h:Qp V n vs l):À 159 #[dB (some ⟨lb,0,none⟩) n c,.func (.func 160) #[] #[]] V λr W=>r=æ #[]/\∃u l',W.w.heap[lb]?=some (.cells u.toArray 95 (0,0))/\Qp W n u l'/\l'.Perm l/\l'.Pairwise λx y=>¬Uo y x<0:=by have kj:=h.kj;refine (Cp (R:=mF) (cf:=Uo) FJ aggL sizL mF.le mF.cells Te Lh φ hw z h.row h.len).s λr V' b ⟨rfl,u,l',e,row,pm,a⟩=>⟨rfl,u,l',e,⟨row,h.len.m pm.length_eq.symm,by rw [pm.length_eq];exact kj⟩,pm,a⟩
theorem yK:À 159 #[dB none 0 0,.func (.func 160) #[] #[]] V λr W=>r=æ #[]:=
 (rZ FJ).s λ_ _ _ h=>h.1
set_option maxHeartbeats 1000000 in
theorem AE {lb c:Nat}(hw:V.w.heap[lb]?=some (.cells vs.toArray 95 (0,0)))(hx:V.X lb)(h:Qp V n vs l)(hc:n<=c):À 161 #[dB (some ⟨lb,0,none⟩) n c,.func (.func 162) #[] #[]] V λr W=>∃vs',r=dB (some ⟨lb,0,none⟩) (ie eL l).length c/\W.w.heap[lb]?=some (.cells vs'.toArray 95 (0,0))/\é 9 mF W vs' (ie eL l)/\vs'.length=vs.length:=by
 have kj:=h.kj;have len:=h.len;have a3:=h.row.eM φ;refine nU lb n c vs V _ hw hx ⟨λA V1 l1 N=>?_,λA=>⟨λz V'=>∃k:Nat,z=((k+1:Nat):Int)/\k+1<=n/\ie eL (l.take (k+1))=l.take (k+1),λz=>n-z.toNat,⟨1,σ,0,rfl,by have:=Â A;omega,uZ (by rw [è];omega)⟩,?_⟩⟩
 ·have A:=Á A;have e:=uZ (e:=eL) (l:=l);rw [e,<-len];exact ⟨vs,rfl,N,h.row.le λ_ _ g=>mF.le g l1,rfl⟩
 have A:=Â A;rintro z V2 l2 ⟨k,rfl,hk,p⟩;have L:=h.le l2;refine ⟨rfl,λb=>?_,λb V9 l9 O=>?_⟩;rotate_left
 ·have b:=Â b;have e:l.take (k+1)=l:=Ŕ ω;rw [e] at p;rw [p,<-len];exact ⟨vs,rfl,O,h.row.le λ_ _ g=>mF.le g au,rfl⟩
 have b:=Á b;have w1:i64.wrap (((k+1:Nat):Int)-1)=(k:Int):=by rw [ao ω];omega
 have w2:i64.wrap (((k+1:Nat):Int)+1)=((k+1+1:Nat):Int):=by rw [ao ω];rfl
 rw [w1,w2,Ü,Ü];obtain ⟨B,C,D,E,F,G,H,I,f,M,r1⟩:=L.get (k:=k+1) ω;obtain ⟨P,Q,R,S,T,U,W,Y,v,Z,r2⟩:=L.get (k:=k) ω;refine ⟨⟨ω,b⟩,B,C,D,E,F,G,H,I,f,M,⟨ω,ω⟩,P,Q,R,S,T,U,W,Y,v,Z,λV3 l3=>(Rm ra ra).s ?_⟩;rintro r V4 l4 rfl;have step:=kJ (e:=eL) (d:=IW) (l:=l) (k:=k);refine ⟨_,rfl,λhe=>⟨⟨ω,ω⟩,?_⟩,λhe=>⟨((k+1+1:Nat):Int),by dsimp only;omega,σ,k+1,rfl,ω,?_⟩⟩;rotate_left
 ·have s:=he;rw [step,p,s];show l.take (k+1)++[_]=_;have J:k+1<l.length:=ω;rw [show l.getD (k+1) IW=l[k+1] by rw [Ė,ñ J];rfl,ŀ J]
 have s:=he;have so:∀{m:Nat},m<c->pO 0 c m 9=m*9:=λhm=>by unfold pO;rw [Ã ω,Ĉ]
 refine ⟨λz V'=>∃(q t:Nat)(m:zA L3),z.1=(q:Int)/\z.2.1=((t+1:Nat):Int)/\q<=k+1+t/\k+1+t+1<=n/\Qp V' n z.2.2 m/\z.2.2.length=vs.length/\(∀i,k+1+t<=i->m.getD i IW=l.getD i IW)/\m.take q=ie eL (l.take (k+1+t+1)),λz=>n-z.2.1.toNat,
  ⟨(((k+1:Nat):Int),1,vs),σ,k+1,0,l,rfl,rfl,ω,ω,ra,rfl,λi _=>rfl,?_⟩,?_⟩
 ·rw [ě,step,s,Ä rfl,þ,p]
 rintro ⟨zq,zt,us⟩ V5 l5 ⟨q,t,m,e1,e2,hq,ht,u,Pw,hm,K⟩;dsimp only at e1 e2 u Pw;subst e1 e2;dsimp only;have ml:=u.len;have a4:=u.row.eM φ;refine ⟨rfl,λa=>?_,λa=>?_⟩
 ·have a:=Á a;have w3:i64.wrap (((t+1:Nat):Int)-1)=(t:Int):=by{rw [ao ω];omega};have w4:i64.wrap (((t+1:Nat):Int)+1)=((t+1+1:Nat):Int):=by{rw [ao ω];rfl};have w5:i64.wrap ((q:Int)+1)=((q+1:Nat):Int):=by{rw [ao ω];rfl};rw [w3,w4,w5,Ü,Ü,Ü,so ω];obtain ⟨B,C,D,E,F,G,H,I,f,M,r1⟩:=u.get (k:=k+1+(t+1)) ω;obtain ⟨P,Q,R,S,T,U,W,Y,v,Z,r2⟩:=u.get (k:=k+1+t) ω;have a1:(k+1)*9+(t+1)*9=0+(k+1+(t+1))*9:=ω;have a2:(k+1)*9+t*9=0+(k+1+t)*9:=ω;rw [a1,a2];rw [hm _ ω] at r1;rw [hm _ ω] at r2;refine ⟨⟨ω,a⟩,B,C,D,E,F,G,H,I,f,M,⟨ω,ω⟩,P,Q,R,S,T,U,W,Y,v,Z,λV6 l6=>(Rm ra ra).s ?_⟩;rintro r V7 l7 rfl;have XK:=l6.m l7;have j:=kJ (e:=eL) (d:=IW) (l:=l) (k:=k+1+t);refine ⟨_,rfl,λhn=>⟨⟨ω,a⟩,B,C,D,E,F,G,H,I,f,M,⟨ω,ω⟩,ω,(((q+1:Nat):Int),((t+1+1:Nat):Int),_),by dsimp only;omega,σ,q+1,t+1,m.set q (l.getD (k+1+(t+1)) IW),rfl,rfl,ω,ω,?_,?_,λi J=>?_,?_⟩,λhn=>⟨(((q:Nat):Int),((t+1+1:Nat):Int),us),by dsimp only;omega,σ,q,t+1,m,rfl,rfl,ω,ω,ra,Pw,λi J=>hm i ω,?_⟩⟩;{refine ⟨?_,by rw [Qf3];exact ml,by rw [Qf3];exact u.kj⟩;have:=(u.le XK).row.put (i:=q) ω φ (xs:=[Ô .i64 B,Ô .i64 C,qyQ D,Ô .i64 E,Ô .i64 F,qyQ G,Ô .i64 H,Ô .i64 I,qyQ f]) rfl ra;dsimp only;rw [Ĉ];exact this};{exact (qR (vs:=us) (xs:=[Ô .i64 B,Ô .i64 C,qyQ D,Ô .i64 E,Ô .i64 F,qyQ G,Ô .i64 H,Ô .i64 I,qyQ f]) (o:=0+q*9) (by show 0+q*9+9<=_;omega)).m Pw};{rw [Ė,Qm3 ω,<-Ė];exact hm i ω};{have x:eL (l.getD (k+1+(t+1)) IW) (l.getD (k+1+t) IW)=false:=by{simpa using hn};have y:eL (l.getD (k+1+t+1) IW) (l.getD (k+1+t) IW)=false:=x;have J:q<m.length:=ω;rw [show k+1+(t+1)+1=k+1+t+2 from rfl,j,y,<-K,Ã φ];rw [Qp4,Ĭ,ñ J,show (some m[q]).toList=[m[q]] from rfl];rw [List.set_append_right _ _ (by rw [è];omega),è,ğ ω,Nat.sub_self];rfl};{have x:eL (l.getD (k+1+(t+1)) IW) (l.getD (k+1+t) IW)=true:=by{simpa using hn};have y:eL (l.getD (k+1+t+1) IW) (l.getD (k+1+t) IW)=true:=x;rw [show k+1+(t+1)+1=k+1+t+2 from rfl,j,y,Ä rfl,þ,K]}
 ·have a:=Â a;have hl:l.take (k+1+t+1)=l:=Ŕ ω;rw [hl] at K;have a5:q<n:=by{have:=Nv (e:=eL) (d:=IW) (l:=l) (k:=k) ω s;rw [<-K,è] at this;omega};rw [Ü,so ω];have hz:q*9+(n-q)*9=n*9:=by{rw [<-đ];congr 1;omega};rw [hz];refine ⟨⟨ω,ω⟩,ω,⟨ω,ω⟩,λV8 l8 a0=>⟨_,?_,a0,?_,?_⟩⟩;{rw [<-K,è,ğ ω]};{rw [<-K,Ĕ];exact (u.row.le λ_ _ g=>mF.le g l8).Nt ω φ};{simp only [ë,è,ī,oX,Ww4,Wx7,List.sum_replicate_nat,Ą,İ];omega}
theorem tJ:À 161 #[dB none 0 0,.func (.func 162) #[] #[]] V λr W=>r=dB none 0 0:=
 kF V _ ⟨λ_ a b=>rfl,λh=>Å (Â h) φ⟩
def Ic (m:Nat):Prop:=(m=0->∀{V:Ó},À 161 #[.slice none 0 0,.func (.func 162) #[] #[]] V λr W=>r=.slice none 0 0) /\
 ∀{V:Ó} {lb n c:Nat} {vs:List Value} {l:List L3},l.length=m->V.w.heap[lb]?=some (.cells vs.toArray 95 (0,0))->V.X lb->Qp V n vs l->n<=c ->
 À 161 #[.slice (some ⟨lb,0,none⟩) n c,.func (.func 162) #[] #[]] V λr W=>∃u,r=.slice (some ⟨lb,0,none⟩) (ie eL l).length c/\W.w.heap[lb]?=some (.cells u.toArray 95 (0,0))/\é 9 mF W u (ie eL l)/\u.length=vs.length
theorem Rq (m:Nat):Ic m:=⟨λ_=>tJ,λ_ hw a h b=>AE hw a h b⟩
def F4 (m:Nat):Prop:=∀{V:Ó} {lb n c:Nat} {vs:List Value} {l:List L3},l.length=m->V.w.heap[lb]?=some (.cells vs.toArray 95 (0,0))->V.X lb->Qp V n vs l ->
 À 159 #[.slice (some ⟨lb,0,none⟩) n c,.func (.func 160) #[] #[]] V λr W=>r=.tuple #[]/\∃u l',W.w.heap[lb]?=some (.cells u.toArray 95 (0,0))/\Qp W n u l'/\l'.Perm l/\l'.Pairwise λx y=>¬Uo y x<0
theorem My (m:Nat):F4 m:=λ_ hw a h=>Iv hw a h
theorem Jm {P:Prop}(h:P->V.H b):V.Le (V.shut.bz P b):=λx o g=>⟨λa=>by
 rcases a with a|a
 ·exact g.1 a
 ·rw [a.2.1] at g;exact g.1 (h a.1),g.2⟩
theorem aa.XO {f:FuncId}{args:Array un}{R u:un->ut->Prop}(h:À f args V R)(y:∀r V',V.Le V'->(∀b,V.H b->V'.H b)->R r V'->u r V'):À f args V u:=
 ⟨h.1,h.2.s λ_ c ⟨r,he,a,d⟩=>⟨r,he,a,y r _ (V.Sx c a) (λ_ e=>e) d⟩⟩
theorem LH {V':ut}{P:Prop}(h:V.Le (V'.bz True b)):V.Le (V'.bz P b):=λx o a=>
 ⟨λc=>(h x o a).1 (c.imp id λe=>⟨trivial,e.2⟩),(h x o a).2⟩
theorem Pu {V':ut}{P:Prop}(h:V.Le V')(n:¬P):V.Le (V'.bz P b):=λx o a=>
 ⟨λc=>(h x o a).1 (c.elim id λe=>Å e.1 n),(h x o a).2⟩
def bN (l:L3):L3:=if l.1<0\/l.1=0/\l.2.1<0 then Ö l else l
def Tr.di:Tr->List L3
 | .leaf _=>[]
 | .node l a b=>l::(a.di++b.di)
theorem jv:∀t:Tr,t.di.length=t.size
 | .leaf _=>rfl
 | .node _ a b=>by simp only [Tr.di,Ą,ë,jv a,jv b,Tr.size]
theorem ju {p:L3->Prop}:∀{t:Tr},t.dJ p->∀x∈t.di,p x
 | .leaf _,_,x,h=>by cases h
 | .node l a b,⟨u,y,z⟩,x,h=>by
  rcases ê.1 h with rfl|h
  ·exact u
  ·rcases ø.1 h with h|h
   ·exact ju y x h
   ·exact ju z x h
theorem Bd.rev {l:L3}(h:Bd l):Bd (Ö l):=by obtain ⟨a,b,c⟩:=h;unfold Bd Ö;simp only [ť];exact ⟨a,b,c⟩
theorem Bd.can {l:L3}(h:Bd l):Bd (bN l):=by unfold bN;split;{exact h.rev};{exact h}
theorem Bd.e_ {l:L3}(h:Bd l):iJ 1000 l:=⟨h.sz.1,h.sz.2.1,h.sz.2.2⟩
theorem Nr {l:L3}:(PN [((l.1:Rat)).num.sign,((l.2.1:Rat)).num.sign]<0)↔(l.1<0\/l.1=0/\l.2.1<0):=by rw [Qg9,Qg9];simp only [PN];grind
theorem Iz {v:un}{l:L3}(h:mF V v l):À 158 #[v] V λr W=>∃w b,r=æ #[w,Õ b]/\mF W w (bN l):=by have f:=h;obtain ⟨⟨n,o,p,s,t,q,u,x,r,rfl,y,z,A⟩,c⟩:=h;obtain ⟨s1,s2,s3⟩:=c.sz;refine zu V _ λB C=>(pV ra s1).s ?_;rintro r V2 D rfl;refine ⟨_,rfl,λE F=>(pV ra s2).s ?_⟩;rintro r G H rfl;refine ⟨_,rfl,λI K M d=>(Iy (l:=[((l.1:Rat)).num.sign,((l.2.1:Rat)).num.sign]) rfl (λi v j=>⟨_,rfl,by rw [add_zero'];exact dD (xs:=Vy [((l.1:Rat)).num.sign,((l.2.1:Rat)).num.sign]) d j⟩) ψ).s ?_⟩;rintro r N O rfl;refine ⟨_,rfl,λJ=>⟨λa P Q=>(kK (L:=l) ((f.le au).1) c.e_ φ).s ?_,λa R k=>?_⟩⟩;{have a:=Nr.1 (Á a);rintro r m S g;have e:mF m r (Ö l):=⟨g,c.rev⟩;grind [e.shape,bN,e.le]};{have a:=Â a;refine ⟨_,_,rfl,?_⟩;unfold bN;rw [Ã λh=>a (Nr.2 h)];exact ra}
theorem one9 {a b:Int}{c d:Int}{q:OA}{e f:Int}{r:OA}:∀v∈([Ô .i64 a,Ô .i64 b,qyQ p,Ô .i64 c,Ô .i64 d,qyQ q,Ô .i64 e,Ô .i64 f,qyQ r]:zA un),v.oneCell'=true:=by intro v hm;simp only [ê,ę,Ì] at hm;rcases hm with rfl|rfl|rfl|rfl|rfl|rfl|rfl|rfl|rfl<;>rfl
def WQ:Tr->List L3
 | .leaf _=>[]
 | .node l _ _=>[bN l]
theorem Gf {V:ut}{t:Tr}{Z lb n c:Nat}{l:zA L3}(h:RT V p t)(ha:t.dJ Bd)(hw:V.w.heap[Z]?=some (.cells #[dB (mA lb c) n c] 171 (0,0)))(hx:V.X Z)(hv:vs≠[]->V.w.heap[lb]?=some (.cells vs.toArray 95 (0,0)))(hxv:vs≠[]->V.X lb)(hne:vs≠[]->Z≠lb)(hg:GR 9 mF V n c vs l)(hp:vs≠[]->0<n)(hn:n<=1000000:=by omega):À 157 #[qyQ p,qyQ (some ⟨Z,0,none⟩)] V λr V'=>∃(bm:Nat)(vm:zA un)(n' c':Nat),(vm≠[]->V'.w.heap[bm]?=some (.cells vm.toArray 95 (0,0)))/\(vm≠[]->V.w.heap.size<=bm\/(vs≠[]/\bm=lb))/\r=æ #[]/\V'.w.heap[Z]?=some (.cells #[dB (mA bm c') n' c'] 171 (0,0))/\GR 9 mF (V'.bz (vm≠[]) bm) n' c' vm (l++WQ t)/\(vm≠[]->0<n'):=by refine xM p Z lb n c vs V _ hw hx hv hxv hne λQ e=>(dN (h.le e)).s ?_;rintro r V2 s rfl;have u:∀{A B:Prop},A\/B\/False->A\/B:=λh=>h.imp id λh=>h.elim id False.elim;refine ⟨_,rfl,λf=>?_,λf R k hle m o q=>⟨k,vs,n,c,o,λh=>u (q h),rfl,m,?_,hp⟩⟩;{(cases t with|leaf i=>{cases f}|node ln a b=>{obtain ⟨x,z,C,D,E,F,G,H,I,J,pl,K,i,rfl,L,M,-,-⟩:=h.le (e.m s);have d:∀j v,([Ô .i64 z,Ô .i64 C,qyQ D,Ô .i64 E,Ô .i64 F,qyQ G,Ô .i64 H,Ô .i64 I,qyQ J,qyQ pl,qyQ K,Õ i]:zA un)[j]?=some v->V2.at ((⟨x,0,none⟩:Addr).add j) v:=by{intro j v hv;rw [add_zero'];exact dD (xs:=[_,_,_,_,_,_,_,_,_,_,_,_]) L hv};refine ⟨rfl,rfl,_,_,_,_,_,_,_,_,_,⟨x,0,none⟩,rfl,d 0 _ rfl,d 1 _ rfl,d 2 _ rfl,d 3 _ rfl,d 4 _ rfl,d 5 _ rfl,d 6 _ rfl,d 7 _ rfl,d 8 _ rfl,λS T=>(Iz (l:=ln) ⟨ra,ha.1⟩).s ?_⟩;rintro r N U ⟨w,b,rfl,y⟩;obtain ⟨_,_,_,_,_,_,_,_,_,rfl⟩:=y.shape;refine ⟨_,_,_,_,_,_,_,_,_,_,rfl,ω,hg.le,hg.cap,rfl,one9,λsp c' O P W k hle m o q=>⟨k,_,n+1,c',o,λh=>u (q h),rfl,m,?_,λ_=>Nat.succ_pos n⟩⟩;exact ((hg.s (V':=N) λ_ _ g=>mF.le g au).snoc rfl y φ O P).s λ_ _ g=>mF.le g hle})};{(cases t with|node ln a b=>{cases f}|leaf i=>{show GR 9 mF _ n c vs (l++[]);rw [þ];exact hg.s λ_ _ g=>mF.le g ((e.m s).m hle)})}
def VL:List Tr->List L3
 | []=>[]
 | t::r=>t.di.map bN++VL r
theorem SB (ts:zA Tr)(x:Tr):VL (ts++[x]).reverse=x.di.map bN++VL ts.reverse:=by rw [List.reverse_append];rfl
theorem wS {V:ut}{t:Tr}{ob lb:Nat}(h:RT V p t)(ha:t.dJ Bd)(hs:t.size<=400000)(hw:V.w.heap[ob]?=some (.cells #[dB (mA lb 0) 0 0] 171 (0,0)))(hx:V.X ob):À 156 #[qyQ p,.func (.func 157) #[] #[qyQ (some ⟨ob,0,none⟩)]] V λr V'=>∃(bm:Nat)(vm:zA un)(n' c':Nat),(vm≠[]->V'.w.heap[bm]?=some (.cells vm.toArray 95 (0,0)))/\(vm≠[]->V.w.heap.size<=bm)/\r=æ #[]/\V'.w.heap[ob]?=some (.cells #[dB (mA bm c') n' c'] 171 (0,0))/\GR 9 mF (V'.bz (vm≠[]) bm) n' c' vm (t.di.map bN)/\(vm≠[]->0<n'):=by
 refine sJ p ob lb 0 0 [] V _ hw hx (λh=>Å rfl h) (λh=>Å rfl h) (λh=>Å rfl h) ⟨λz k V'=>∃(d:zA Tr)(o:zA L3),z.1=d.length/\z.1<=z.2.1/\z.2.1<=z.2.2.1.length/\Yh V' z.2.2.1 d/\(∀x∈d,x.dJ Bd)/\GR 9 mF V' z.2.2.2.1 z.2.2.2.2.1 z.2.2.2.2.2 o/\(z.2.2.2.2.2≠[]->0<z.2.2.2.1)/\o++VL d.reverse=t.di.map bN/\k=KY d/\k<=2*t.size+1,
  ⟨(1,1,[qyQ p],0,0,[]),2*t.size+1,⟨by and_intros<;>first|rfl|trivial|omega,[t],[],rfl,Ù _,Ù _,?_,λx hx=>by rw [ö.1 hx];exact ha,GR.nil,(λh=>Å rfl h),by simp [VL],by simp [KY],Ù _⟩⟩,?_⟩
 ·intro i x hx
  match i,hx with
  | 0,hx=>cases hx;exact ⟨p,rfl,h⟩
  | n+1,hx=>cases hx
 ·rintro ⟨n,c,vs,n',c',us⟩ m V1 l1 ⟨d,o,h1,S,T,f,D,H,e,I,h6,h7⟩;dsimp only at h1 S T f H e ⊢;have a0:=VT d
  have a6:o.length<=1000000:=by have:=Æ List.length I;rw [ë,ĉ,jv] at this;omega
  have gl:=H.len;refine ⟨θ,λE=>?_,λE V6 bk hle J K e3=>?_⟩
  ·have E:0<n:=by simpa using E
   have w1:i64.wrap ((n:Int)-1)=((n-1:Nat):Int):=by rw [ao ω];omega
   rw [w1];simp only [Ĝ];have A:n-1<d.length:=ω
   have ⟨q,M,j⟩:=f (n-1) d[n-1] (ñ A)
   have B:d=d.take (n-1)++[d[n-1]]:=by rw [ŀ A,Ŕ ω]
   have s:=D _ (ó A);generalize d[n-1]=x at j B s
   have J:o++(x.di.map bN++VL (d.take (n-1)).reverse)=t.di.map bN:=by rw [<-SB,<-B];exact I
   have K:KY d=KY (d.take (n-1))+(2*x.size+1):=by
    conv=>lhs;rw [B]
    rw [BQ];simp [KY]
   have F:∀y∈d.take (n-1),y.dJ Bd:=λy u=>D y (Qb3 u);refine ⟨⟨ω,ω⟩,S,q,M,⟨ω,ω⟩,λV2 N Nj U f1 f2 f3 f4 f5=>(Gf (V:=V2.ar [Nj,vb us V2.w.heap.size U]) (lb:=U) (l:=o) (RT.le (V:=V1) (V':=V2.ar _) (λb o h=>N b o h) j) s f1 ⟨ψ,f2⟩ f3 (λh=>⟨by simp [pC h],f4 h⟩) f5 (H.s (V':=V2.ar _) λ_ _ g=>mF.le g λb o h=>N b o h) e).s ?_⟩;rintro r V3 l3 ⟨bm,vm,O,P,a1,W,rfl,a3,a4,Y⟩;refine ⟨bm,vm,a1,W,rfl,O,P,a3,λV4 Z=>?_⟩;have pk:V2.Le V3:=λb o h=>l3 b o h;have gj:=N.m ((BC (V':=V2) pk (Ó.Le.refl V2) λh=>(W h).imp id λh'=>by rw [h'.2];exact f4 h'.1).m Z);refine (dN (j.le gj)).s ?_;rintro r V5 l5 rfl;have g5:=a4.s λ_ _ g=>mF.le g λb o h=>l5 b o (Z b o h);refine ⟨_,rfl,λC=>?_,λC=>?_⟩
   ·have C:x.qw=false:=by{simpa using C};(cases x with|leaf i=>{cases C}|node ln a b=>{obtain ⟨bb,x1,x2,x3,y1,y2,y3,z1,z2,z3,pl,pr,i,rfl,hb,hl,Q,R⟩:=j;have G:=(gj.m l5) _ _ hb;simp only [Tr.size] at K;refine ⟨rfl,rfl,pr,yY G 10 rfl,rfl,rfl,pl,yY G 9 rfl,ω,ω,ω,rfl,by intro v hv;simp at hv;rcases hv with rfl|rfl<;>rfl,λsp c' k1 k2=>?_⟩;(refine ⟨(n-1+2,c',_,O,P,vm),KY (d.take (n-1))+(2*a.size+1)+(2*b.size+1),ω,⟨by and_intros<;>first|rfl|trivial,d.take (n-1)++[b,a],o++WQ (.node ln a b),?_,k1,?_,(f.le au).Wl ω ω (R.le au) (Q.le au),λy u=>?_,g5,Y,?_,?_,ω⟩⟩);{simp;omega};{dsimp only;simp only [ë,è,Ą];omega};{rcases ø.1 u with u|u;{exact F y u};{simp only [ê,ę,Ì] at u;rcases u with rfl|rfl;{exact s.2.2};{exact s.2.1}}};{rw [<-J];have:VL (d.take (n-1)++[b,a]).reverse=a.di.map bN++(b.di.map bN++VL (d.take (n-1)).reverse):=by{rw [List.reverse_append];rfl};rw [this];simp only [Tr.di,WQ,Ķ,Ń,Ĕ,Qc2,Ŏ]};{rw [BQ];simp [KY];omega}})
   ·have C:x.qw=true:=by{simpa using C};(cases x with|node ln a b=>{cases C}|leaf i=>{simp only [Tr.size] at K;(refine ⟨(n-1,c,vs,O,P,vm),KY (d.take (n-1)),ω,⟨by and_intros<;>first|rfl|trivial,d.take (n-1),o,?_,by dsimp only;omega,T,λi t L=>?_,F,by simpa [WQ] using g5,Y,by simpa [Tr.di] using J,rfl,ω⟩⟩);{simp;omega};{rw [Ħ] at L;split at L;{exact (f.le au) i t L};{cases L}}})
  ·have E:n=0:=by{simpa using E};have:d=[]:=ĝ.1 ω;subst this;simp only [List.reverse_nil,VL,þ] at I;rw [<-I];refine ⟨bk,us,n',c',K,λh=>?_,rfl,J,H.s λ_ _ g=>mF.le g hle,e⟩;rcases e3 h with h|h|h;{exact h};{exact Å rfl h.1};{exact h.elim}
def X1 (l m:List L3):Prop:=m.Perm l/\m.Pairwise λx y=>¬Uo y x<0
theorem Ix {t:Tr}(h:RT V p t)(ha:t.dJ Bd)(hs:t.size<4000)(sl:F4 t.di.length)(cl:Ic t.di.length):À 86 #[qyQ p] V λr W=>∃q n c m,r=dB q n c/\bo 9 mF W q n (ie eL m)/\X1 (t.di.map bN) m:=by refine CG V _ ⟨λz _=>z=(0,0,[]),⟨(0,0,[]),σ,rfl⟩,?_⟩;rintro z V1 K rfl;dsimp only;refine ⟨rfl,λV2 L M B N O g3 g4 g5=>(wS (V:=V2.ar [M,vb [] V2.w.heap.size B]) (lb:=B) (RT.le (V:=V) (V':=V2.ar _) (λb o h=>L b o (K b o h)) h) ha ω N ⟨ψ,O⟩).s ?_⟩;rintro r V3 l3 ⟨P,v,n,c,Q,R,rfl,S,u,T⟩;refine ⟨P,v,Q,λh=>.inl (R h),rfl,n,c,S,λj=>?_,λj C U D E F=>?_⟩;{subst j;have W:=u.cap;have hle:=u.le;have hlen:=u.len;have X:c=0:=by{simp at W;omega};subst X;have Y:n=0:=ω;subst Y;have i:=ĝ.1 hlen.symm;refine ⟨rfl,λV4 l4=>yK.s ?_⟩;rintro r V5 l5 rfl;refine ⟨rfl,λV6 l6 Yt E F=>(cl.1 (by rw [<-ĉ (f:=bN),i];rfl)).s ?_⟩;rintro r V7 l7 rfl;refine ⟨0,[],λh=>Å rfl h,λh=>Å rfl h,none,0,0,rfl,λV8 l8 UK G=>⟨_,_,_,[],rfl,bo.nil,?_⟩⟩;rw [i];exact ⟨.refl _,List.Pairwise.nil⟩};{have a:=u.s λ_ _ g=>mF.le g λb o h=>U b o h;have hlen:=a.len;have x:(t.di.map bN).length<4000:=by{rw [ĉ,jv];exact hs};have H:=a.cap;have hle:=a.le;have Z:=T j;have y:c≠0:=ω;have A:∀b,mA b c=some ⟨b,0,none⟩:=λb=>by{unfold mA;rw [Ã y]};rw [A];refine (sl (V:=C.ar [vb v C.w.heap.size D]) (lb:=D) (vs:=v) (l:=t.di.map bN) (ĉ ..) (E j) ⟨by simp [pC j],F j⟩ ⟨a.row.le λ_ _ g=>mF.le g λb o h=>h,hlen,x⟩).s ?_;rintro r fo a0 ⟨rfl,d,m,G,sr,pm,pw⟩;have I:=pm.length_eq;have k:d≠[]:=λe=>by{have:=sr.row.eM φ;rw [e,I,<-hlen] at this;simp at this;omega};refine ⟨rfl,j,d,k,G,λJ dy s f1 f2=>?_⟩;rw [A];refine aa.XO (cl.2 (V:=J.ar [vb d J.w.heap.size s]) (lb:=s) (vs:=d) (l:=m) (I.m (ĉ ..)) (f1 k) ⟨by simp [pC k],f2 k⟩ (sr.le λb o h=>dy b o h) hle) ?_;rintro r gT dX hH ⟨ws,rfl,e4,row,wl⟩;have hk:=A8 (e:=eL) (l:=m);refine ⟨s,ws,λ_=>e4,λ_=>.inr ⟨k,rfl⟩,some ⟨s,0,none⟩,(ie eL m).length,c,by rw [A],λiL dS K8 f3=>⟨_,_,_,m,rfl,?_,pm,pw⟩⟩;exact bo.bq f3 (row.le λ_ _ g=>mF.le g ((Jm λ_=>hH s (f2 k)).m dS)) φ ω}
end Go.Proofs.Tryz
namespace Go.Proofs.Tryz.aV
def nv (l:L3)(v:V2):Rat:=(l.1:Rat)*v.1+(l.2.1:Rat)*v.2
def cG (l:L3):V2:=((l.2.1:Rat),-(l.1:Rat))
def S3 (l:L3)(v:V2):nv l v=cr (cG l) v:=by unfold nv cr cG;grind
def J3 (l:L3)(p v:V2):Int:=if (aC l p.1 p.2).num.sign=0 then (nv l v).num.sign else (aC l p.1 p.2).num.sign
def oV:Tr->V2->V2->Bool×Bool
 | .leaf i,_,_=>(i,true)
 | .node l a b,p,v=>if J3 l p v=1 then oV a p v else if J3 l p v=-1 then oV b p v else (false,false)
def vS {q:Rat}:q.num.sign=0↔q=0:=by rw [Qm9,Qb6]
def oW (l:L3)(p v:V2)(s:Rat):aC l (p.1+s*v.1) (p.2+s*v.2)=aC l p.1 p.2+s*nv l v:=by unfold aC nv;grind
def GY (p v:V2)(s:Rat)(l:L3):Rat:=
 if nv l v=0\/aC l p.1 p.2=0 then s
 else if -(aC l p.1 p.2*(nv l v)⁻¹)>0/\-(aC l p.1 p.2*(nv l v)⁻¹)*(1/2)<s then -(aC l p.1 p.2*(nv l v)⁻¹)*(1/2) else s
def inv_mul {c:Rat}(h:c≠0)(a:Rat):a*c⁻¹*c=a:=by rw [Rat.mul_assoc,Rat.inv_mul_cancel _ h,Rat.mul_one]
def half (u:V2):Int:=if u.2.num.sign>0\/u.2.num.sign=0/\u.1.num.sign>0 then 1 else if u.2.num.sign<0\/u.1.num.sign<0 then 2 else 0
def OH (u v:V2):Int:=if half u<half v then -1 else if half u>half v then 1 else -(cr u v).num.sign
def Oi {q:Rat}:q.num.sign>0↔q>0:=by
 have:=Wj2 (q:=-q);rw [Wz2] at this;rw [gt_iff_lt,Int.sign_pos_iff];have a:(0<=-q)↔¬q>0:=by constructor<;>intro h<;>grind
 rw [a] at this;by_cases h:q>0
 ·exact ⟨λ_=>h,λ_=>by
   have:¬0<=-q.num:=λg=>this.1 g h;omega⟩
 grind
def zZ {a b c x y z:Int}(u:a*y=b*x)(D:a*z=c*x)(g:Nat.gcd (Nat.gcd x.natAbs y.natAbs) z.natAbs=1):x.natAbs∣a.natAbs:=by have d:a.natAbs*y.natAbs=b.natAbs*x.natAbs:=by{rw [<-Ŀ,<-Ŀ,u]};have e:a.natAbs*z.natAbs=c.natAbs*x.natAbs:=by{rw [<-Ŀ,<-Ŀ,D]};have d1:x.natAbs∣a.natAbs*Nat.gcd (Nat.gcd x.natAbs y.natAbs) z.natAbs:=by{rw [<-Nat.gcd_mul_left,<-Nat.gcd_mul_left];exact Nat.dvd_gcd (Nat.dvd_gcd ⟨a.natAbs,by rw [Ĺ]⟩ ⟨b.natAbs,by rw [d,Ĺ]⟩) ⟨c.natAbs,by rw [e,Ĺ]⟩};rwa [g,Ĝ] at d1
theorem P5 {l m:L3}(ol:ch l=true)(E:ch m=true)(u:bN l=l)(D:bN m=m){x y:Rat}(F:aC l x y=0)(hm:aC m x y=0)(N:cr (cG l) (cG m)=0):l=m:=by unfold ch at ol E;rw [Č,decide_eq_true_iff,decide_eq_true_iff] at ol E;have d:l.1*m.2.1=l.2.1*m.1:=by{unfold cr cG at N;have:(l.1:Rat)*(m.2.1:Rat)=(l.2.1:Rat)*(m.1:Rat):=χ;exact_mod_cast this};unfold aC at F hm;have o:(l.1:Rat)*(m.2.1:Rat)=(l.2.1:Rat)*(m.1:Rat):=by{exact_mod_cast d};have e:l.1*m.2.2=l.2.2*m.1:=by{have:(l.1:Rat)*(m.2.2:Rat)=(l.2.2:Rat)*(m.1:Rat):=χ;exact_mod_cast this};have f:l.2.1*m.2.2=l.2.2*m.2.1:=by{have:(l.2.1:Rat)*(m.2.2:Rat)=(l.2.2:Rat)*(m.2.1:Rat):=χ;exact_mod_cast this};obtain ⟨p,g⟩:=ol;obtain ⟨q,i⟩:=E;have j:Nat.gcd (Nat.gcd l.2.1.natAbs l.1.natAbs) l.2.2.natAbs=1:=by{rw [Ť l.2.1.natAbs];exact g};have k:Nat.gcd (Nat.gcd m.2.1.natAbs m.1.natAbs) m.2.2.natAbs=1:=by{rw [Ť m.2.1.natAbs];exact i};have s:=Nat.dvd_antisymm (zZ (a:=m.1) (b:=m.2.1) (c:=m.2.2) (by rw [Qh0,<-d,Qh0]) (by rw [Qh0,<-e,Qh0]) g) (zZ d e i);have t:=Nat.dvd_antisymm (zZ (a:=m.2.1) (b:=m.1) (c:=m.2.2) (by rw [Qh0,d,Qh0]) (by rw [Qh0,<-f,Qh0]) j) (zZ (b:=l.1) (c:=l.2.2) d.symm f k);have sl:¬(l.1<0\/l.1=0/\l.2.1<0):=λh=>by{unfold bN at u;rw [Ä h] at u;have n:-l.1=l.1:=Æ (λx:L3=>x.1) u;have r:-l.2.1=l.2.1:=Æ (λx:L3=>x.2.1) u;omega};have sm:¬(m.1<0\/m.1=0/\m.2.1<0):=λh=>by{unfold bN at D;rw [Ä h] at D;have n:-m.1=m.1:=Æ (λx:L3=>x.1) D;have r:-m.2.1=m.2.1:=Æ (λx:L3=>x.2.1) D;omega};have n:l.1=m.1:=ω;by_cases z:l.1=0;{grind [Int.eq_of_mul_eq_mul_left]};{grind [Int.eq_of_mul_eq_mul_left,Int.mul_comm]}
end Go.Proofs.Tryz.aV
namespace Go.Proofs.Tryz.aV
def mx (x:Rat×Rat)(t:Rat):Rat:=x.1+t*(x.2-x.1)
def SO {x:Rat×Rat}{t:Rat}(y:x.1>0)(u:x.2>0)(t0:t>0)(t1:t<=1):mx x t>0:=by have a:=mn (show 1-t≥0 by grind) (show x.1≥0 by grind);have b:=mp t0 u;unfold mx;grind
def Oz {y:Rat×Rat}(z:y.1>0){s:Rat}(D:s>0)(u:mx y s<=0):∃t,t>0/\t<=s/\mx y t=0:=by have a:y.1-y.2>0:=by{by_cases c:y.1-y.2>0;{exact c};{have:=mn (show s≥0 by grind) (show y.2-y.1≥0 by grind);unfold mx at u;grind}};have e:=inv_mul (show y.1-y.2≠0 by grind) y.1;refine ⟨y.1*(y.1-y.2)⁻¹,(mp z (Wz5.2 a)),?_,?_⟩;{generalize y.1*(y.1-y.2)⁻¹=t at *;by_cases c:t<=s;{exact c};{have:=mp (show t-s>0 by grind) a;unfold mx at u;grind}};grind [mx]
def Mw:∀(L:zA (Rat×Rat)),(∀x∈L,x.1>0)->∃s,s>0/\∀x∈L,x.1+s*x.2>0
 | [],_=>⟨1,φ,λx h=>by cases h⟩
 | y::L,u=>by
  have ⟨s,D,h⟩:=Mw L λx d=>u x (Ă y d);by_cases c:y.1+s*y.2>0
  ·exact ⟨s,D,λz a=>by rcases ê.1 a with rfl|a;exact c;exact h z a⟩
  ·have b:-y.2>0:=by
    by_cases q:y.2<0
    ·grind
    ·have:=mn (show s≥0 by grind) (show y.2≥0 by grind);grind
   have e:=inv_mul (show -y.2≠0 by grind) y.1;have p:=mp (u y (č ..)) (Wz5.2 b);generalize y.1*(-y.2)⁻¹=r at *
   have g:r<=s:=by by_cases q:r<=s;{exact q};{have:=mp (show r-s>0 by grind) b;grind}
   refine ⟨r*(1/2),χ,λz a=>?_⟩;rcases ê.1 a with rfl|a
   ·grind
   ·have f:=u z (Ă _ a);by_cases q:z.2≥0;{have:=mn (show r*(1/2)≥0 by grind) q;grind};{have:=mn (show s-r*(1/2)≥0 by grind) (show -z.2≥0 by grind);grind}
def pos (M:List L3)(p:V2):Prop:=∀m∈M,aC m p.1 p.2>0
def Es (M:List L3)(l:L3):Prop:=∃p:V2,aC l p.1 p.2=0/\∀m∈M,m≠l->aC m p.1 p.2>0
def Dif (M:List L3):Prop:=∀l∈M,∀m∈M,l≠m->∀p:V2,aC l p.1 p.2=0->aC m p.1 p.2=0->cr (cG l) (cG m)≠0
def U9 (u:V2):cr u u=0:=by unfold cr;grind
def Am (m:L3)(q p:V2)(t:Rat):aC m (q.1+t*(p.1-q.1)) (q.2+t*(p.2-q.2))=aC m q.1 q.2+t*(aC m p.1 p.2-aC m q.1 q.2):=by unfold aC;grind
def ess {M:zA L3}(F:Dif M){q p:V2}(D:pos M q)(O:∀m∈M,Es M m->aC m p.1 p.2>0):pos M p:=by
 have key:∀(n:Nat)(N:zA L3),N.length<=n->(∀m∈N,m∈M)->(∀z,pos N z->pos M z)->pos M p:=by
  intro n
  induction n with
  | zero=>exact λN b a h=>h p λm hm=>by rw [ĝ.1 (Nat.le_zero.1 b)] at hm;cases hm
  | succ n Z=>
   intro N b a h;by_cases all:∀l∈N,Es N l
   ·refine h p λl b=>O l (a l b) ?_;have ⟨x,d,j⟩:=all l b
    have u:∀x:V2,aC l x.1 x.2=0->(∀m∈N,m≠l->aC m x.1 x.2>0)->∀m∈M,aC m x.1 x.2≥0:=λx d j m hm=>by
     by_cases c:aC m x.1 x.2≥0
     ·exact c
     exfalso;have ⟨t,t0,t1,e⟩:=Oz (y:=(aC m q.1 q.2,aC m x.1 x.2)) (D m hm) (s:=1) φ (by unfold mx;grind)
     have:=h (q.1+t*(x.1-q.1),q.2+t*(x.2-q.2)) (λk E=>by
      rw [Am];by_cases g:k=l
      ·subst g;rw [d];have B:t≠1:=λg=>c (by unfold mx at e;dsimp only at e;rw [g] at e;grind);have:=mp (show 1-t>0 by grind) (D k (a k E));grind
      ·exact SO (x:=(aC k q.1 q.2,aC k x.1 x.2)) (D k (a k E)) (j k E g) t0 t1) m hm
     rw [Am] at this;unfold mx at e;grind
    refine ⟨x,d,λm hm ne=>?_⟩;by_cases c:aC m x.1 x.2>0
    ·exact c
    have z:aC m x.1 x.2=0:=by have:=u x d j m hm;grind
    have sl:=F l (a l b) m hm (λe=>ne e.symm) x d z
    obtain ⟨w,v,C⟩:∃w:V2,nv l w=0/\nv m w<0:=by by_cases g:nv m (cG l)<0;{exact ⟨cG l,by rw [S3];exact U9 _,g⟩};{refine ⟨(-(cG l).1,-(cG l).2),?_,?_⟩<;>rw [S3] at*<;>unfold cr at*<;>grind}
    have ⟨s,A,o⟩:=Mw ((N.filter λk=>decide (k≠l)).map λk=>(aC k x.1 x.2,nv k w)) χ
    have:=u (x.1+s*w.1,x.2+s*w.2) (by rw [oW,d,v];grind) (λk E ne=>by
     rw [oW];exact o _ (ă.2 ⟨k,Ł.2 ⟨E,by simpa using ne⟩,rfl⟩)) m hm
    rw [oW,z] at this;have:=mp A (show -nv m w>0 by grind);grind
   ·obtain ⟨l,i,ne⟩:∃l∈N,¬Es N l:=by{simpa using all};have:=(List.length_filter_lt_length_iff_exists (p:=λk=>decide (k≠l))).2 ⟨l,i,ψ⟩;refine Z (N.filter λk=>decide (k≠l)) ω (λm hm=>a m (Ł.1 hm).1) λz f=>h z ?_;have f:∀m∈N,m≠l->aC m z.1 z.2>0:=λm hm e=>f m (Ł.2 ⟨hm,by simpa using e⟩);by_cases c:aC l z.1 z.2>0;{intro m hm;by_cases e:m=l;{exact e▸c};{exact f m hm e}};exfalso;have ⟨t,t0,t1,e⟩:=Oz (y:=(aC l q.1 q.2,aC l z.1 z.2)) (D l (a l i)) (s:=1) φ (by unfold mx;grind);refine ne ⟨(q.1+t*(z.1-q.1),q.2+t*(z.2-q.2)),?_,λm hm r=>?_⟩;{rw [Am];exact e};{rw [Am];exact SO (x:=(aC m q.1 q.2,aC m z.1 z.2)) (D m (a m hm)) (f m hm r) t0 t1}
 exact key M.length M (Ù _) (λm hm=>hm) λz f=>f
def VU (l:L3):V2:=((l.1:Rat),(l.2.1:Rat))
def sq_p {x y:Rat}(h:x≠0\/y≠0):x*x+y*y>0:=by have p:∀z:Rat,z≠0->z*z>0:=λz a=>by{by_cases c:z>0;{exact mp c c};{have:=mp (show -z>0 by grind) (show -z>0 by grind);grind}};have q:∀z:Rat,z*z≥0:=λz=>by{by_cases c:z≥0;{exact mn c c};{have:=mn (show -z≥0 by grind) (show -z≥0 by grind);grind}};rcases h with h|h;{have:=p x h;have:=q y;grind};{have:=p y h;have:=q x;grind}
def ZA {l:L3}(h:(cG l).1≠0\/(cG l).2≠0):nv l (VU l)>0:=by have:nv l (VU l)=(l.1:Rat)*(l.1:Rat)+(l.2.1:Rat)*(l.2.1:Rat):=rfl;refine sq_p ?_;rcases h with h|h;{exact .inr h};{left;intro e;apply h;show -(l.1:Rat)=0;rw [e];grind}
def YE {M:zA L3}{l:L3}(u:(cG l).1≠0\/(cG l).2≠0){x:V2}(z:aC l x.1 x.2=0)(h:∀m∈M,m≠l->aC m x.1 x.2>0)(L:zA L3)(D:∀m∈L,aC m x.1 x.2>0):∃q:V2,pos M q/\aC l q.1 q.2>0/\pos L q:=by
 have ⟨s,c,a⟩:=Mw (((M.filter λm=>decide (m≠l))++L).map λm=>(aC m x.1 x.2,nv m (VU l))) (λy d=>by
  obtain ⟨m,hm,rfl⟩:=ă.1 d;rcases ø.1 hm with hm|hm
  ·have:=Ł.1 hm;exact h m this.1 (by simpa using this.2)
  ·exact D m hm)
 have b:aC l (x.1+s*(VU l).1) (x.2+s*(VU l).2)>0:=by rw [oW,z];have:=mp c (ZA u);grind
 refine ⟨(x.1+s*(VU l).1,x.2+s*(VU l).2),λm hm=>?_,b,λm hm=>?_⟩
 ·by_cases e:m=l;{rw [e];exact b};{rw [oW];exact a (aC m x.1 x.2,nv m (VU l)) (ă.2 ⟨m,Ļ _ (Ł.2 ⟨hm,by simpa using e⟩),rfl⟩)}
 ·rw [oW];exact a (aC m x.1 x.2,nv m (VU l)) (ă.2 ⟨m,Œ _ hm,rfl⟩)
end Go.Proofs.Tryz.aV
namespace Go.Proofs.Tryz
variable{s:Sp}{l m:L3}
theorem vB {u:Sp}{t:Rat}:(s.meet u).inn t↔s.inn t/\u.inn t:=by have c:tX s.lo u.lo<t↔s.lo<t/\u.lo<t:=by{unfold tX;rcases ct u.lo s.lo with ⟨h,e⟩|⟨h,e⟩|⟨h,e⟩<;>rw [e]<;>simp<;>grind};have d:t<tY s.hi u.hi↔t<s.hi/\t<u.hi:=by{unfold tY;rcases ct u.hi s.hi with ⟨h,e⟩|⟨h,e⟩|⟨h,e⟩<;>rw [e]<;>simp<;>grind};unfold Sp.inn Sp.meet;cases s.a<;>cases s.b<;>cases u.a<;>cases u.b<;>simp<;>grind
theorem reg_one (h:s.good):tu [s]:=⟨λx a=>(show x=s by simpa using a)▸h,ψ⟩
theorem u_ {u:Sp}(z:s.can)(hu:u.can):Ú 2 [s] [u]=if (s.meet u).emp=true then [] else [s.meet u]:=by have key:∀t,í (Ú 2 [s] [u]) t=true->t∉à ([s]++[u])->(s.meet u).inn t:=λt h a=>by{rw [comb_inB _ _ _ a] at h;have h:(í [s] t&&í [u] t)=true:=h;rw [Č] at h;have e:∀x:Sp,í [x] t=x.innB t:=λx=>by{unfold í;simp};grind [innB_iff,vB.2]};refine reg_eq (à ([s]++[u])) (comb_reg _ _ _) ?_ λt a=>?_;{split;{exact ⟨Ū,List.Pairwise.nil⟩};{rename_i h;exact reg_one ⟨Sp.BJ z hu,by simpa using h⟩}};{refine zW ⟨λh=>?_,λh=>?_⟩;{have y:=key t h a;split;{rename_i he;obtain ⟨b,c⟩:=y;generalize s.meet u=m at he b c;unfold Sp.emp at he;rw [Č,Č,Ľ,Ľ,Ñ] at he;obtain ⟨⟨d,f⟩,i⟩:=he;rw [d] at b;rw [f] at c;rcases ct m.lo m.hi with ⟨h,e⟩|⟨h,e⟩|⟨h,e⟩<;>grind};{exact kq.2 ⟨_,ψ,y⟩}};{rw [comb_inB _ _ _ a];show (í [s] t&&í [u] t)=true;split at h;{cases h};{have ⟨x,g,hi⟩:=kq.1 h;obtain rfl:x=s.meet u:=by{simpa using g};have ⟨b,c⟩:=vB.1 hi;rw [Č];exact ⟨kq.2 ⟨s,ψ,b⟩,kq.2 ⟨u,ψ,c⟩⟩}}}
theorem wO (h:Nz l)(t:Rat):aC l (cg l t) (cj l t)=0/\ig l (cg l t) (cj l t)=t:=by have a:=h.norm;unfold aC ig cg cj;unfold fM at *;constructor<;>grind
theorem T9 (h:Ý l m≠0):aC l (PD l m) (PE l m)=0/\aC m (PD l m) (PE l m)=0:=by have a:=Ŧ _ h;unfold aC PD PE;constructor;{have e:(l.1:Rat)*(((l.2.1:Rat)*(m.2.2:Rat)-(l.2.2:Rat)*(m.2.1:Rat))*(Ý l m)⁻¹)+(l.2.1:Rat)*(((l.2.2:Rat)*(m.1:Rat)-(l.1:Rat)*(m.2.2:Rat))*(Ý l m)⁻¹)+(l.2.2:Rat)=(l.2.2:Rat)*(1-Ý l m*(Ý l m)⁻¹):=by{unfold Ý;grind};rw [e,a];grind};{have e:(m.1:Rat)*(((l.2.1:Rat)*(m.2.2:Rat)-(l.2.2:Rat)*(m.2.1:Rat))*(Ý l m)⁻¹)+(m.2.1:Rat)*(((l.2.2:Rat)*(m.1:Rat)-(l.1:Rat)*(m.2.2:Rat))*(Ý l m)⁻¹)+(m.2.2:Rat)=(m.2.2:Rat)*(1-Ý l m*(Ý l m)⁻¹):=by{unfold Ý;grind};rw [e,a];grind}
def RM (l:L3)(s:Sp):List (Rat×Rat):=(if s.a then [] else [(cg l s.lo,cj l s.lo)])++(if s.b then [] else [(cg l s.hi,cj l s.hi)])
theorem U2 (l:L3):bN (bN l)=bN l:=by unfold bN;by_cases h:l.1<0\/l.1=0/\l.2.1<0;{rw [Ä h,Ã];unfold Ö;dsimp only;omega};{rw [Ã h,Ã h]}
theorem ZB (h:ch l=true):ch (bN l)=true:=by unfold bN;split;{unfold ch Ö bZ at *;grind};{exact h}
theorem XQ (h:ch l=true):¬(l.1=0/\l.2.1=0):=by unfold ch at h;rw [Č,decide_eq_true_iff] at h;exact h.1
theorem Gy:s.emp=false↔∃t,s.inn t:=by constructor;{intro h;have ⟨c,d⟩:=Sp.WB h;refine ⟨s.qQ,?_,?_⟩;{cases u:s.a;{exact .inr (c u)};{exact .inl rfl}};{cases y:s.b;{exact .inr (d y)};{exact .inl rfl}}};{rintro ⟨t,c,d⟩;grind [Sp.iu]}
theorem oD {l:L3}{s:Sp}{m:L3}:(cS l s m=true->∀t,(bC l s m).inn t↔s.inn t/\0<aC m (cg l t) (cj l t))/\(s.emp=false->cS l s m=false->∀t,s.inn t->¬0<aC m (cg l t) (cj l t)):=by have key:Û m l≠0->∀t,(bC l s m).inn t↔s.inn t/\0<jB m l+Û m l*t:=λa t=>by{unfold bC;rcases bW (Û m l) with ⟨h,e⟩|⟨h,e⟩|⟨h,e⟩;{exact Å h a};{rw [e];show (s.meet ⟨Ø m l,0,false,true⟩).inn t↔_;rw [vB];have b:Û m l*(t-Ø m l)=jB m l+Û m l*t:=by{unfold Ø;grind};have:(⟨Ø m l,0,false,true⟩:Sp).inn t↔Ø m l<t:=by{unfold Sp.inn;simp};rw [this,<-b];refine and_congr_right λ_=>⟨λd=>ĩ h χ,λd=>?_⟩;by_cases c:Ø m l<t;{exact c};{have:=Wj5 (show 0<=Û m l by grind) (show 0<=Ø m l-t by grind);grind}};{rw [e];show (s.meet ⟨0,Ø m l,true,false⟩).inn t↔_;rw [vB];have b:-Û m l*(Ø m l-t)=jB m l+Û m l*t:=by{unfold Ø;grind};have:(⟨0,Ø m l,true,false⟩:Sp).inn t↔t<Ø m l:=by{unfold Sp.inn;simp};rw [this,<-b];refine and_congr_right λ_=>⟨λd=>ĩ χ χ,λd=>?_⟩;by_cases c:t<Ø m l;{exact c};{have:=Wj5 (show 0<=-Û m l by grind) (show 0<=t-Ø m l by grind);grind}}};by_cases a:Û m l=0;{have g:bC l s m=s:=by{unfold bC;rw [a];rfl};have f:cS l s m=decide ((jB m l).num.sign>0):=by{unfold cS;rw [a];rfl};grind [jY,bW]};{have f:cS l s m=!(bC l s m).emp:=by{unfold cS;grind [bW]};grind [jY,Gy.2]}
theorem kY (u:s.good)(y:cS l s m=true):(bC l s m).good:=⟨Rz u.1,Ry u.2 y⟩
theorem mK (l:L3):bN l=l\/bN l=Ö l:=by unfold bN;split;exact .inr rfl;exact .inl rfl
theorem rev_rev (l:L3):Ö (Ö l)=l:=by unfold Ö;simp
theorem zY (l:L3):aV.cG (Ö l)=(-(aV.cG l).1,-(aV.cG l).2):=by unfold aV.cG Ö;simp only [Qs5]
theorem nz_d (h:ch l=true):(aV.cG l).1≠0\/(aV.cG l).2≠0:=by unfold aV.cG;by_cases e:l.2.1=0;{right;intro a;have:(l.1:Rat)=0:=χ;exact XQ h ⟨by exact_mod_cast this,e⟩};{left;show (l.2.1:Rat)≠0;exact_mod_cast e}
theorem XW (ol:ch l=true)(y:ch m=true){p:aV.V2}(z:aC l p.1 p.2=0)(D:aC m p.1 p.2=0)(E:aV.cr (aV.cG l) (aV.cG m)=0):l=m\/l=Ö m:=by have a:∀{x:L3},aC x p.1 p.2=0->aC (bN x) p.1 p.2=0:=λ{x} h=>by{grind [mK,val_rev]};have b:aV.cr (aV.cG (bN l)) (aV.cG (bN m))=0:=by{unfold aV.cr at *;rcases mK l with e|e<;>rcases mK m with u|u<;>rw [e,u]<;>(try rw [zY l])<;>(try rw [zY m])<;>(try dsimp only)<;>grind};grind [aV.P5,ZB,U2,mK,rev_rev]
theorem YB {M:zA L3}(u:∀m∈M,ch m=true){q:aV.V2}(y:aV.pos M q):aV.Dif M:=by intro l d m hm c p f g h;rcases XW (u l d) (u m hm) f g h with e|e;{exact c e};{have a:=y l d;have b:=y m hm;grind [val_rev]}
theorem NU (h:Nz l){x y:Rat}(u:aC l x y=0):∃t,x=cg l t/\y=cj l t:=by have a:=Ŧ _ h.norm;unfold aC at u;refine ⟨ig l x y,?_,?_⟩;{unfold cg ig fM at *;grind};{unfold cj ig fM at *;grind}
def ã:Sp:=⟨0,0,true,true⟩
theorem gZ:ã.good:=⟨⟨λ_=>rfl,λ_=>rfl⟩,rfl⟩
theorem full_inn (t:Rat):ã.inn t:=⟨.inl rfl,.inl rfl⟩
end Go.Proofs.Tryz
