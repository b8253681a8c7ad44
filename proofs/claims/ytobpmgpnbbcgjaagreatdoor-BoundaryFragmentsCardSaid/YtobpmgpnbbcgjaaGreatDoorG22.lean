import Derived.Test.YtobpmgpnbbcgjaaGreatDoorG21
set_option linter.all false
open Go.IntKind (i64 u64 u32)
open Go.Value renaming slice→dB,agg→qvK,bool→Õ,pointer→qyQ,tuple→æ,int→Ô
namespace Go.Proofs.Tryz
open Go.Eng Go.Big
section
variable{v y z:Value}{L l m:L3}{s:Sp}{V:Ó}{p:OA}{n:Nat}
def iI (V:Ó)(v:Value)(x:L3×Sp):Prop:=RF V v x.1 x.2
theorem iI.le {V V':ut}{x:L3×Sp}(h:iI V v x)(l:V.Le V'):iI V' v x:=RF.le h l
theorem Aa (h:onP l m=true)(k:Int):î l (ò m k)=[]:=by have h:=Á h;unfold î;rw [Ä ((side_cross m l k).2 h.1),Ka,h.2];split<;>rw [Ã χ]
theorem Vp (D:Bd l)(u:Bd m)(k:Int):∀s∈î l (ò m k),s.sz 100000:=by have b:Bd (ò m k):=by{unfold ò;split;exact u;exact u.rev};have st:Sz 100000 (Ø (ò m k) l):=(kv D.e_ b.e_).s ω;have z:=CB 100000;intro s a;unfold î at a;split at a;{split at a;{rw [ö.1 a];exact ⟨z,z⟩};{cases a}};{split at a;{rw [ö.1 a];exact ⟨st,z⟩};{rw [ö.1 a];exact ⟨z,st⟩}}
theorem DP (D:s.can)(l m:L3):(Ú 2 [s] (î l m)).length<=1:=by rcases xo l m with h|⟨u,h,hu⟩;{rw [h,comb_nil];exact á _};{rw [h,u_ D hu];split;{exact á _};{exact Ù _}}
theorem Sb (l m:L3):(î l m).length<=1:=by rcases xo l m with h|⟨u,h,hu⟩<;>rw [h];{exact á _};{exact Ù _}
theorem Af {al:zA Sp}(h:bo 8 mb V p n al){i:Nat}(hi:i<al.length):p.isSome=true/\∃(b:md)(u:OA)(D c1:Nat)(E:OA)(F M:Nat)(d:md)(N:OA)(O Z:Nat)(p4:OA)(n4 c4:Nat)(a:Addr),ae p (i*8)=some a/\V.at (a.add 0) (Õ b)/\V.at (a.add 1) (dB u D c1)/\V.at (a.add 2) (dB E F M)/\V.at (a.add 3) (Õ d)/\V.at (a.add 4) (dB N O Z)/\V.at (a.add 5) (dB p4 n4 c4)/\V.at (a.add 6) (Õ al[i].a)/\V.at (a.add 7) (Õ al[i].b)/\mb V (qvK #[Õ b,dB u D c1,dB E F M,Õ d,dB N O Z,dB p4 n4 c4,Õ al[i].a,Õ al[i].b]) al[i]:=by have ⟨g,e,xs,j,f,c⟩:=h.at_ i hi;obtain ⟨_,_,_,_,_,_,_,_,_,_,_,_,_,_,ex,-,-⟩:=id f;have ex:=Æ Array.toList (Value.agg.inj ex);dsimp only at ex;subst ex;refine ⟨?_,_,_,_,_,_,_,_,_,_,_,_,_,_,_,g,e,c 0 _ rfl,c 1 _ rfl,c 2 _ rfl,c 3 _ rfl,c 4 _ rfl,c 5 _ rfl,c 6 _ rfl,c 7 _ rfl,f⟩;(cases p with|none=>{cases e}|some a=>rfl)
theorem JB {b1:md}{u:OA}{D c1:Nat}{E:md}{F:OA}{M N:Nat}{O:md}{Z:OA}{n3 c3:Nat}{b:md}{q1:OA}{m1 e1:Nat}{q2:OA}{m2 e2:Nat}{d:md}{q3:OA}{m3 e3:Nat}{q4:OA}{m4 e4:Nat}{x y:md}:∀v∈([Õ b1,dB u D c1,Õ E,dB F M N,Õ O,dB Z n3 c3,Õ b,dB q1 m1 e1,dB q2 m2 e2,Õ d,dB q3 m3 e3,dB q4 m4 e4,Õ x,Õ y]:zA un),v.oneCell'=true:=by intro v a;simp only [ê,ę,Ì] at a;rcases a with rfl|rfl|rfl|rfl|rfl|rfl|rfl|rfl|rfl|rfl|rfl|rfl|rfl|rfl<;>rfl
def yZ (l:L3)(s:Sp)(m:L3):List (L3×Sp):=(Ú 2 [s] (î l m)).map λu=>(l,u)
theorem DJ {w:un}{l m:L3}{s:Sp}(hf:RF V v l s)(hm:bP V w m)(nz:Nz l)(bl:Bd l)(bm:Bd m)(hs:s.can)(ss:s.sz 1000000):À 220 #[v,w] V λr W=>∃p1 n1 c1 p2 n2 c2,r=æ #[dB p1 n1 c1,dB p2 n2 c2]/\bo 14 iI W p1 n1 (yZ l s m)/\bo 14 iI W p2 n2 (yZ l s (Ö m)):=by have q:=hm;obtain ⟨_,_,_,_,_,_,_,_,_,_,_,_,_,_,_,_,_,_,_,_,_,_,_,_,_,_,rfl,X,hS⟩:=hf;obtain ⟨_,_,_,_,_,_,_,_,_,_,_,_,rfl⟩:=bG hm;have s1:ò m 1=m:=rfl;have s2:ò m (-1)=Ö m:=rfl;have c:=Vp bl bm;have f:=λk=>DP hs l (ò m k);have i:=λk=>Sb l (ò m k);refine Dc V _ ⟨λ_=>⟨φ,λV1 Y=>(uS (l:=l) (.inl rfl) (RL.le X Y) (bP.le q Y) nz bl bm).s ?_⟩,λh=>by cases h⟩;rintro r V2 l2 ⟨q1,n1,c1,rfl,hH⟩;refine qyJ ⟨rfl,λn V3 l3=>⟨_,_,_,_,_,_,rfl,?_,?_⟩,λn V4 l4 UN C=>(jR (op:=2) (la':=[s]) (lb':=î l (ò m 1)) (NW C ra) (rQ ra) (by have:=i 1;rw [Qc4];omega) (k:=1000000) (λz d=>ö.1 d▸ss) (λz d=>⟨(c 1 z d).1.s ω,(c 1 z d).2.s ω⟩) ω).s ?_⟩;{unfold yZ;rw [<-s1,Aa n,comb_nil];exact bo.nil};{unfold yZ;rw [<-s2,Aa n,comb_nil];exact bo.nil};rintro r V5 l5 ⟨p4,n4,c4,rfl,D⟩;have D:=D.lst;have la:=f 1;have Xp:=D.len;generalize hA:Ú 2 [s] (î l (ò m 1))=A at *;refine ⟨_,_,_,rfl,λ_=>⟨λz V'=>∃j:Nat,z.1=(j:Int)/\j<=A.length/\z.2.2.2.1=0/\z.2.2.2.2.1=0/\z.2.2.2.2.2.2=[]/\GR 14 iI V' z.2.1 z.2.2.1 z.2.2.2.2.2.1 ((A.take j).map λu=>(l,u)),λz=>A.length-z.1.toNat,⟨(0,0,0,0,0,[],[]),σ,0,rfl,á _,rfl,rfl,rfl,GR.nil⟩,?_⟩⟩;rintro ⟨zi,Z,x2,x3,x4,xs,ys⟩ V6 l6 ⟨j,t,qA,e3,e4,e5,o⟩;dsimp only at t e3 e4 e5 o ⊢;subst t e3 e4 e5;refine ⟨θ,λb=>?_,λb=>⟨λ_=>⟨φ,λV7 l7=>(uS (l:=l) (.inr rfl) (RL.le X au) (bP.le q au) nz bl bm).s ?_⟩,λh=>by cases h⟩⟩;{have b:=Á b;have p:j<A.length:=ω;have wr:i64.wrap ((j:Int)+1)=((j+1:Nat):Int):=by{rw [ao ω];rfl};rw [wr,Ü];obtain ⟨is,_,_,_,_,_,_,_,_,_,_,_,_,_,_,E,F,G,H,I,J,K,L,M,N,gs⟩:=Af ra p;have O:=(ŀ p).symm;have P:=o.len;rw [ĉ,è] at P;generalize A[j]=u at *;refine ⟨is,⟨ω,ω⟩,_,_,_,_,_,_,_,_,_,_,_,_,_,_,_,_,E,F,G,H,I,J,K,L,M,N,φ,ω,o.le,o.cap,rfl,JB,λsp Q R S=>⟨φ,(((j+1:Nat):Int),Z+1,Q,0,0,_,[]),ω,σ,j+1,rfl,p,rfl,rfl,rfl,?_⟩⟩;rw [O,Ń];exact o.snoc (a:=(l,u)) rfl ⟨_,_,_,_,_,_,_,_,_,_,_,_,_,_,_,_,_,_,_,_,_,_,_,_,_,_,rfl,ra,gs⟩ φ R S};have b:=Â b;obtain rfl:j=A.length:=ω;rw [ď] at o;rintro r V8 l8 ⟨q2,n2,c2,rfl,a2⟩;refine qyJ ⟨rfl,λn V9 l9=>⟨_,_,_,_,_,_,rfl,?_,?_⟩,λn fo a3 UM x=>(jR (op:=2) (la':=[s]) (lb':=î l (ò m (-1))) (NW x ra) (rQ ra) (by have:=i (-1);rw [Qc4];omega) (k:=1000000) (λz d=>ö.1 d▸ss) (λz d=>⟨(c (-1) z d).1.s ω,(c (-1) z d).2.s ω⟩) ω).s ?_⟩;{unfold yZ;rw [<-s1,Aa n,comb_nil];exact bo.nil};{unfold yZ;rw [<-s2,Aa n,comb_nil];exact bo.nil};rintro r fg dy ⟨a4,a5,a6,rfl,T⟩;have T:=T.lst;have lb:=f (-1);have a1:=T.len;generalize hB:Ú 2 [s] (î l (ò m (-1)))=B at *;refine ⟨_,_,_,rfl,λ_=>⟨λz V'=>∃j:Nat,z.1=(j:Int)/\j<=B.length/\GR 14 iI V' z.2.1 z.2.2.1 z.2.2.2.2.2.1 (A.map λu=>(l,u))/\GR 14 iI V' z.2.2.2.1 z.2.2.2.2.1 z.2.2.2.2.2.2 ((B.take j).map λu=>(l,u)),λz=>B.length-z.1.toNat,⟨(0,Z,x2,0,0,xs,[]),σ,0,rfl,á _,o.s λ_ _ g=>iI.le g au,GR.nil⟩,?_⟩⟩;rintro ⟨zi,y1,y2,y3,y4,us,ws⟩ gT dX ⟨j,t,qA,y,e⟩;dsimp only at t y e ⊢;subst t;refine ⟨θ,λb=>?_,λb=>⟨Ū,λ_=>⟨φ,φ,λiL dS a7 a8 U W=>?_⟩⟩⟩;{have b:=Á b;have p:j<B.length:=ω;have wr:i64.wrap ((j:Int)+1)=((j+1:Nat):Int):=by{rw [ao ω];rfl};rw [wr,Ü];obtain ⟨is,_,_,_,_,_,_,_,_,_,_,_,_,_,_,E,F,G,H,I,J,K,L,M,N,gs⟩:=Af ra p;have O:=(ŀ p).symm;have P:=e.len;rw [ĉ,è] at P;generalize B[j]=u at *;refine ⟨is,⟨ω,ω⟩,_,_,_,_,_,_,_,_,_,_,_,_,_,_,_,_,E,F,G,H,I,J,K,L,M,N,φ,ω,e.le,e.cap,rfl,JB,λsp Q R S=>⟨φ,(((j+1:Nat):Int),y1,y2,y3+1,Q,us,_),ω,σ,j+1,rfl,p,y,?_⟩⟩;rw [O,Ń];exact e.snoc (a:=(l,u)) rfl ⟨_,_,_,_,_,_,_,_,_,_,_,_,_,_,_,_,_,_,_,_,_,_,_,_,_,_,rfl,ra,gs⟩ φ R S};{have b:=Â b;obtain rfl:j=B.length:=ω;rw [ď] at e;have e1:=y.len;have e2:=e.len;have g1:yZ l s m=A.map λu=>(l,u):=by{unfold yZ;rw [<-hA];rfl};have g2:yZ l s (Ö m)=B.map λu=>(l,u):=by{unfold yZ;rw [<-hB];rfl};rw [g1,g2];subst e1 e2;exact ⟨_,_,_,_,_,_,rfl,bo.bq U (y.row.le λ_ _ g=>iI.le g dS) φ y.le,bo.bq W (e.row.le λ_ _ g=>iI.le g dS) φ e.le⟩}
def K6 (l:List Rat):List Rat:=l.foldl (λo x=>cT x o) []
theorem OM (l:zA Rat):asc (K6 l)/\∀x,x∈K6 l↔x∈l:=by
 have:∀(l o:zA Rat),asc o->asc (l.foldl (λo x=>cT x o) o)/\∀x,x∈l.foldl (λo x=>cT x o) o↔x∈o\/x∈l:=by
  intro l
  induction l<;>grind [Bu,qu]
 have ⟨a,b⟩:=this l [] List.Pairwise.nil;grind [K6]
theorem Pr:∀u∈î l m,u.good:=λu hu=>by
 unfold î at hu;split at hu
 ·grind [gZ]
 ·split at hu
  ·rw [ö.1 hu];exact ⟨⟨Ū,λ_=>rfl⟩,rfl⟩
  ·rw [ö.1 hu];exact ⟨⟨λ_=>rfl,Ū⟩,rfl⟩
theorem S_ (l m:L3):Ú 2 [ã] (î l m)=î l m:=by grind [xo,comb_nil,BT,Pr]
theorem TU (u:s.good):yZ l s m=po l s m:=by have h:=P8 (l:=l) (m:=m) u;rw [S_] at h;unfold yZ po;rw [h];split<;>rfl
theorem inB_nil (t:Rat):í [] t=false:=rfl
def cK (l:List L3):List L3:=l.foldl (λo x=>iT x o) []
theorem cE (l:zA L3):(cK l).Pairwise qD/\∀x,x∈cK l↔x∈l:=by
 have:∀(l o:zA L3),o.Pairwise qD->(l.foldl (λo x=>iT x o) o).Pairwise qD/\∀x,x∈l.foldl (λo x=>iT x o) o↔x∈o\/x∈l:=by
  intro l
  induction l with
  | nil=>intro o h;exact ⟨h,λx=>ψ⟩
  | cons y r u=>
   intro o h;have ⟨a,b⟩:=u (iT y o) (Bs h);refine ⟨a,λx=>?_⟩;rw [Ő,b x,vu,ê];constructor
   ·rintro ((h|h)|h)<;>simp [h]
   ·rintro (h|h|h)<;>simp [h]
 have ⟨a,b⟩:=this l [] List.Pairwise.nil;exact ⟨a,λx=>by rw [cK,b x];simp⟩
theorem PA {l m:zA L3}(h:∀x,x∈l↔x∈m):cK l=cK m:=
 F9 (cE l).1 (cE m).1 λx=>by rw [(cE l).2 x,(cE m).2 x];exact h x
def ax (m:L3)(l:List (L3×Sp)):List Sp:=(l.filter λx=>decide (x.1=m)).map Prod.snd
def dh (l:List (L3×Sp)):List (L3×Sp):=(cK (l.map Prod.fst)).flatMap λm=>(Ú 1 (ax m l) []).map λs=>(m,s)
theorem O9 {A B:zA Sp}(h:A.Perm B):Ú 1 A []=Ú 1 B []:=by refine reg_eq (à (A++[])++à (B++[])) (comb_reg ..) (comb_reg ..) λt a=>?_;rw [ø,not_or] at a;rw [comb_inB 1 _ _ a.1,comb_inB 1 _ _ a.2];have:í A t=í B t:=by{unfold í;rw [ķ,Qh3,Qh3];exact ⟨λ⟨x,b,c⟩=>⟨x,h.mem_iff.1 b,c⟩,λ⟨x,b,c⟩=>⟨x,h.mem_iff.2 b,c⟩⟩};rw [this]
theorem LR {l m:zA (L3×Sp)}(h:l.Perm m):dh l=dh m:=by unfold dh;rw [PA (l:=l.map Prod.fst) (m:=m.map Prod.fst) λx=>(h.map _).mem_iff];refine Æ (λf=>(cK (m.map Prod.fst)).flatMap f) (funext λk=>?_);rw [O9 (A:=ax k l) (B:=ax k m) ((h.filter _).map _)]
theorem LS {P Q:zA (L3×Sp)}(D:∀x∈P,qD x.1 m)(u:∀x∈Q,x.1=m)(hne:Q≠[]):dh (P++Q)=dh P++(Ú 1 (Q.map Prod.snd) []).map λs=>(m,s):=by
 have i:cK ((P++Q).map Prod.fst)=cK (P.map Prod.fst)++[m]:=by have ⟨j,k⟩:=cE ((P++Q).map Prod.fst);have ⟨n,g⟩:=cE (P.map Prod.fst);refine F9 j (Qg4.2 ⟨n,Qf0 _ _,λx c y d=>?_⟩) λx=>?_;{rw [ö.1 d];obtain ⟨z,b,rfl⟩:=ă.1 ((g x).1 c);exact D z b};{rw [k x,Ń,ø,ø,g x,ö];refine or_congr_right ⟨λh=>?_,λh=>?_⟩;{obtain ⟨z,b,rfl⟩:=ă.1 h;exact u z b};{have ⟨z,b⟩:=List.exists_mem_of_ne_nil Q hne;exact ă.2 ⟨z,b,(u z b).m h.symm⟩}}
 have c:∀x∈cK (P.map Prod.fst),ax x (P++Q)=ax x P:=λx c=>by obtain ⟨z,b,rfl⟩:=ă.1 (((cE _).2 x).1 c);have f:=D z b;unfold ax;rw [Qh9,(Qh7 (l:=Q)).2 λy d=>?_,þ];intro e;have e:=Á e;rw [<-e,u y d] at f;exact yy f
 have hm:ax m (P++Q)=Q.map Prod.snd:=by unfold ax;rw [Qh9,(Qh7 (l:=P)).2 λy d=>?_,Ŏ,(Qr5 (l:=Q)).2 λy d=>Ç (u y d)];intro e;exact yy ((Á e)▸D y d)
 unfold dh;rw [i,ŧ,Qs9,hm];congr 1;generalize cK (P.map Prod.fst)=L at c
 induction L with
 | nil=>rfl
 | cons a r E=>rw [ē,ē,c a (č ..),E λx h=>c x (Ă _ h)]
theorem Od {α:Type}{sz:Nat}{R u:ut->un->α->Prop}{V':ut}{vs:zA un}{l:zA α}(h:é sz R V vs l)(m:∀v a,a∈l->R V v a->u V' v a):é sz u V' vs l:=
 ⟨λi b=>by have ⟨xs,c,d,e⟩:=h.at_ i b;exact ⟨xs,c,m _ _ (ó b) d,e⟩⟩
theorem Mr {ws:zA un}{m:zA (L3×Sp)}(h:é 17 pH V ws m){i:Nat}(hi:i<m.length):∃(u D:Int)(p:OA)(E F:Int)(q:OA)(M N:Int)(r:OA)(u1 u2:Int)(t:OA)(O Z:Int)(o:OA),((i*17+0)+9<=ws.length/\(ws.drop (i*17+0)).take 9=[Ô .i64 u,Ô .i64 D,qyQ p,Ô .i64 E,Ô .i64 F,qyQ q,Ô .i64 M,Ô .i64 N,qyQ r])/\((i*17+9)+8<=ws.length/\(ws.drop (i*17+9)).take 8=[Ô .i64 u1,Ô .i64 u2,qyQ t,Ô .i64 O,Ô .i64 Z,qyQ o,Õ m[i].2.a,Õ m[i].2.b])/\wJ V (qvK #[Ô .i64 u,Ô .i64 D,qyQ p,Ô .i64 E,Ô .i64 F,qyQ q,Ô .i64 M,Ô .i64 N,qyQ r]) m[i].1/\f_ V (qvK #[Ô .i64 u1,Ô .i64 u2,qyQ t,Ô .i64 O,Ô .i64 Z,qyQ o,Õ m[i].2.a,Õ m[i].2.b]) m[i].2:=by obtain ⟨xs,-,c,k,f⟩:=h.get (d:=fV) hi φ;have e:m.getD i fV=m[i]:=by{rw [Ė,ñ hi];rfl};rw [e] at c;obtain ⟨_,_,_,_,_,_,_,_,_,_,_,_,_,_,_,ex,g,j⟩:=c;have ex:=Æ Array.toList (Value.agg.inj ex);subst ex;refine ⟨_,_,_,_,_,_,_,_,_,_,_,_,_,_,_,⟨ω,?_⟩,⟨ω,?_⟩,g,j⟩;{have:=Æ (List.take 9) f;rw [Qt3] at this;exact this};{have:=Æ (List.drop 9) f;rw [List.drop_take,Qh4] at this;exact this}
theorem Wx {V:ut}{xs:zA un}{x:Sp}(h:f_ V (.agg xs.toArray) x):∀v∈xs,v.oneCell'=true:=by obtain ⟨_,_,_,_,_,_,ex,-,-⟩:=h;have ex:=Æ Array.toList (Value.agg.inj ex);subst ex;intro v a;simp only [ê,ę,Ì] at a;rcases a with rfl|rfl|rfl|rfl|rfl|rfl|rfl|rfl<;>rfl
theorem lt_le {a b c:L3}(h:qD a b)(u:¬iq c b<0):qD a c:=by by_cases e:b=c;{rw [<-e];exact h};{exact SF h (NM u λk=>e k.symm)}
set_option maxHeartbeats 2000000 in
theorem wR {c:Nat}{fs:zA (L3×Sp)}(h:bo 17 pH V p n fs)(h0:fs=[]->p=none)(kj:fs.length<10000)(each:∀m,(ax m fs).length<70)(hb:∀f∈fs,iJ 10000 f.1)(hg:∀f∈fs,f.2.good)(hs:∀f∈fs,f.2.sz 1000000)(so:∀i,pR i):À 89 #[dB p n c] V λr W=>∃q m e,r=dB q m e/\bo 17 pH W q m (dh fs):=by
 refine CK V _ λV1 l1=>(Rb ra ω h0).s ?_;rintro r V2-⟨bm,vs,a1,a2,e,rfl,hle,X,Y,row,lW⟩;refine ⟨bm,vs,a1,λh=>.inl (a2 h),none,fs.length,e,rfl,?_⟩;have F:é 17 pH (V2.shut.bz (vs≠[]) bm) vs fs:=row.le λ_ _ g=>zU.le g λb o h=>h;clear a1 a2 row lW;refine ⟨λws V'=>∃m:zA (L3×Sp),m.Perm fs/\(m.Pairwise λx y=>¬iq y.1 x.1<0)/\é 17 pH V' ws m,⟨λD=>?_,λD V5 l5 U e1 e2=>?_⟩,?_⟩
 ·have Z:=Qj0 λh=>Y.2 h D;subst Z;obtain rfl:=X.1 D;refine ⟨rfl,λV3 l3=>uK.s λr V4 l4 rfl=>⟨rfl,vs,σ,[],.refl _,List.Pairwise.nil,é.nil⟩⟩
 ·have a0:e≠0:=λh=>D (X.2 h);have LI:∀b,mA b e=some ⟨b,0,none⟩:=λb=>by{unfold mA;rw [Ã a0]};rw [LI];refine (Dz (V:=V5.ar [vb vs V5.w.heap.size U]) (lb:=U) (vs:=vs) (l:=fs) (e1 D) ⟨by simp [pC D],e2 D⟩ ⟨Od F λv a ha g=>⟨zU.le g λb o h=>l5 b o h,hb a ha⟩,rfl,kj⟩).s ?_;rintro r V6 l6 ⟨rfl,ws,m,e3,sr,pm,pw⟩;have PI:=pm.length_eq;have hw:ws≠[]:=λe=>by{have:=sr.row.eM φ;rw [e,PI] at this;exact Y.1 D (ĝ.1 (by rw [İ] at this;omega))};exact ⟨rfl,D,ws,hw,e3,ws,σ,m,pm,pw,Od sr.row λv a _ g=>zU.le g.1 λb o h=>h⟩
 rintro ws V7 l7 ⟨m,pm,pw,R⟩;rw [LR pm.symm]
 replace hb:∀f∈m,iJ 10000 f.1:=λf P=>hb f (pm.mem_iff.1 P)
 replace hg:∀f∈m,f.2.good:=λf P=>hg f (pm.mem_iff.1 P)
 replace hs:∀f∈m,f.2.sz 1000000:=λf P=>hs f (pm.mem_iff.1 P)
 replace each:∀u,(ax u m).length<70:=λu=>by have:=((pm.filter λx=>decide (x.1=u)).map Prod.snd).length_eq;have:=each u;unfold ax at *;omega
 rw [<-pm.length_eq] at kj hle ⊢;clear h0 h pm F X Y;have S:∀i j (A:i<m.length) (I:j<m.length),i<j->¬iq m[j].1 m[i].1<0:=λi j A I=>Qm2.1 pw i j A I;refine ⟨rfl,λz V'=>∃j:Nat,z.2.2.2=(j:Int)/\j<=m.length/\GR 17 pH V' z.1 z.2.1 z.2.2.1 (dh (m.take j))/\(dh (m.take j)).length<=300*j/\∀x∈m.take j,∀y∈m.drop j,qD x.1 y.1,λz=>m.length-z.2.2.2.toNat,⟨(0,0,[],0),σ,0,rfl,á _,GR.nil,á _,λx d=>by simp at d⟩,?_⟩;rintro ⟨n1,c1,os,i1⟩ V8 l8 ⟨j,ej,qA,Q,ol,sep⟩;subst ej;refine ⟨rfl,λB=>?_,λB kH fy U K=>?_⟩;rotate_left
 ·have B:¬(j:Int)<(m.length:Nat):=Â B;obtain rfl:j=m.length:=ω;rw [ď] at Q;have:=bo.bq K (Q.row.le λ_ _ g=>zU.le g fy) φ (by rw [<-Q.len];exact Q.le);rw [<-Q.len] at this;exact ⟨_,_,_,rfl,this⟩
 have B:(j:Int)<(m.length:Nat):=Á B;have I:j<m.length:=ω
 refine ⟨λz V'=>∃k:Nat,z.2.2.2=(k:Int)/\j<=k/\k<=m.length/\GR 8 f_ V' z.1 z.2.1 z.2.2.1 (((m.take k).drop j).map Prod.snd)/\∀x∈(m.take k).drop j,x.1=m[j].1,λz=>m.length-z.2.2.2.toNat,⟨(0,0,[],(j:Int)),σ,j,rfl,Ù _,ω,?_,?_⟩,?_⟩
 ·rw [List.drop_eq_nil_of_le (by rw [è];omega)];exact GR.nil
 ·rw [List.drop_eq_nil_of_le (by rw [è];omega)];intro x d;cases d
 rintro ⟨n2,c2,us,i2⟩ V9 l9 ⟨k,ek,jk,a3,E,same⟩;dsimp only at ek E;subst ek;have L:=R.le λ_ _ g=>zU.le g (l8.m l9);obtain ⟨b1,b2,b3,b4,b5,b6,b7,b8,b9,-,-,-,-,-,-,jl,-,jr,-⟩:=Mr L I;refine ⟨rfl,λb V'=>V9.Le V'/\b=decide (∃h:k<m.length,m[k].1=m[j].1),⟨λt=>?_,λt=>?_⟩,?_⟩
 ·have t:(k:Int)<(m.length:Nat):=Á t;have t:k<m.length:=ω;dsimp only;rw [Ü,Ü];obtain ⟨d1,d2,d3,d4,d5,d6,d7,d8,d9,-,-,-,-,-,-,kl,-,kr,-⟩:=Mr L t;refine ⟨⟨ω,ω⟩,hle,d1,d2,d3,d4,d5,d6,d7,d8,d9,kl,⟨ω,ω⟩,hle,b1,b2,b3,b4,b5,b6,b7,b8,b9,jl,λfo a4=>(rN ra ra (hb _ (ó t)) (hb _ (ó I))).s λr fg dy rfl=>⟨_,rfl,_,σ,a4.m dy,É.2 ⟨λh=>⟨t,h⟩,λ⟨_,h⟩=>h⟩⟩⟩
 ·have t:¬(k:Int)<(m.length:Nat):=Â t;exact ⟨false,σ,Ó.Le.refl _,(È λ⟨h,_⟩=>ω).symm⟩
 rintro b gT dX ⟨G,rfl⟩;refine ⟨rfl,λt=>?_,λt iL dS U K=>?_⟩
 ·have ⟨t,a5⟩:=Á t;have w:i64.wrap ((k:Int)+1)=((k+1:Nat):Int):=by{rw [ao ω];rfl};dsimp only;rw [Ü,w];obtain ⟨-,-,-,-,-,-,-,-,-,d1,d2,d3,d4,d5,d6,-,kl,-,kr⟩:=Mr (L.le λ_ _ g=>zU.le g G) t;have tk:(m.take (k+1)).drop j=(m.take k).drop j++[m[k]]:=by{rw [<-ŀ t,List.drop_append_of_le_length (by rw [è];omega)]};have sl:=E.len;rw [ĉ,ī,è] at sl;refine ⟨⟨ω,ω⟩,hle,d1,d2,d3,d4,d5,d6,_,_,kl,ω,E.le,E.cap,rfl,Wx (V:=gT) (x:=m[k].2) kr,λsp c' k1 k2=>⟨(n2+1,c',_,((k+1:Nat):Int)),by dsimp only;omega,σ,k+1,rfl,ω,t,?_,?_⟩⟩;{rw [tk,Ń];exact (E.s λ_ _ g=>f_.le g G).snoc rfl kr φ k1 k2};{rw [tk];intro x d;rcases ø.1 d with d|d;{exact same x d};{rw [ö.1 d];exact a5}}
 have t:=Â t;have a6:=Nat.lt_of_le_of_ne jk λe=>by subst e;exact t ⟨I,rfl⟩
 have sub:∀x∈(m.take k).drop j,x∈m:=λx d=>Qb3 (Qg2 d);have hA:=bo.bq K (E.row.le λ_ _ g=>f_.le g au) φ (by rw [<-E.len];exact E.le);rw [<-E.len] at hA
 have Al:(((m.take k).drop j).map Prod.snd).length<70:=by refine ō ?_ (each m[j].1);unfold ax;rw [<-Qr5.2 λx d=>Ç (same x d)];exact ((((List.drop_sublist _ _).m (List.take_sublist _ _)).filter _).map _).length_le
 have P:=RX (((m.take k).drop j).map Prod.snd);refine (AJ hA (λs M=>by obtain ⟨x,d,rfl⟩:=ă.1 M;exact hg x (sub x d)) (λs M=>by obtain ⟨x,d,rfl⟩:=ă.1 M;exact hs x (sub x d)) ω ω (so _)).s ?_;rintro r lR gj ⟨q,n3,c3,rfl,hC⟩;refine ⟨_,_,_,rfl,λJ=>?_⟩
 have sn:dh (m.take k)=dh (m.take j)++(Ú 1 (((m.take k).drop j).map Prod.snd) []).map λs=>(m[j].1,s):=by
  have e:m.take k=m.take j++(m.take k).drop j:=by
   conv=>lhs;rw [<-Qj6 j (m.take k),Qt3,ğ ω]
  conv=>lhs;rw [e]
  refine LS (λx d=>sep x d _ (Qb5.2 ⟨0,by rw [ī];omega,by rw [Qp5];rfl⟩)) same λh=>?_;have:=Æ List.length h;rw [ī,è] at this;simp at this;omega
 have cl:=A9 1 (((m.take k).drop j).map Prod.snd) [];have f0:fe []=0:=rfl;generalize Ú 1 (((m.take k).drop j).map Prod.snd) []=C at hC sn cl;obtain rfl:=hC.len;refine ⟨λz V'=>∃i:Nat,z.2.2.2=(i:Int)/\i<=C.length/\GR 17 pH V' z.1 z.2.1 z.2.2.1 (dh (m.take j)++(C.take i).map λs=>(m[j].1,s)),λz=>C.length-z.2.2.2.toNat,⟨(n1,c1,os,0),σ,0,rfl,á _,?_⟩,?_⟩
 ·rw [Qd2,Wk1,þ];exact Q.s λ_ _ g=>zU.le g au
 rintro ⟨n4,c4,ts,i4⟩ lS gC ⟨i,ei,NB,N⟩;dsimp only at ei N;subst ei;refine ⟨rfl,λA=>?_,λA=>?_⟩
 ·have A:(i:Int)<(C.length:Nat):=Á A;have A:i<C.length:=ω;have w:i64.wrap ((i:Int)+1)=((i+1:Nat):Int):=by{rw [ao ω];rfl};dsimp only;rw [Ü,Ü,w];obtain ⟨ad,h0,xs,-,y2,H⟩:=(hC.le gC λ_ _ g=>f_.le g gC).at_ i A;obtain ⟨_,_,_,_,_,_,ex,g1,g2⟩:=y2;have ex:=Æ Array.toList (Value.agg.inj ex);dsimp only at ex;subst ex;have he:zU lS (qvK #[Ô .i64 b1,Ô .i64 b2,qyQ b3,Ô .i64 b4,Ô .i64 b5,qyQ b6,Ô .i64 b7,Ô .i64 b8,qyQ b9,Ô .i64 _,Ô .i64 _,qyQ _,Ô .i64 _,Ô .i64 _,qyQ _,Õ C[i].a,Õ C[i].b]) m[j].1 C[i]:=⟨_,_,_,_,_,_,_,_,_,_,_,_,_,_,_,rfl,ra,_,_,_,_,_,_,rfl,g1,g2⟩;have tl:=N.len;rw [ë,ĉ,è] at tl;refine ⟨aK h0,⟨ω,ω⟩,_,_,_,_,_,_,_,_,ad,h0,H 0 _ rfl,H 1 _ rfl,H 2 _ rfl,H 3 _ rfl,H 4 _ rfl,H 5 _ rfl,H 6 _ rfl,H 7 _ rfl,⟨ω,ω⟩,hle,b1,b2,b3,b4,b5,b6,b7,b8,b9,jl,ω,N.le,N.cap,rfl,J0 (V:=lS) (x:=(_,_)) he,λsp c' k1 k2=>⟨(n4+1,c',_,((i+1:Nat):Int)),by dsimp only;omega,σ,i+1,rfl,A,?_⟩⟩;rw [<-ŀ A,Ń,<-Ĕ];exact N.snoc (a:=(m[j].1,C[i])) rfl he φ k1 k2
 ·have A:¬(i:Int)<(C.length:Nat):=Â A;obtain rfl:i=C.length:=ω
  rw [ď] at N;refine ⟨(n4,c4,ts,(k:Int)),by dsimp only;omega,σ,k,rfl,a3,by rw [sn];exact N,by rw [sn,ë,ĉ];omega,λx d y hy=>?_⟩;obtain ⟨W,a7,rfl⟩:=Qb5.1 hy;rw [ī] at a7;rw [Qp5];have O:k<m.length:=ω
  have T:=NM (S j k I O a6) λe=>t ⟨O,e⟩
  have a8:qD m[j].1 m[k+W].1:=by by_cases e:W=0;{subst e;exact T};{exact lt_le T (S k (k+W) O ω ω)}
  have e:m.take k=m.take j++(m.take k).drop j:=by
   conv=>lhs;rw [<-Qj6 j (m.take k),Qt3,ğ ω]
  rw [e] at d;rcases ø.1 d with d|d
  ·exact sep x d _ (Qb5.2 ⟨k+W-j,by rw [ī];omega,by rw [Qp5];congr 1;omega⟩)
  grind
theorem Wv {fs:zA (L3×Sp)}(h:bo 17 pH V p n fs):QC V p n fs:=⟨h.len,λi a=>by
 obtain ⟨b,c,xs,-,d,e⟩:=h.at_ i a;exact ⟨b,c,xs,d,e⟩⟩
theorem QK (l:zA Rat):(K6 l).length<=l.length:=by
 have:∀(l o:zA Rat),(l.foldl (λo x=>cT x o) o).length<=o.length+l.length:=by
  intro l
  induction l with
  | nil=>exact λo=>Ù _
  | cons y r u=>intro o;have a:=u (cT y o);have b:=@lu y o;rw [Ő,Ą];omega
 have:=this l [];simpa [K6] using this
theorem pf {root:Int}{l:zA Nd}(M:∀x∈l,Bd x.ln)(h:AT V v root l)(N:pQ V 0 y)(O:pQ V 1 z):À 29 #[v] V λr W=>(Fx l root=none->r=æ #[qyQ none,y])/\∀t,Fx l root=some t->t.depth<=1024->∃q,r=æ #[qyQ q,.nilIface]/\RT W q t:=by
 obtain ⟨q,n,c,rfl,-⟩:=id h;refine xL V _ λo p=>(OT M ra).s ?_;rintro r V2 s ⟨a,rfl,i⟩;refine ⟨_,_,rfl,λg=>⟨y,⟨_,rfl,N.le au⟩,λu w=>?_⟩,λg A j=>?_⟩
 ·have g:Fx l root=none:=by cases e:Fx l root with
   | none=>rfl
   | some t=>rw [e] at g;cases g
  exact ⟨λ_=>rfl,λt b=>by rw [g] at b;cases b⟩
 ·(cases e:Fx l root with|none=>{rw [e] at g;cases g}|some t=>{have B:=S4 e;refine (pX t ((i t e).le j) ω).s ?_;rintro r C D rfl;refine ⟨_,rfl,λd=>⟨z,⟨_,rfl,O.le au⟩,λE F=>⟨Ū,λm b f=>?_⟩⟩,λd G H=>⟨Ū,λm b f=>?_⟩⟩;{cases b;have d:=Á d;omega};{cases b;exact ⟨_,rfl,(i t e).le au⟩}})
theorem Yz {S:zA L3}{t:Tr}(u:Bd L)(D:t.dJ λl=>Bd l/\l∈S)(F:S.length<=30)(E:∀l∈S,Bd l):M8 L (K6 (S.map λm=>Ø m L)) t:=by have ⟨b,a⟩:=OM (S.map λm=>Ø m L);refine ⟨(Lu (D.imp λ_ h=>h.2)).imp λm h c=>(a _).2 (h c),b,?_,λx d=>?_⟩;{have:=QK (S.map λm=>Ø m L);rw [ĉ] at this;omega};{obtain ⟨m,hm,rfl⟩:=ă.1 ((a x).1 d);exact (kv u.e_ (E m hm).e_).s ω}
theorem kO {t:Tr}{P:zA Rat}(u:M8 L P t):tu (kd L t)/\(∀s∈kd L t,s.sz 1000000)/\(kd L t).length<=61:=by have r:tu (kd L t):=comb_reg _ _ _;refine ⟨r,Ba u.sz λs a=>⟨r.1 s a,ZC u.crs s a⟩,?_⟩;have:=A9 3 (nG L true t) (nG L false t);obtain ⟨-,-,f1,-⟩:=vy u true;obtain ⟨-,-,f2,-⟩:=vy u false;show (Ú 3 (nG L true t) (nG L false t)).length<=61;omega
def jq (t:Tr)(L:L3):List (L3×Sp):=(kd L t).map λs=>(L,s)
def kn (t:Tr)(D:List L3):List (L3×Sp):=D.flatMap λl=>jq t l++jq t (Ö l)
theorem E8:Ú 1 [bT] []=[bT]:=by refine reg_eq (à ([bT]++[])) (comb_reg ..) ⟨λs h=>by rw [ö.1 h];exact lf,Qf0 _ _⟩ λt a=>?_;rw [comb_inB 1 _ _ a];simp [Ğ,í]
def Aq (fs F:List (L3×Sp)):Prop:=∀{V:Ó} {p:OA} {n c:Nat},bo 17 pH V p n fs->(fs=[]->p=none)->À 89 #[.slice p n c] V λr W=>∃q m e,r=.slice q m e/\bo 17 pH W q m F
def Uy (V:Ó)(n c:Nat)(vs:List Value)(l:List (L3×Sp)):Prop:=GR 17 pH V n c vs l/\(l=[]->c=0)
theorem Uy.le {V V':ut}{c:Nat}{vs:zA un}{l:zA (L3×Sp)}(h:Uy V n c vs l)(g:V.Le V'):Uy V' n c vs l:=⟨h.1.s λ_ _ k=>zU.le k g,h.2⟩
set_option maxHeartbeats 4000000 in
theorem pW {q:OA}{t:Tr}(h:RT V q t)(ha:t.dJ Bd)(hs:t.size<4000)(hD:(aY t.di).length<=50)(hc:∀l∈aY t.di,∃P P',M8 l P t/\M8 (Ö l) P' t)(so:∀i,i<=60->pR i)(sl:F4 t.di.length)(cl:Ic t.di.length){F:zA (L3×Sp)}(hJ:Aq (kn t (aY t.di)) F):À 31 #[qyQ q] V λr W=>∃p n c,r=dB p n c/\bo 17 pH W p n F:=by
 refine wh V _ λV1 l1=>(Ix (h.le l1) ha hs sl cl).s ?_;rintro r V2 l2 ⟨p,n,c,m,rfl,gD,sD⟩;rw [Sy sD] at gD;have b5:=hD;generalize aY t.di=D at *;obtain rfl:=gD.len
 have kj:∀l∈D,(jq t l).length<=61/\(jq t (Ö l)).length<=61:=λl N=>by have ⟨P,P',c1,c2⟩:=hc l N;unfold jq;rw [ĉ,ĉ];exact ⟨(kO c1).2.2,(kO c2).2.2⟩
 have RY:∀j,(kn t (D.take j)).length<=122*50:=λj=>by
  have:∀E:zA L3,(∀l∈E,l∈D)->(kn t E).length<=122*E.length:=λE hE=>by
   induction E with
   | nil=>exact Ù _
   | cons l E ih=>
    have h1:=ih λx hx=>hE x (Ă _ hx);have ⟨f1,f2⟩:=kj l (hE l (č ..));unfold kn at *;rw [ē,ë,ë,Ą];omega
  have h1:=this (D.take j) λl N=>Qr2 _ _ N;rw [è] at h1;omega
 refine ⟨p,_,c,rfl,λz V'=>∃j:Nat,z.2.2.2=(j:Int)/\j<=D.length/\Uy V' z.1 z.2.1 z.2.2.1 (kn t (D.take j)),λz=>D.length-z.2.2.2.toNat,⟨(0,0,[],0),σ,0,rfl,á _,GR.nil,λ_=>rfl⟩,?_⟩;rintro ⟨z1,z2,vs,z4⟩ V3 l3 ⟨j,J,qA,K⟩;dsimp only at J K;subst J;dsimp only;rw [Ü];refine ⟨rfl,λA=>?_,λA fo b0 bk hb=>?_⟩;rotate_left
 ·have A:¬(j:Int)<D.length:=Â A;obtain rfl:j=D.length:=ω;rw [ď] at K;obtain ⟨K,h0⟩:=K;obtain rfl:=K.len;refine (hJ (bo.bq hb (K.row.le λ_ _ g=>zU.le g b0) φ K.le) λe=>by rw [h0 e];rfl).s ?_;rintro r fg dy ⟨q',m',e',rfl,g⟩;exact ⟨q',m',e',rfl,λ_ gT dX=>⟨q',m',e',rfl,g.le dX λ_ _ g=>zU.le g dX⟩⟩
 have A:(j:Int)<D.length:=Á A;have hi:j<D.length:=ω
 have w:i64.wrap ((j:Int)+1)=((j+1:Nat):Int):=by rw [ao ω];rfl
 rw [w];obtain ⟨ps,O,Q,R,S,T,U,v,y,W,a,b1,a0,a1,a2,a3,a4,a5,a6,a7,a8,X⟩:=VM (gD.le l3 λ_ _ k=>mF.le k l3) hi;have N:=ó hi
 have et:kn t (D.take (j+1))=kn t (D.take j)++(jq t D[j]++jq t (Ö D[j])):=by unfold kn;rw [Ĭ,ñ hi];show List.flatMap _ (_++[D[j]])=_;rw [ŧ,ē,Wq5,þ]
 have ⟨P,P',c1,c2⟩:=hc _ N;have ⟨f1,f2⟩:=kj _ N;have fj:=RY j;have b2:=RY (j+1);rw [et] at b2;generalize D[j]=L at *;obtain ⟨X,bl⟩:=X;have X:wJ V3 _ L:=X;refine ⟨ps,⟨ω,ω⟩,O,Q,R,S,T,U,v,y,W,a,b1,a0,a1,a2,a3,a4,a5,a6,a7,a8,λV4 l4=>(kK (X.le l4) bl.e_).s ?_⟩;rintro r V5 l5 gr;have H3:wJ V5 r (Ö L):=gr;obtain ⟨s1,s2,s3,s4,s5,s6,s7,s8,s9,rfl,-,-,-⟩:=gr
 refine ⟨s1,s2,s3,s4,s5,s6,s7,s8,s9,rfl,λz V'=>∃i:Nat,z.2.2.2.1=(i:Int)/\i<=2/\z.2.2.2.2=[Ô .i64 O,Ô .i64 Q,qyQ R,Ô .i64 S,Ô .i64 T,qyQ U,Ô .i64 v,Ô .i64 y,qyQ W,Ô .i64 s1,Ô .i64 s2,qyQ s3,Ô .i64 s4,Ô .i64 s5,qyQ s6,Ô .i64 s7,Ô .i64 s8,qyQ s9]/\V5.Le V'/\Uy V' z.1 z.2.1 z.2.2.1 (kn t (D.take j)++([L,Ö L].take i).flatMap (jq t)),λz=>2-z.2.2.2.1.toNat,
  ⟨(z1,z2,vs,0,_),σ,0,rfl,ω,rfl,Ó.Le.refl _,by show Uy V5 z1 z2 vs (_++[]);rw [þ];exact K.le au⟩,?_⟩
 rintro ⟨u1,u2,us,u4,lits⟩ V6 l6 ⟨i,J,NB,Y,Qv,Vt⟩;dsimp only at J Y Vt;subst J Y;dsimp only;rw [Ü];refine ⟨rfl,λf=>?_,λf=>?_⟩;rotate_left
 ·have f:¬(i:Int)<2:=Â f;obtain rfl:i=2:=ω;have e:([L,Ö L].take 2).flatMap (jq t)=jq t L++jq t (Ö L):=by{show jq t L++(jq t (Ö L)++[])=_;rw [þ]};rw [e,<-et] at Vt;exact ⟨(u1,u2,us,((j+1:Nat):Int)),by dsimp only;omega,σ,j+1,rfl,hi,Vt⟩
 have f:(i:Int)<2:=Á f;have wi:i64.wrap ((i:Int)+1)=((i+1:Nat):Int):=by rw [ao ω];rfl
 have b3:∃(Z Uv:Int)(B:OA)(C G:Int)(H:OA)(Uh Ui:Int)(I:OA)(d:L3),((0+i*9)+9<=([Ô .i64 O,Ô .i64 Q,qyQ R,Ô .i64 S,Ô .i64 T,qyQ U,Ô .i64 v,Ô .i64 y,qyQ W,Ô .i64 s1,Ô .i64 s2,qyQ s3,Ô .i64 s4,Ô .i64 s5,qyQ s6,Ô .i64 s7,Ô .i64 s8,qyQ s9]:zA un).length/\(([Ô .i64 O,Ô .i64 Q,qyQ R,Ô .i64 S,Ô .i64 T,qyQ U,Ô .i64 v,Ô .i64 y,qyQ W,Ô .i64 s1,Ô .i64 s2,qyQ s3,Ô .i64 s4,Ô .i64 s5,qyQ s6,Ô .i64 s7,Ô .i64 s8,qyQ s9]:zA un).drop (0+i*9)).take 9=[Ô .i64 Z,Ô .i64 Uv,qyQ B,Ô .i64 C,Ô .i64 G,qyQ H,Ô .i64 Uh,Ô .i64 Ui,qyQ I]) /\
   wJ V6 (qvK #[Ô .i64 Z,Ô .i64 Uv,qyQ B,Ô .i64 C,Ô .i64 G,qyQ H,Ô .i64 Uh,Ô .i64 Ui,qyQ I]) d/\Bd d/\(∃P,M8 d P t)/\([L,Ö L].take (i+1)).flatMap (jq t)=([L,Ö L].take i).flatMap (jq t)++jq t d/\(([L,Ö L].take i).flatMap (jq t)).length<=61:=by
  rcases (show i=0\/i=1 by omega) with rfl|rfl
  ·exact ⟨O,Q,R,S,T,U,v,y,W,L,⟨by show 0+0*9+9<=18;omega,rfl⟩,X.le au,bl,⟨P,c1⟩,by show jq t L++[]=[]++jq t L;rw [þ];rfl,á _⟩
  ·exact ⟨s1,s2,s3,s4,s5,s6,s7,s8,s9,Ö L,⟨by show 0+1*9+9<=18;omega,rfl⟩,H3.le Qv,bl.rev,⟨P',c2⟩,by show jq t L++(jq t (Ö L)++[])=(jq t L++[])++jq t (Ö L);rw [þ,þ],by show (jq t L++[]).length<=61;rw [þ];exact f1⟩
 obtain ⟨Z,Uv,B,C,G,H,Uh,Ui,I,d,a9,gL,bL,⟨PL,cL⟩,eT,fT⟩:=b3;refine ⟨⟨ω,ω⟩,Z,Uv,B,C,G,H,Uh,Ui,I,a9,λV7 l7=>(Rl (h.le au) ha (gL.le l7) bL cL so).s ?_⟩;rintro r V8 l8 ⟨p8,n8,c8,rfl,g8⟩;obtain rfl:=g8.len;have b6:=(kO cL).2.2
 refine ⟨p8,_,c8,rfl,λz V'=>∃k:Nat,z.2.2.2.1=(k:Int)/\k<=(kd d t).length/\z.2.2.2.2=[Ô .i64 O,Ô .i64 Q,qyQ R,Ô .i64 S,Ô .i64 T,qyQ U,Ô .i64 v,Ô .i64 y,qyQ W,Ô .i64 s1,Ô .i64 s2,qyQ s3,Ô .i64 s4,Ô .i64 s5,qyQ s6,Ô .i64 s7,Ô .i64 s8,qyQ s9]/\V8.Le V'/\Uy V' z.1 z.2.1 z.2.2.1 ((kn t (D.take j)++([L,Ö L].take i).flatMap (jq t))++((kd d t).take k).map λs=>(d,s)),λz=>(kd d t).length-z.2.2.2.1.toNat,
  ⟨(u1,u2,us,0,_),σ,0,rfl,á _,rfl,Ó.Le.refl _,by show Uy V8 u1 u2 us (_++[]);rw [þ];exact Vt.le au⟩,?_⟩
 rintro ⟨w1,w2,ws,w4,lits⟩ V9 l9 ⟨k,J,b7,Y,Zo,M⟩;dsimp only at J Y M;subst J Y;dsimp only;rw [Ü];refine ⟨rfl,λo=>?_,λo=>?_⟩;rotate_left
 ·have o:¬(k:Int)<(kd d t).length:=Â o;obtain rfl:k=(kd d t).length:=ω
  rw [ď] at M;refine ⟨(w1,w2,ws,((i+1:Nat):Int),_),by dsimp only;omega,by and_intros<;>first|rfl|exact wi,i+1,rfl,ω,rfl,Qv.m au,?_⟩;show Uy V9 w1 w2 ws _;rw [eT,<-Ĕ];exact M
 have o:(k:Int)<(kd d t).length:=Á o;have hk:k<(kd d t).length:=ω
 have wk:i64.wrap ((k:Int)+1)=((k+1:Nat):Int):=by rw [ao ω];rfl
 obtain ⟨ad,hd,xs,-,hq,u⟩:=(g8.le Zo λ_ _ g=>f_.le g Zo).at_ k hk;have b4:=hq;obtain ⟨v1,v2,v3,v4,v5,v6,ex,-,-⟩:=hq;have ex:=Æ Array.toList (Value.agg.inj ex);dsimp only at ex;subst ex;have zl:=M.1.len;rw [ë,ë,ĉ,è] at zl
 have ek:(((kd d t).take (k+1)).map λs=>(d,s))=(((kd d t).take k).map λs=>(d,s))++[(d,(kd d t)[k])]:=by rw [Ĭ,ñ hk,Ń];rfl
 have rf:pH V9 (qvK #[Ô .i64 Z,Ô .i64 Uv,qyQ B,Ô .i64 C,Ô .i64 G,qyQ H,Ô .i64 Uh,Ô .i64 Ui,qyQ I,Ô .i64 v1,Ô .i64 v2,qyQ v3,Ô .i64 v4,Ô .i64 v5,qyQ v6,Õ (kd d t)[k].a,Õ (kd d t)[k].b]) (d,(kd d t)[k]):=⟨_,_,_,_,_,_,_,_,_,_,_,_,_,_,_,rfl,gL.le au,b4⟩;refine ⟨aK hd,⟨ω,ω⟩,v1,v2,v3,v4,v5,v6,_,_,ad,hd,u 0 _ rfl,u 1 _ rfl,u 2 _ rfl,u 3 _ rfl,u 4 _ rfl,u 5 _ rfl,u 6 _ rfl,u 7 _ rfl,ω,M.1.le,M.1.cap,rfl,one17,λsp c' h1 h2=>⟨(w1+1,c',_,((k+1:Nat):Int),_),by dsimp only;omega,by and_intros<;>first|rfl|exact wk,k+1,rfl,hk,rfl,Zo,?_,λe=>?_⟩⟩
 ·show GR 17 pH V9 _ _ _ _;rw [ek,<-Ĕ];exact M.1.snoc rfl rf φ h1 h2
 ·rw [ek,<-Ĕ] at e;simp at e
theorem jC {root:Int}{l:zA Nd}(M:∀x∈l,Bd x.ln)(h:AT V v root l){t:Tr}(N:Fx l root=some t)(O:t.depth<=1024)(Z:t.dJ Bd)(hs:t.size<4000)(hD:(aY t.di).length<=50)(hc:∀l∈aY t.di,∃P P',M8 l P t/\M8 (Ö l) P' t)(so:∀i,i<=60->pR i)(sl:F4 t.di.length)(cl:Ic t.di.length){F:zA (L3×Sp)}(hJ:Aq (kn t (aY t.di)) F)(kj:F.length<=10000)(sz:∀f∈F,iJ 1000000 f.1/\f.2.sz 1000000)(hy:pQ V 0 y)(hz:pQ V 1 z):À 9 #[v] V λr W=>∃p n c,r=æ #[dB p n c,.nilIface]/\F3 W p n F:=by have k:=h;obtain ⟨q,n,c,rfl,-⟩:=h;refine pI V _ λC a=>(pf M (k.le a) (hy.le a) (hz.le a)).s ?_;rintro r V2 D ⟨-,g⟩;obtain ⟨p,rfl,gt⟩:=g t N O;refine ⟨p,.nilIface,rfl,.inl rfl,π,λ_ E m=>(pW (gt.le m) Z hs hD hc so sl cl hJ).s ?_⟩;rintro r G H ⟨o,s,u,rfl,w⟩;refine ⟨o,s,u,rfl,λI b=>(Ld (Wv (w.le b λ_ _ g=>zU.le g b)) kj sz).s ?_⟩;rintro r J K ⟨d,e,j,rfl,A⟩;exact ⟨d,e,j,rfl,λL B=>⟨d,e,j,rfl,A.le B⟩⟩
def FX:Tr:=.node LL (.leaf true) (.leaf false)
theorem Hw:FX.dJ jO:=⟨⟨LL_ok,QA⟩,trivial,trivial⟩
theorem W7:kd LL FX=[bT]/\kd (Ö LL) FX=[]:=by have b:=reg_eq (à ([]++[])) (comb_reg ..) ⟨λs h=>(by cases h),List.Pairwise.nil⟩ λt a=>by{rw [comb_inB 1 _ _ a];simp [Ğ,í]};have c:bh LL true FX bT=[bT]:=by{unfold FX;rw [bh,Ä (.inl ⟨rfl,rfl⟩)];rfl};have d:bh LL false FX bT=[]:=by{unfold FX;rw [bh,Ã φ,Ä (.inl rfl)];rfl};have e:bh (Ö LL) true FX bT=[]:=by{unfold FX;rw [bh,Ã φ,Ä (.inr φ)];rfl};have f:bh (Ö LL) false FX bT=[bT]:=by{unfold FX;rw [bh,Ä (.inr ⟨φ,rfl⟩)];rfl};unfold kd;rw [c,d,e,f,b,E8];refine ⟨?_,?_⟩;{refine reg_eq (à ([bT]++[])) (comb_reg ..) ⟨λs h=>by rw [ö.1 h];exact lf,Qf0 _ _⟩ λt a=>?_;rw [comb_inB 3 _ _ a];simp [Ğ,í]};{refine reg_eq (à ([]++[bT])) (comb_reg ..) ⟨λs h=>(by cases h),List.Pairwise.nil⟩ λt a=>?_;rw [comb_inB 3 _ _ a];simp [Ğ,í]}
theorem Rv (h:Û LL L=0):M8 L [] FX:=⟨⟨λg=>Å h g,trivial,trivial⟩,List.Pairwise.nil,ψ,λx h=>by cases h⟩
theorem fr_HP:kn FX (aY FX.di)=[(LL,bT)]:=by have e:aY FX.di=[LL]:=κ;rw [e];unfold kn jq;rw [ē,W7.1,W7.2];rfl
set_option maxHeartbeats 1000000 in
theorem OW (hj:Aq [(LL,bT)] [(LL,bT)])(cl:Ic 1)(hy:pQ V 0 y)(hz:pQ V 1 z):À 13 #[] V λr W=>r=Õ true:=by refine CU V _ λV1 K=>(dE 0 0 ω ω ω).s λr V2 l2 C=>RP.ex C λ_ _ C _ _=>λV3 l3=>(dE 1 0 ω ω ω).s λr V4 l4 D=>RP.ex D λ_ _ D _ _=>λV5 l5=>(Gq ra ra).s ?_;rintro r L l6 ⟨l,rfl,m⟩;obtain ⟨b1,u1,v1,w1,b2,u2,v2,w2,b3,u3,v3,w3,rfl⟩:=Ih m;refine ⟨_,_,_,_,_,_,_,_,_,_,_,_,_,rfl,λV7 M=>(cO true).s ?_⟩;rintro r N O ⟨pa,rfl,Q⟩;refine ⟨_,rfl,λV9 E=>(cO false).s ?_⟩;rintro r R t ⟨pb,rfl,S⟩;have g:=M.m (O.m (E.m t));refine ⟨_,rfl,λs u T U e2=>(tO (V:=s.ar [T]) (ln:=LL) (x:=.leaf true) (y:=.leaf false) U (RL.le (V:=L) (V':=s.ar _) m λb o h=>(g.m u) b o h) (RW.le (V:=N) (V':=s.ar _) (λb o h=>(E.m au) b o h) Q) (RW.le (V:=R) (V':=s.ar _) (λb o h=>u b o h) S) Hw φ).s ?_⟩;rintro r W X ⟨Y,a⟩;have j:=a;clear a;obtain ⟨q,n,c,rfl,-⟩:=id j;have k:s.Le W:=λb o h=>X b o h;refine qyJ ⟨rfl,_,_,_,_,_,_,_,_,_,_,_,_,_,_,_,_,Y,λiL v=>?_⟩;have F:=((K.m au).m au).m v;have Z:Aq (kn FX (aY FX.di)) [(LL,bT)]:=by{rw [fr_HP];exact hj};have w:∀l∈aY FX.di,∃P P',M8 l P FX/\M8 (Ö l) P' FX:=λl m=>by{rw [ö.1 m];exact ⟨[],[],Rv κ,Rv κ⟩};refine (jC (qC (xE Hw)) (j.le v) (L9 (Hw.imp λ_ h=>h.1) φ) φ (Hw.imp λ_ h=>h.2) φ φ w (λi hi=>xJ i) (My _) cl Z φ (λf hf=>by rw [ö.1 hf];exact ⟨QA.e_.up ω,CB _,CB _⟩) (hy.le F) (hz.le F)).s ?_;rintro r lR gj ⟨p,n,c,rfl,G⟩;obtain rfl:=G.len;obtain ⟨d,e,xs,⟨c1,c2,c3,c4,c5,c6,c7,c8,c9,d1,d2,d3,d4,d5,d6,d7,d8,d9,d10,d11,d12,d13,d14,d15,d16,d17,ex,gl,-⟩,a⟩:=G.at_ 0 φ;have ex:=Æ Array.toList (Value.agg.inj ex);subst ex;have A:=aK e;have az:d.add 0=d:=by{simp [Addr.add]};have H:ae (some d) 6=some (d.add 6):=rfl;refine ⟨p,1,c,.nilIface,rfl,.inl rfl,λ_=>⟨λ_=>⟨A,⟨φ,φ⟩,by rw [e];rfl,_,_,_,_,_,_,_,_,_,_,_,_,d,by rw [e];show some (d.add 0)=_;rw [az],a 0 _ rfl,a 1 _ rfl,a 2 _ rfl,a 3 _ rfl,a 4 _ rfl,a 5 _ rfl,λlS I=>(qc (m.le ((g.m (u.m (k.m (v.m gj)))).m I)) φ φ φ).s ?_⟩,π⟩,π⟩;rintro r kH fy B;obtain ⟨_,_,_,_,_,_,_,_,_,_,_,_,rfl⟩:=Ih B;refine wqQ ⟨rfl,λlT ij=>(sR ra ra φ φ φ).s ?_⟩;rintro r mZ hU rfl;have J:=I.m (fy.m (ij.m hU));refine ⟨_,rfl,λ_=>⟨A,⟨φ,φ⟩,by rw [e];rfl,by rw [e];rfl,true,⟨d.add 12,by rw [e,H];show some ((d.add 6).add 6)=_;rw [fQ],J.at (a 12 _ rfl)⟩,λ_=>⟨A,⟨φ,φ⟩,by rw [e];rfl,by rw [e];rfl,true,⟨d.add 13,by rw [e,H];show some ((d.add 6).add 7)=_;rw [fQ],J.at (a 13 _ rfl)⟩,λpS jN=>rfl⟩,π⟩,λh=>by simp at h⟩
theorem vx {fs:zA (L3×Sp)}(D:∀f∈fs,Bd f.1/\f.2.sz 1000000):∀f∈dh fs,iJ 1000000 f.1/\f.2.sz 1000000:=λf a=>by
 have ⟨m,hm,a⟩:=ĕ.1 a;obtain ⟨s,b,rfl⟩:=ă.1 a;obtain ⟨g,c,rfl⟩:=ă.1 (((cE _).2 _).1 hm);refine ⟨(D g c).1.e_.up ω,U8 φ (λu hu=>?_) (λu hu=>by cases hu) s b⟩;obtain ⟨x,d,rfl⟩:=ă.1 hu;exact (D x (Ł.1 d).1).2
theorem NL (h:s.a=false):s.H9.length=1:=by unfold Sp.H9;rw [h];rfl
theorem NA (h:s.b=false):s.GJ.length=1:=by unfold Sp.GJ;rw [h];rfl
theorem Oa:∀{l:zA Sp},tu l->(∀s∈l,s.a=false)->2*l.length<=fe l+1
 | [],_,_=>á _
 | [s],_,h=>by
  have:=NL (h s (č ..));rw [rK,ë,Qc4];omega
 | s::z::r,h,u=>by
  have c:=Oa h.tail λx b=>u x (Ă _ b);have d:=NL (u s (č ..));have e:=NA (h.K7 (č ..)).1;rw [rK,ë,Ą];omega
theorem ZL:∀{l:zA Sp},tu l->2*l.length<=fe l+2
 | [],_=>á _
 | [s],_=>by rw [Qc4];omega
 | s::z::r,h=>by
  have u:=Oa h.tail λx a=>(h.K7 a).2.1;have b:=NA (h.K7 (č ..)).1;rw [rK,ë,Ą];omega
theorem E7 (A:zA Sp):(Ú 1 A []).length<=A.length+1:=by have a:=ZL (comb_reg 1 A []);have b:=U7 1 A [];have c:=RX A;have d:fe []=0:=rfl;omega
theorem Bk {α:Type}(p:α->md):∀l:zA α,(l.filter p).length+(l.filter λx=>!p x).length=l.length
 | []=>rfl
 | x::r=>by
  have u:=Bk p r;rw [Wq6,Wq6];cases p x<;>simp<;>omega
theorem JH:∀(L:zA L3)(l:zA (L3×Sp)),L.Pairwise qD->(L.map λm=>(ax m l).length).sum<=l.length
 | [],_,_=>á _
 | m::L,l,h=>by
  have ⟨u,D⟩:=ħ.1 h
  have e:(L.map λa=>(ax a l).length)=L.map λa=>(ax a (l.filter λx=>!decide (x.1=m))).length:=by
   refine ś λa hm=>?_;unfold ax;rw [List.filter_filter];congr 2;refine List.filter_congr λx _=>?_;by_cases c:x.1=a
   ·have:¬x.1=m:=λe=>yy (show qD m m from by have:=u a hm;rw [<-c,e] at this;exact this);simp [c,this];rw [c] at this;simpa using this
   ·simp [c]
  have b:=JH L (l.filter λx=>!decide (x.1=m)) D;have f:=Bk (λx:L3×Sp=>decide (x.1=m)) l;rw [Ķ,Wz6,e];have g:(ax m l).length=(l.filter λx=>decide (x.1=m)).length:=by unfold ax;rw [ĉ]
  omega
theorem BG (l:zA L3):(cK l).length<=l.length:=by
 have:∀(l o:zA L3),(l.foldl (λo x=>iT x o) o).length<=o.length+l.length:=by
  intro l
  induction l with
  | nil=>exact λo=>Ù _
  | cons y r u=>intro o;have a:=u (iT y o);have b:=Bt y o;rw [Ő,Ą];omega
 have:=this l [];simpa [cK] using this
theorem xw (l:zA (L3×Sp)):(dh l).length<=2*l.length:=by
 have b:=JH (cK (l.map Prod.fst)) l (cE _).1;have a:=BG (l.map Prod.fst);rw [ĉ] at a;unfold dh;generalize cK (l.map Prod.fst)=L at *
 have c:(L.flatMap λm=>(Ú 1 (ax m l) []).map λs=>(m,s)).length<=(L.map λm=>(ax m l).length).sum+L.length:=by
  clear b a
  induction L with
  | nil=>exact Ù _
  | cons m r u=>
   have:=E7 (ax m l);rw [ē,ë,ĉ,Ķ,Wz6,Ą];omega
 omega
theorem IP {A:zA Sp}(h:tu A):Ú 1 A []=A:=by refine reg_eq (à (A++[])) (comb_reg ..) h λt a=>?_;rw [comb_inB 1 _ _ a,inB_nil];unfold Ğ;simp
theorem Cr (C:L3->zA Sp)(m:L3):∀L:zA L3,L.Pairwise qD->ax m (L.flatMap λu=>(C u).map λs=>(u,s))=if m∈L then C m else []
 | [],_=>rfl
 | k::L,h=>by
  have ⟨D,E⟩:=ħ.1 h
  have b:ax m ((k::L).flatMap λu=>(C u).map λs=>(u,s))=ax m ((C k).map λs=>(k,s))++ax m (L.flatMap λu=>(C u).map λs=>(u,s)):=by
   unfold ax;rw [ē,Qh9,Ń]
  rw [b,(Cr C m L E)];by_cases c:m=k
  ·subst c;rw [Ã λhm=>yy (D m hm),Ä (č ..),þ];unfold ax;rw [Qr5.2 λx a=>by obtain ⟨s,-,rfl⟩:=ă.1 a;exact Ç rfl,Qt6];exact List.map_id _
  ·have e:ax m ((C k).map λs=>(k,s))=[]:=by{unfold ax;rw [Qh7.2 λx a=>by obtain ⟨s,-,rfl⟩:=ă.1 a;simp;exact λh=>c h.symm];rfl};rw [e,Ŏ];by_cases d:m∈L;{rw [Ä d,Ä (Ă _ d)]};{rw [Ã d,Ã λh=>by rcases ê.1 h with h|h;exact c h;exact d h]}
theorem VW (h:ch l=true):ch (Ö l)=true:=by unfold ch Ö bZ at *;simp only [ť] at *;simpa using h
theorem O8:Ú 1 [] []=[]:=IP ⟨λ_ h=>(nomatch h),List.Pairwise.nil⟩
theorem Cs {l:zA (L3×Sp)}(h:m∉l.map Prod.fst):ax m l=[]:=by unfold ax;rw [Qh7.2 λx a=>?_];rfl;intro e;exact h (ă.2 ⟨x,a,Á e⟩)
theorem FM (m:L3)(a b:zA (L3×Sp)):ax m (a++b)=ax m a++ax m b:=by unfold ax;rw [Qh9,Ń]
theorem FO (m L:L3)(t:Tr):ax m (jq t L)=if L=m then kd m t else []:=by unfold jq;by_cases h:L=m;{subst h;rw [Ä rfl];unfold ax;rw [Qr5.2 λx a=>by obtain ⟨s,-,rfl⟩:=ă.1 a;exact Ç rfl,Qt6];exact List.map_id _};{rw [Ã h];refine Cs λg=>h ?_;obtain ⟨x,a,rfl⟩:=ă.1 g;obtain ⟨s,-,rfl⟩:=ă.1 a;rfl}
theorem IL (h:ch l=true):bN (Ö l)=bN l:=by have a:=iV h;unfold Nz at a;unfold bN;by_cases c:l.1<0\/l.1=0/\l.2.1<0;{rw [Ä c,Ã (by unfold Ö;dsimp only;omega)]};{rw [Ã c,Ä (by unfold Ö;dsimp only;omega),rev_rev]}
theorem FN (t:Tr)(m:L3):∀{D:zA L3},D.Pairwise qD->(∀l∈D,ch l=true/\bN l=l)->ax m (kn t D)=if bN m∈D then kd m t else []
 | [],_,_=>rfl
 | l::D,h,u=>by
  have ⟨E,F⟩:=ħ.1 h;have ⟨o,c⟩:=u l (č ..);have e:kn t (l::D)=(jq t l++jq t (Ö l))++kn t D:=rfl;rw [e,FM,FM,FO,FO,(FN t m F λx f=>u x (Ă _ f))];have out:bN m=l->bN m∉D:=λg k=>yy (show qD l l by have:=E _ k;rwa [g] at this);by_cases a:l=m
  ·subst a;rw [Ä rfl,Ã (ZN o),Ã (out c),Ä (by rw [c];exact č ..)];simp
  ·rw [Ã a];by_cases b:Ö l=m
   ·subst b;have g:bN (Ö l)=l:=by rw [IL o,c]
    rw [Ä rfl,Ã (out g),Ä (by rw [g];exact č ..)];simp
   ·rw [Ã b]
    have g:bN m≠l:=λg=>by
     rcases mK m with k|k<;>rw [k] at g
     ·exact a g.symm
     ·exact b (by rw [<-g,rev_rev])
    by_cases d:bN m∈D
    ·rw [Ä d,Ä (Ă _ d)];rfl
    ·rw [Ã d,Ã λk=>by rcases ê.1 k with k|k;exact g k;exact d k];rfl
def Xc (m:L3)(t:Tr):List Rat:=t.di.map λk=>Ø k m
theorem crs_T (m:L3)(t:Tr):Yc m (Xc m t) t:=Lu (Tr.nf λ_ h=>h)
theorem Hx (u:ch m=true){q:Rat}{v w:Rat×Rat}:∀{t:Tr},(∀k∈t.di,ch k=true/\k≠m/\k≠Ö m/\Ø k m≠q)->aV.oV t (cg m q,cj m q) v=aV.oV t (cg m q,cj m q) w
 | .leaf _,_=>rfl
 | .node k a b,h=>by
  have ⟨ok,D,E,F⟩:=h k (č ..);have d:aC k (cg m q) (cj m q)≠0:=by rcases GZ ok u (t:=q) (Ne.symm F) with g|g|g;exact Å g D;exact Å g E;exact g
  have s:∀x,aV.J3 k (cg m q,cj m q) x=(aC k (cg m q) (cj m q)).num.sign:=λx=>by
   unfold aV.J3;rw [Ã λe=>d (aV.vS.1 e)]
  unfold aV.oV;rw [s,s,(Hx u (v:=v) (w:=w) (t:=a) λx c=>h x (Ă _ (Ļ _ c))),(Hx u (v:=v) (w:=w) (t:=b) λx c=>h x (Ă _ (Œ _ c)))]
theorem QQ (u:ch m=true){t:Tr}(D:∀k∈t.di,ch k=true)(h:bN m∉t.di.map bN):kd m t=[]:=by refine reg_eq (Xc m t) (comb_reg ..) ⟨λ_ h=>(nomatch h),List.Pairwise.nil⟩ λq b=>?_;have ne:∀k∈t.di,k≠m/\k≠Ö m:=λk a=>⟨λe=>h (ă.2 ⟨k,a,by rw [e]⟩),λe=>h (ă.2 ⟨k,a,by rw [e,IL u]⟩)⟩;rw [XR (crs_T m t) u (Tr.nf D) b,Hx u (v:=dY m true) (w:=dY m false) λk a=>⟨D k a,(ne k a).1,(ne k a).2,λe=>b (ă.2 ⟨k,a,e⟩)⟩];cases (aV.oV t (cg m q,cj m q) (dY m false)).1<;>rfl
theorem On {t:Tr}(u:∀k∈t.di,ch k=true)(m:L3):ax m (kn t (aY t.di))=if ch m=true then kd m t else []:=by
 have ⟨d1,d2⟩:=iS t.di
 rw [FN t m d1 λl b=>by
  obtain ⟨k,a,rfl⟩:=ă.1 ((d2 l).1 b);exact ⟨NQ (u k a),Ro k⟩]
 by_cases o:ch m=true
 ·rw [Ä o];by_cases c:bN m∈aY t.di;{rw [Ä c]};{rw [Ã c,QQ o u λk=>c ((d2 _).2 k)]}
 ·rw [Ã o,Ã λc=>o ?_];have ⟨k,a,e⟩:=ă.1 ((d2 _).1 c);have:=NQ (u k a);rw [e] at this;rcases mK m with g|g<;>rw [g] at this;{exact this};{rw [<-rev_rev m];exact VW this}
theorem Kb (m:L3)(l:zA (L3×Sp)):ax m (dh l)=Ú 1 (ax m l) []:=by show ax m ((cK (l.map Prod.fst)).flatMap λm=>(Ú 1 (ax m l) []).map λs=>(m,s))=_;rw [Cr (λm=>Ú 1 (ax m l) []) m _ (cE _).1];split;{rfl};{rename_i h;rw [Cs λg=>h (((cE _).2 m).2 g),O8]}
structure wH (S:List L3) (t:Tr):Prop where
 ok:t.dJ jO
 on:t.dJ λl=>Bd l/\l∈S
 kj:S.length<=25
 bd:∀l∈S,Bd l
 size:t.size<4000
 dep:t.depth<=1024
section
variable {S:List L3} {t:Tr} (h:wH S t)
include h
theorem wH.Qr {m:L3}(u:Bd m):M8 m (K6 (S.map λk=>Ø k m)) t:=Yz u h.on (by have:=h.kj;omega) h.bd
theorem wH.Uu:∀l∈aY t.di,jO l:=I3 (q:=jO) (λl h=>by rcases mK l with e|e<;>rw [e];exact h;exact mz h) λl a=>ju h.ok l a
theorem wH.oks:∀l∈t.di,ch l=true:=λl a=>(ju h.ok l a).1
theorem wH.lines:(aY t.di).length<=25:=by have ⟨d1,d2⟩:=iS t.di;have:=List.Nodup.length_le_of_subset (l₂:=S.map bN) (d1.imp λ{a b} g (e:a=b)=>by subst e;exact yy g) λx c=>by{grind [ju,h.on]};grind [h.kj]
theorem wH.each (m:L3):(ax m (kn t (aY t.di))).length<=61:=by rw [On h.oks];split;{rename_i o;by_cases c:bN m∈t.di.map bN;{have ⟨k,b,e⟩:=ă.1 c;have a:=(ju h.ok k b).2.can;rw [e] at a;have d:Bd m:=by{grind [mK,rev_rev,a.rev]};exact (kO (h.Qr d)).2.2};grind [QQ,h.oks]};{exact á _}
theorem wH.qk:∀f∈kn t (aY t.di),FOk f.1 f.2/\Bd f.1/\f.2.sz 1000000:=λf a=>by
 have ⟨l,d,a⟩:=ĕ.1 a;have k:=h.Uu l d
 have one:∀m,jO m->f∈jq t m->FOk f.1 f.2/\Bd f.1/\f.2.sz 1000000:=λm b hm=>by
  obtain ⟨s,c,rfl⟩:=ă.1 hm;obtain ⟨r,z,-⟩:=kO (h.Qr b.2);exact ⟨⟨b.1,r.1 s c⟩,b.2,z s c⟩
 rcases ø.1 a with g|g<;>grind [mz]
theorem wH.len:(kn t (aY t.di)).length<=3050:=by
 have:∀E:zA L3,(∀l∈E,jO l)->(kn t E).length<=122*E.length:=λE a=>by
  induction E with
  | nil=>exact Ù _
  | cons l E u=>
   have c:=u λx b=>a x (Ă _ b);have k:=a l (č ..);have f1:=(kO (h.Qr k.2)).2.2;have f2:=(kO (h.Qr k.2.rev)).2.2;unfold kn jq at *;grind
 grind [h.Uu,h.lines]
theorem UW {V:ut}{v y z:un}(u:AT V v (rt 0 t) (wr 0 t))(D:pQ V 0 y)(E:pQ V 1 z):À 9 #[v] V λr W=>∃p n c,r=æ #[dB p n c,.nilIface]/\F3 W p n (dh (kn t (aY t.di))):=by
 have e:=h.len;have k:=h.lines;have j:=xw (kn t (aY t.di));have sz:=h.size
 exact jC (qC (xE h.ok)) u (L9 (NT h.ok)) h.dep (xE h.ok) sz ω (λl b=>⟨_,_,h.Qr (h.Uu l b).2,h.Qr (h.Uu l b).2.rev⟩) (λi _=>xJ i) (My _) (Rq _)
  (λg d=>wR g d ω (λm=>ō (h.each m) ω) (λf a=>(h.qk f a).2.1.e_.up ω) (λf a=>(h.qk f a).1.2) (λf a=>(h.qk f a).2.2) λi=>xJ i) ω (vx λf a=>(h.qk f a).2) D E
end
end
section
variable{V:Ó}{p:OA}{c i k n:Nat}{xs:List Value}
theorem VC:Aq [(LL,bT)] [(LL,bT)]:=λg a=>by
 have e:dh [(LL,bT)]=[(LL,bT)]:=by
  show List.flatMap _ [LL]=_;rw [Qs9,show ax LL [(LL,bT)]=[bT] by unfold ax;simp,E8];rfl
 refine (wR g a ψ (λm=>ō (by unfold ax;rw [ĉ];exact Qp3 ..) (show 1<70 by omega)) (by simp;exact QA.e_.up ω) (by simp;exact lf) (by simp;exact ⟨CB _,CB _⟩) λi=>xJ i).s λr b _ h=>?_
 rwa [e] at h
def Yg (V:Ó)(v:Value)(x:L3×Sp):Prop:=QB V v x.1 x.2
theorem yO {fs:zA (L3×Sp)}(h:bo 14 iI V p n fs)(hn:fs.length<=1000000)(Z:∀f∈fs,iJ k f.1/\f.2.sz k)(hk:k<=2^40:=by omega):À 15 #[dB p n c] V λr W=>∃q m e,r=dB q m e/\bo 14 Yg W q m fs:=by obtain rfl:=h.len;refine xU V _ ⟨λz V'=>∃j:Nat,z.2.2.2=(j:Int)/\j<=fs.length/\GR 14 Yg V' z.1 z.2.1 z.2.2.1 (fs.take j),λz=>fs.length-z.2.2.2.toNat,⟨(0,0,[],0),σ,0,rfl,á _,GR.nil⟩,?_⟩;rintro ⟨B,C,K,L⟩ M t ⟨j,u,N,d⟩;dsimp only at u d;subst u;have l:=d.len;refine ⟨rfl,λb=>?_,λb O D P E=>?_⟩;rotate_left;{have b:¬(j:Int)<fs.length:=Â b;obtain rfl:j=fs.length:=ω;rw [ď] at d l;subst l;exact ⟨_,_,C,rfl,bo.bq E (d.row.le λ_ _ g=>QB.le g D) φ d.le⟩};have b:(j:Int)<fs.length:=Á b;have i:j<fs.length:=ω;have w:i64.wrap ((j:Int)+1)=((j+1:Nat):Int):=by{rw [ao ω];rfl};dsimp only;rw [Ü,w];obtain ⟨F,v,xs,Q,x,a⟩:=(h.le t λ_ _ g=>iI.le g t).at_ j i;have o:=x;obtain ⟨_,_,_,_,_,_,_,_,_,_,_,_,_,_,_,_,_,_,_,_,_,_,_,_,_,_,ex,-,-⟩:=x;have ex:=Æ Array.toList (Value.agg.inj ex);dsimp only at ex;subst ex;have ⟨s1,s2⟩:=Z _ (ó i);rw [è] at l;refine ⟨aK v,⟨ω,ω⟩,_,_,_,_,_,_,_,_,_,_,_,_,_,_,_,_,_,_,_,_,_,_,_,_,_,_,_,_,F,v,a 0 _ rfl,a 1 _ rfl,a 2 _ rfl,a 3 _ rfl,a 4 _ rfl,a 5 _ rfl,a 6 _ rfl,a 7 _ rfl,a 8 _ rfl,a 9 _ rfl,a 10 _ rfl,a 11 _ rfl,a 12 _ rfl,a 13 _ rfl,λV2 y=>(AV (iI.le o y) s1 s2 hk).s ?_⟩;rintro r R G A;have s:=A;obtain ⟨_,_,_,_,_,_,_,_,_,_,_,_,_,_,_,_,_,_,_,_,_,_,_,_,_,_,rfl,-,-⟩:=A;refine ⟨_,_,_,_,_,_,_,_,_,_,_,_,_,_,_,_,_,_,_,_,_,_,_,_,_,_,_,_,rfl,ω,d.le,d.cap,rfl,JB,λsp H I J=>⟨(B+1,H,_,((j+1:Nat):Int)),by dsimp only;omega,σ,j+1,rfl,i,?_⟩⟩;rw [<-ŀ i];exact (d.s λ_ _ g=>QB.le g (y.m G)).snoc rfl s φ I J
theorem GS {al:zA (L3×Sp)}(h:bo 14 iI V p n al)(hi:i<al.length):p.isSome=true/\∃(b1:md)(u:OA)(D c1:Nat)(E:md)(F:OA)(M N:Nat)(O:md)(Z:OA)(n3 c3:Nat)(b:md)(q1:OA)(m1 e1:Nat)(q2:OA)(m2 e2:Nat)(d:md)(q3:OA)(m3 e3:Nat)(q4:OA)(m4 e4:Nat)(a:Addr),ae p (i*14)=some a/\V.at (a.add 0) (Õ b1)/\V.at (a.add 1) (dB u D c1)/\V.at (a.add 2) (Õ E)/\V.at (a.add 3) (dB F M N)/\V.at (a.add 4) (Õ O)/\V.at (a.add 5) (dB Z n3 c3)/\V.at (a.add 6) (Õ b)/\V.at (a.add 7) (dB q1 m1 e1)/\V.at (a.add 8) (dB q2 m2 e2)/\V.at (a.add 9) (Õ d)/\V.at (a.add 10) (dB q3 m3 e3)/\V.at (a.add 11) (dB q4 m4 e4)/\V.at (a.add 12) (Õ al[i].2.a)/\V.at (a.add 13) (Õ al[i].2.b)/\bP V (qvK #[Õ b1,dB u D c1,Õ E,dB F M N,Õ O,dB Z n3 c3]) al[i].1/\mb V (qvK #[Õ b,dB q1 m1 e1,dB q2 m2 e2,Õ d,dB q3 m3 e3,dB q4 m4 e4,Õ al[i].2.a,Õ al[i].2.b]) al[i].2:=by have ⟨f,e,xs,l,g,c⟩:=h.at_ i hi;obtain ⟨_,_,_,_,_,_,_,_,_,_,_,_,_,_,_,_,_,_,_,_,_,_,_,_,_,_,ex,j,k⟩:=g;have ex:=Æ Array.toList (Value.agg.inj ex);subst ex;refine ⟨?_,_,_,_,_,_,_,_,_,_,_,_,_,_,_,_,_,_,_,_,_,_,_,_,_,_,_,f,e,c 0 _ rfl,c 1 _ rfl,c 2 _ rfl,c 3 _ rfl,c 4 _ rfl,c 5 _ rfl,c 6 _ rfl,c 7 _ rfl,c 8 _ rfl,c 9 _ rfl,c 10 _ rfl,c 11 _ rfl,c 12 _ rfl,c 13 _ rfl,j,k⟩;(cases p with|none=>{cases e}|some a=>rfl)
theorem Hf {x:L3×Sp}(h:iI V (.agg xs.toArray) x):∀v∈xs,v.oneCell'=true:=by have ⟨_,_,_,_,_,_,_,_,_,_,_,_,_,_,_,_,_,_,_,_,_,_,_,_,_,_,ex⟩:=JZ h;have ex:=Æ Array.toList (Value.agg.inj ex);subst ex;exact JB
def tR (a b:Rat×Rat):Int:=if cY a.1 b.1=0 then cY a.2 b.2 else cY a.1 b.1
theorem U6 {a b:Rat×Rat}:a=b↔tR a b=0:=by grind [tR,fh.1,fh.2]
def lY (x:Rat×Rat):List (Rat×Rat)->List (Rat×Rat)
 | []=>[x]
 | y::r=>if tR y x<0 then y::lY x r else if y=x then y::r else x::y::r
theorem VA {x:Rat×Rat}:∀(o:zA (Rat×Rat))(k:Nat),k<=o.length->(∀j (h:j<o.length),j<k->tR o[j] x<0)->(∀h:k<o.length,¬tR o[k] x<0) ->lY x o=if (∃h:k<o.length,o[k]=x) then o else o.take k++x::o.drop k:=by
 intro o
 induction o with
 | nil=>
  intro k d _ _;simp [lY]
 | cons y r u=>
  intro k d a b
  cases k with
  | zero=>
   have c:¬tR y x<0:=b ψ;unfold lY;rw [Ã c];by_cases e:y=x
   ·rw [Ä e,Ä ⟨ψ,e⟩]
   grind
  | succ k=>
   have c:tR y x<0:=a 0 ψ ω;unfold lY;rw [Ä c,u k (by simpa using d) (λj h i=>a (j+1) (by simpa using h) ω) (λh=>b (by simpa using h))];by_cases e:∃h:k<r.length,r[k]=x
   ·obtain ⟨f,g⟩:=e;rw [Ä ⟨f,g⟩,Ä ⟨by simpa using f,g⟩]
   grind
theorem Jf (x:Rat×Rat):∀o:zA (Rat×Rat),(lY x o).length<=o.length+1
 | []=>by simp [lY]
 | y::r=>by
  have:=Jf x r;grind [lY]
theorem vw {x y:Rat×Rat}:∀{o:zA (Rat×Rat)},y∈lY x o↔y=x\/y∈o
 | []=>by simp [lY]
 | z::r=>by
  unfold lY;split
  ·rw [ê,(vw (x:=x) (y:=y) (o:=r)),ê];exact ⟨λh=>h.elim (λh=>.inr (.inl h)) λh=>h.elim .inl λh=>.inr (.inr h),λh=>h.elim (λh=>.inr (.inl h)) λh=>h.elim .inl λh=>.inr (.inr h)⟩
  ·split
   ·rename_i e;subst e;rw [ê];exact ⟨.inr,λh=>h.elim .inl id⟩
   ·rw [ê]
def jz (l:List (Rat×Rat)):List (Rat×Rat):=l.foldl (λo x=>lY x o) []
def Jq (a b:Rat×Rat):Prop:=tR a b<0
theorem Ag {a b:Rat×Rat}:Jq a b↔a.1<b.1\/a.1=b.1/\a.2<b.2:=by unfold Jq tR;by_cases h:cY a.1 b.1=0;{rw [Ä h,uY];have e:=fh.2 h;exact ⟨λg=>.inr ⟨e,g⟩,λg=>g.elim (λg=>χ) (·.2)⟩};{rw [Ã h,uY];have e:a.1≠b.1:=λe=>h (fh.1 e);exact ⟨.inl,λg=>g.elim id λg=>Å g.1 e⟩}
theorem Zu {a b:Rat×Rat}(h:¬Jq a b)(e:a≠b):Jq b a:=by rw [Ag] at *;obtain ⟨c,d⟩:=a;obtain ⟨f,g⟩:=b;dsimp only at *;have:¬(c=f/\d=g):=λ⟨i,j⟩=>e (by rw [i,j]);grind
theorem SE {a b c:Rat×Rat}(h:Jq a b)(g:Jq b c):Jq a c:=by rw [Ag] at *;grind
theorem Je {x:Rat×Rat}:∀{o:zA (Rat×Rat)},o.Pairwise Jq->(lY x o).Pairwise Jq
 | [],_=>Qf0 _ _
 | z::r,h=>by
  have ⟨u,D⟩:=ħ.1 h;unfold lY;split
  ·rename_i b;refine ħ.2 ⟨λy a=>?_,Je D⟩;rcases vw.1 a with rfl|a
   ·exact b
   ·exact u y a
  ·rename_i b;split
   ·exact h
   ·rename_i c;have d:Jq x z:=Zu b c;refine ħ.2 ⟨λy a=>?_,h⟩;rcases ê.1 a with rfl|a
    ·exact d
    ·exact SE d (u y a)
theorem Cq (l:zA (Rat×Rat)):(jz l).Pairwise Jq/\∀x,x∈jz l↔x∈l:=by
 have:∀(l o:zA (Rat×Rat)),o.Pairwise Jq->(l.foldl (λo x=>lY x o) o).Pairwise Jq/\∀x,x∈l.foldl (λo x=>lY x o) o↔x∈o\/x∈l:=by
  intro l
  induction l with
  | nil=>intro o h;exact ⟨h,λx=>ψ⟩
  | cons y r u=>
   intro o h;have ⟨a,b⟩:=u (lY y o) (Je h);refine ⟨a,λx=>?_⟩;rw [Ő,b x,vw,ê];constructor
   ·rintro ((h|h)|h)<;>simp [h]
   ·rintro (h|h|h)<;>simp [h]
 have ⟨a,b⟩:=this l [] List.Pairwise.nil;exact ⟨a,λx=>by rw [jz,b x];simp⟩
theorem SD {a:Rat×Rat}:¬Jq a a:=by rw [Ag];grind
theorem yE (l:zA (Rat×Rat)):(jz l).length<=l.length:=by
 have:∀(l o:zA (Rat×Rat)),(l.foldl (λo x=>lY x o) o).length<=o.length+l.length:=by
  intro l
  induction l with
  | nil=>exact λo=>Ù _
  | cons y r u=>intro o;have a:=u (lY y o);have b:=Jf y o;rw [Ő,Ą];omega
 grind [jz]
theorem Zt {al:zA (Rat×Rat)}(h:bo 6 cP V p n al)(hi:i<al.length):p.isSome=true/\∃(b1:md)(u:OA)(D c1:Nat)(E:OA)(F M:Nat)(N:md)(O:OA)(Z c3:Nat)(p4:OA)(n4 c4:Nat)(a:Addr),ae p (i*6)=some a/\V.at (a.add 0) (Õ b1)/\V.at (a.add 1) (dB u D c1)/\V.at (a.add 2) (dB E F M)/\V.at (a.add 3) (Õ N)/\V.at (a.add 4) (dB O Z c3)/\V.at (a.add 5) (dB p4 n4 c4)/\cP V (qvK #[Õ b1,dB u D c1,dB E F M,Õ N,dB O Z c3,dB p4 n4 c4]) al[i]:=oJ cP.shape h hi
theorem Of {q:Rat×Rat}(h:cP V (.agg xs.toArray) q):∀v∈xs,v.oneCell'=true:=by have ⟨_,_,_,_,_,_,_,_,_,_,_,_,_,_,ex⟩:=cP.shape h;have ex:=Æ Array.toList (Value.agg.inj ex);dsimp only at ex;subst ex;intro v a;simp only [ê,ę,Ì] at a;rcases a with rfl|rfl|rfl|rfl|rfl|rfl<;>rfl
theorem TJ {vs:zA un}{qs:zA (Rat×Rat)}(h:é 6 cP V vs qs)(hi:i<qs.length):∃b u D c1 E F M d N O Z p4 n4 c4,i*6+6<=vs.length/\(vs.drop (i*6)).take 6=[Õ b,dB u D c1,dB E F M,Õ d,dB N O Z,dB p4 n4 c4]/\cP V (qvK #[Õ b,dB u D c1,dB E F M,Õ d,dB N O Z,dB p4 n4 c4]) qs[i]:=by obtain ⟨xs,-,c,a⟩:=h.at_ i hi;have ⟨b,u,D,c1,E,F,M,d,N,O,Z,p4,n4,c4,e⟩:=cP.shape c;have e:=Æ Array.toList (Value.agg.inj e);dsimp only at e;subst e;have f:=a 5 _ rfl;have k:=(Ġ.1 f).1;refine ⟨_,u,D,c1,E,F,M,_,N,O,Z,p4,n4,c4,ω,?_,c⟩;apply Qg5;intro j;rw [Ħ];by_cases g:j<6;{rw [Ä g,Qm4];have:j=0\/j=1\/j=2\/j=3\/j=4\/j=5:=ω;rcases this with rfl|rfl|rfl|rfl|rfl|rfl;{exact (a 0 _ rfl)};{exact (a 1 _ rfl)};{exact (a 2 _ rfl)};{exact (a 3 _ rfl)};{exact (a 4 _ rfl)};{exact f}};{rw [Ã g,ţ (by simp;omega)]}
theorem ph {v w:un}{a b:Rat×Rat}(h:cP V v a)(h':cP V w b)(hs:Sz k a.1/\Sz k a.2)(Z:Sz k b.1/\Sz k b.2)(hk:2*k<2^38):À 118 #[v,w] V λr W=>r=Ô .i64 (tR a b):=by obtain ⟨p,n,c,s,x,y,q,m,e,z,A,B,rfl,C,D⟩:=h;obtain ⟨u,i,j,E,F,G,t,o,f,H,I,J,rfl,d,l⟩:=h';refine xQ V _ λK L=>(ew ra ra hs.1 Z.1).s ?_;rintro r V2 M rfl;refine ⟨_,rfl,λg N O=>?_,λg P Q=>(ew ra ra hs.2 Z.2).s ?_⟩;{have g:¬cY a.1 b.1=0:=by{simpa using g};unfold tR;rw [Ã g]};{have g:cY a.1 b.1=0:=by{simpa using g};rintro r R S rfl;exact ⟨_,rfl,λT U=>by unfold tR;rw [Ä g]⟩}
theorem pZ {ls:zA (Rat×Rat)}(h:bo 6 cP V p n ls)(hl:ls.length<=2000000)(hs:∀q∈ls,Sz k q.1/\Sz k q.2)(hk:2*k<2^38:=by omega):À 52 #[dB p n c] V λr W=>∃q m e,r=dB q m e/\bo 6 cP W q m (jz ls):=by
 obtain rfl:=h.len
 refine zI V _ ⟨λz V'=>∃(i:Nat)(O:zA (Rat×Rat)),z.2.2.2=(i:Int)/\i<=ls.length/\O.length<=i/\(∀q∈O,Sz k q.1/\Sz k q.2)/\jz ls=(ls.drop i).foldl (λo x=>lY x o) O/\GR 6 cP V' z.1 z.2.1 z.2.2.1 O,λz=>ls.length-z.2.2.2.toNat,
  ⟨(0,0,[],0),σ,0,[],rfl,á _,á _,(λq y=>by cases y),by rw [Qt5];rfl,GR.nil⟩,?_⟩
 rintro ⟨D,w2,us,z4⟩ V1 l1 ⟨i,O,e4,NB,b0,E,f,l⟩;dsimp only at e4 l;subst e4;have g1:=l.len;have F:=l.le;refine ⟨rfl,λa=>?_,λa fo G bk H=>?_⟩;rotate_left
 ·have a:¬(i:Int)<ls.length:=Â a;obtain rfl:i=ls.length:=ω;rw [Qr0] at f;have f:=f;rw [f];subst g1;exact ⟨_,_,w2,rfl,bo.bq H (l.row.le λ_ _ g=>cP.le g G) φ F⟩
 have a:(i:Int)<ls.length:=Á a;have A:i<ls.length:=ω
 have w:i64.wrap ((i:Int)+1)=((i+1:Nat):Int):=by rw [ao ω];rfl
 dsimp only;rw [Ü,w];obtain ⟨is,e1,ep,en,ec,eq,em,ee,e2,fp,fn,I,fq,fm,K,ad,ha,a0,a1,a2,a3,a4,a5,b1⟩:=Zt ra A;rw [(Ĥ A),Ő] at f;have L:=hs _ (ó A);generalize ls[i]=x at *;refine ⟨is,⟨ω,ω⟩,e1,ep,en,ec,eq,em,ee,e2,fp,fn,I,fq,fm,K,ad,ha,a0,a1,a2,a3,a4,a5,λz _=>∃j:Nat,z=(j:Int)/\j<=O.length/\∀(s:Nat)(h:s<O.length),s<j->tR O[s] x<0,λz=>O.length-z.toNat,⟨0,σ,0,rfl,á _,λs _ h=>Å h (ŋ s)⟩,?_⟩;rintro z V2 l2 ⟨j,rfl,qA,jl⟩;have wj:i64.wrap ((j:Int)+1)=((j+1:Nat):Int):=by rw [ao ω];rfl
 rw [Ü,wj];refine ⟨rfl,λz _=>z=true↔∃h:j<O.length,tR O[j] x<0,⟨λa=>?_,λa=>⟨false,σ,?_⟩⟩,?_⟩
 ·have a:=Á a;have d:j<O.length:=ω;obtain ⟨M,N,P,rc,Q,R,S,t,sp,T,U,W,u,X,Y,Z,hr⟩:=TJ l.row d;refine ⟨⟨ω,ω⟩,F,M,N,P,rc,Q,R,S,t,sp,T,U,W,u,X,⟨Y,Z⟩,λV3 l3=>(ph ra ra (E _ (ó d)) L hk).s λr V4 l4 rfl=>⟨_,rfl,_,σ,by dsimp only;rw [Ñ];exact ⟨λh=>⟨d,h⟩,λ⟨_,h⟩=>h⟩⟩⟩
 ·have a:=Â a;exact ⟨π,λ⟨h,_⟩=>Å h ω⟩
 rintro z V5 l5 Jc;refine ⟨rfl,λv=>?_,λv=>?_⟩
 ·have ⟨d,a6⟩:=Jc.1 v;refine ⟨((j+1:Nat):Int),by (try dsimp only);omega,σ,j+1,rfl,d,λs h b2=>?_⟩;by_cases e:s=j;{subst e;exact a6};{exact jl s h ω}
 have a7:∀h:j<O.length,¬tR O[j] x<0:=λh B=>by have:=Jc.2 ⟨h,B⟩;rw [v] at this;cases this
 have b:=VA O j qA jl a7;refine ⟨λz _=>z=true↔¬∃h:j<O.length,O[j]=x,⟨λhe=>⟨true,σ,?_⟩,λhe=>?_⟩,?_⟩
 ·have he:(j:Int)=(D:Int):=by{simpa using he};exact ⟨λ_ ⟨h,_⟩=>Å h ω,λ_=>rfl⟩
 ·have he:¬(j:Int)=(D:Int):=by{simpa using he};have d:j<O.length:=ω;obtain ⟨M,N,P,rc,Q,R,S,t,sp,T,U,W,u,X,Y,Z,hr⟩:=TJ l.row d;refine ⟨⟨ω,ω⟩,F,M,N,P,rc,Q,R,S,t,sp,T,U,W,u,X,⟨Y,Z⟩,λV6 l6=>(ph ra ra (E _ (ó d)) L hk).s λr V7 l7 rfl=>⟨_,rfl,_,σ,by dsimp only;rw [bne_iff_ne,ne_eq,<-U6];exact ⟨λh ⟨_,B⟩=>h B,λh B=>h ⟨d,B⟩⟩⟩⟩
 rintro z V8 l8 qp;refine ⟨rfl,λv V9 l9 bk H J=>?_,λv=>?_⟩
 ·have a8:=qp.1 v;rw [Ã a8] at b;obtain ⟨xs,ys,x1,x2,x3,y1,y2,y3,r1,r2,r3,r4,r5⟩:=rM (V:=V9) (l.s λ_ _ g=>cP.le g au) φ (λ_ _=>Of) H (es:=[_,_,_,_,_,_]) rfl ra (j:=j);refine ⟨⟨ω,ω⟩,⟨ω,ω⟩,⟨ω,ω⟩,xs,x1,x2,ω,Ù _,Ù 6,x2,x3,λb3 J2 sp c' h1 h2=>?_⟩;rw [r1,r2];(refine ⟨ys,y1,y2,Ù _,y3,ω,ω,r3,r4,λa9 C h3 h4=>⟨(j+(1+(D-j)),C,_,((i+1:Nat):Int)),by dsimp only;omega,by and_intros<;>first|rfl|omega,i+1,lY x O,rfl,A,?_,?_,f,?_⟩⟩);{rw [b,ë,è,Ą,ī];omega};{intro q y;rcases vw.1 y with rfl|y;{exact L};{exact E q y}};{show GR 6 cP _ _ _ _ (lY x O);rw [b];exact r5 a9 C h3 h4}
 ·have hex:=Qj0 λh=>by{have:=qp.2 h;rw [v] at this;cases this};rw [Ä hex] at b;rw [b] at f;exact ⟨(D,w2,us,((i+1:Nat):Int)),by dsimp only;omega,σ,i+1,O,rfl,A,ω,E,f,l.s λ_ _ g=>cP.le g au⟩
theorem LV {fs:zA (L3×Sp)}(h:bo 14 iI V p n fs)(hi:i<fs.length):p.isSome=true/\∃b1 F M c1 N O Z c2 b3 p3 n3 c3 b p' n' c' u D E d q m e q' m' e',∃a,ae p (i*14)=some a/\V.at (a.add 0) (Õ b1)/\V.at (a.add 1) (dB F M c1)/\V.at (a.add 2) (Õ N)/\V.at (a.add 3) (dB O Z c2)/\V.at (a.add 4) (Õ b3)/\V.at (a.add 5) (dB p3 n3 c3)/\V.at (a.add 6) (Õ b)/\V.at (a.add 7) (dB p' n' c')/\V.at (a.add 8) (dB u D E)/\V.at (a.add 9) (Õ d)/\V.at (a.add 10) (dB q m e)/\V.at (a.add 11) (dB q' m' e')/\V.at (a.add 12) (Õ fs[i].2.a)/\V.at (a.add 13) (Õ fs[i].2.b)/\bP V (qvK #[Õ b1,dB F M c1,Õ N,dB O Z c2,Õ b3,dB p3 n3 c3]) fs[i].1/\mb V (qvK #[Õ b,dB p' n' c',dB u D E,Õ d,dB q m e,dB q' m' e',Õ fs[i].2.a,Õ fs[i].2.b]) fs[i].2:=by obtain ⟨g,f,xs,-,j,c⟩:=h.at_ i hi;obtain ⟨_,_,_,_,_,_,_,_,_,_,_,_,_,_,_,_,_,_,_,_,_,_,_,_,_,_,ex,k,l⟩:=j;have ex:=Æ Array.toList (Value.agg.inj ex);dsimp only at ex;subst ex;exact ⟨aK f,_,_,_,_,_,_,_,_,_,_,_,_,_,_,_,_,_,_,_,_,_,_,_,_,_,_,g,f,c 0 _ rfl,c 1 _ rfl,c 2 _ rfl,c 3 _ rfl,c 4 _ rfl,c 5 _ rfl,c 6 _ rfl,c 7 _ rfl,c 8 _ rfl,c 9 _ rfl,c 10 _ rfl,c 11 _ rfl,c 12 _ rfl,c 13 _ rfl,k,l⟩
theorem Jo {l:zA (L3×Sp)}(hi:i<l.length):cK ((l.take (i+1)).map Prod.fst)=iT l[i].1 (cK ((l.take i).map Prod.fst)):=by rw [<-ŀ hi,Ń];unfold cK;rw [List.foldl_append];rfl
theorem Hn {l:zA (L3×Sp)}(hi:i<l.length)(m:L3):ax m (l.take (i+1))=ax m (l.take i)++if l[i].1=m then [l[i].2] else []:=by unfold ax;rw [<-ŀ hi,Qh9,Ń];congr 1;by_cases h:l[i].1=m;{rw [Ä h];simp [Wq6,h]};{rw [Ã h];simp [Wq6,h]}
theorem WA {x:Sp}(h:mb V (.agg xs.toArray) x):∀v∈xs,v.oneCell'=true:=by obtain ⟨_,_,_,_,_,_,_,_,_,_,_,_,_,_,ex,-,-⟩:=h;have ex:=Æ Array.toList (Value.agg.inj ex);dsimp only at ex;subst ex;intro v a;simp only [ê,ę,Ì] at a;rcases a with rfl|rfl|rfl|rfl|rfl|rfl|rfl|rfl<;>rfl
set_option maxHeartbeats 2000000 in
theorem Gm {fs:zA (L3×Sp)}(h:bo 14 iI V p n fs)(hn:fs.length<=10000)(hs:∀f∈fs,iJ k f.1/\f.2.sz k)(hk:4*k+8<2^38:=by omega):À 43 #[dB p n c] V λr W=>∃q m e,r=dB q m e/\bo 14 iI W q m (dh fs):=by
 obtain rfl:=h.len
 refine Ez V _ ⟨λz V'=>∃i:Nat,z.2.2.2=(i:Int)/\i<=fs.length/\GR 6 bP V' z.1 z.2.1 z.2.2.1 (cK ((fs.take i).map Prod.fst)),λz=>fs.length-z.2.2.2.toNat,
  ⟨(0,0,[],0),σ,0,rfl,á _,GR.nil⟩,?_⟩
 rintro ⟨K,w2,us,z4⟩ V1 l1 ⟨i,v,NB,M⟩;dsimp only at v M;subst v;have g1:=M.len;have fc:=M.le;have fv:=M.cap;have fx:=M.row
 have Pp:∀q∈cK ((fs.take i).map Prod.fst),iJ k q:=λq hq=>by obtain ⟨y,hy,rfl⟩:=ă.1 (((cE _).2 q).1 hq);exact (hs y (Qb3 hy)).1
 have b8:(cK ((fs.take i).map Prod.fst)).length<=10000:=by have:=BG ((fs.take i).map Prod.fst);rw [ĉ,è] at this;omega
 refine ⟨rfl,λd=>?_,λd=>?_⟩
 ·have d:(i:Int)<fs.length:=Á d;have N:i<fs.length:=ω;have w:i64.wrap ((i:Int)+1)=((i+1:Nat):Int):=by{rw [ao ω];rfl};dsimp only;rw [Ü,w];obtain ⟨is,eb,ep,en,ec,fb,fp,fn,fe,gb,gp,gn,gc,P,Q,R,S,T,U,W,X,Y,Y9,Z,b0,Xp,b4,ad,ha,a0,a1,a2,a3,a4,a5,a6,a7,a8,a9,Nc,Nf,E,OE,A,-⟩:=LV (h.le l1 λ_ _ g=>iI.le g l1) N;have Qt:=Jo N;have b6:=(hs _ (ó N)).1;clear M;generalize cK ((fs.take i).map Prod.fst)=O at *;refine ⟨is,⟨ω,ω⟩,eb,ep,en,ec,fb,fp,fn,fe,gb,gp,gn,gc,P,Q,R,S,T,U,W,X,Y,Y9,Z,b0,Xp,b4,_,_,ad,ha,a0,a1,a2,a3,a4,a5,a6,a7,a8,a9,Nc,Nf,E,OE,?_⟩;clear a0 a1 a2 a3 a4 a5 a6 a7 a8 a9 Nc Nf E OE ha;generalize fs[i].1=x at *;refine ⟨λz _=>∃j:Nat,z=(j:Int)/\j<=O.length/\∀(L:Nat)(h:L<O.length),L<j->iq O[L] x<0,λz=>O.length-z.toNat,⟨0,σ,0,rfl,á _,λL _ h=>Å h (ŋ L)⟩,?_⟩;rintro z V2 l2 ⟨j,rfl,qA,jl⟩;have wj:i64.wrap ((j:Int)+1)=((j+1:Nat):Int):=by{rw [ao ω];rfl};rw [Ü,wj];refine ⟨rfl,λz _=>z=true↔∃h:j<O.length,iq O[j] x<0,⟨λd=>?_,λd=>⟨false,σ,?_⟩⟩,?_⟩;{have d:(j:Int)<(K:Int):=Á d;have o:j<O.length:=ω;have ⟨b1,p1,n1,c1,b2,p2,n2,c2,b3,p3,n3,c3,eK,yS,hr⟩:=ue fx o;refine ⟨⟨ω,ω⟩,fc,b1,p1,n1,c1,b2,p2,n2,c2,b3,p3,n3,c3,⟨eK,yS⟩,λV5 l5=>(fH (bP.le hr (l2.m l5)) (bP.le A (l2.m l5)) (Pp _ (ó o)) b6).s ?_⟩;rintro r V6 l6 rfl;exact ⟨_,rfl,_,σ,by dsimp only;rw [Ñ];exact ⟨λh=>⟨o,h⟩,λ⟨_,h⟩=>h⟩⟩};{have d:¬(j:Int)<(K:Int):=Â d;exact ⟨π,λ⟨h,_⟩=>Å h ω⟩};rintro z V7 l7 Jc;refine ⟨rfl,λl=>?_,λl=>?_⟩;{have ⟨o,b9⟩:=Jc.1 l;refine ⟨((j+1:Nat):Int),by (try dsimp only);omega,σ,j+1,rfl,o,λL h d4=>?_⟩;by_cases e:L=j;{subst e;exact b9};{exact jl L h ω}};have c0:∀h:j<O.length,¬iq O[j] x<0:=λh F=>by{have:=Jc.2 ⟨h,F⟩;rw [l] at this;cases this};have u:=ND O j qA jl c0;have ij:=l2.m l7;refine ⟨λz _=>z=true↔¬∃h:j<O.length,O[j]=x,⟨λhe=>⟨true,σ,?_⟩,λhe=>?_⟩,?_⟩;{have he:(j:Int)=(K:Int):=by{simpa using he};exact ⟨λ_ ⟨h,_⟩=>Å h ω,λ_=>rfl⟩};{have he:¬(j:Int)=(K:Int):=by{simpa using he};have o:j<O.length:=ω;have ⟨b1,p1,n1,c1,b2,p2,n2,c2,b3,p3,n3,c3,eK,yS,hr⟩:=ue fx o;refine ⟨⟨ω,ω⟩,fc,b1,p1,n1,c1,b2,p2,n2,c2,b3,p3,n3,c3,⟨eK,yS⟩,λV8 l8=>(fH (bP.le hr (ij.m l8)) (bP.le A (ij.m l8)) (Pp _ (ó o)) b6).s ?_⟩;rintro r V9 l9 rfl;exact ⟨_,rfl,_,σ,by dsimp only;rw [bne_iff_ne,ne_eq,rH];exact ⟨λh ⟨_,F⟩=>h F,λh F=>h ⟨o,F⟩⟩⟩};rintro z fo G qp;have Jk:=ij.m G;refine ⟨rfl,λl fg dy bk hb J=>?_,λl=>?_⟩;{have c7:=qp.1 l;rw [Ã c7] at u;obtain ⟨xs,ys,x1,x2,x3,y1,y2,y3,r1,r2,r3,r4,r5⟩:=rM (V:=fg) (GR.s ⟨g1,fc,fv,fx⟩ λ_ _ g=>bP.le g (Jk.m dy)) φ (λ_ _=>rX) hb (es:=[_,_,_,_,_,_]) rfl (bP.le A (Jk.m dy)) (j:=j);refine ⟨⟨ω,ω⟩,⟨ω,ω⟩,⟨ω,ω⟩,xs,x1,x2,ω,Ù _,Ù 6,x2,x3,λd5 J2 sp c' h1 h2=>?_⟩;rw [r1,r2];(refine ⟨ys,y1,y2,Ù _,y3,ω,ω,r3,r4,λc8 B h3 h4=>⟨(j+(1+(K-j)),B,_,((i+1:Nat):Int)),by dsimp only;omega,by and_intros<;>first|rfl|omega,i+1,rfl,N,?_⟩⟩;show GR 6 bP _ _ _ _ (cK ((fs.take (i+1)).map Prod.fst));rw [Qt,u];exact r5 c8 B h3 h4)};{have hex:∃h:j<O.length,O[j]=x:=Qj0 λh=>by{have:=qp.2 h;rw [l] at this;cases this};rw [Ä hex] at u;refine ⟨(K,w2,us,((i+1:Nat):Int)),by dsimp only;omega,σ,i+1,rfl,N,?_⟩;show GR 6 bP _ _ _ _ (cK ((fs.take (i+1)).map Prod.fst));rw [Qt,u];exact ⟨g1,fc,fv,fx.le λ_ _ g=>bP.le g Jk⟩}
 have d:¬(i:Int)<fs.length:=Â d;obtain rfl:i=fs.length:=ω
 rw [ď] at g1 fx Pp b8;have eJ:dh fs=(cK (fs.map Prod.fst)).flatMap λm=>(Ú 1 (ax m fs) []).map λs=>(m,s):=rfl;rw [eJ];clear eJ M;generalize cK (fs.map Prod.fst)=O at *;obtain ⟨C,hC⟩:∃C:L3->zA Sp,C=λm=>Ú 1 (ax m fs) []:=⟨_,rfl⟩;have b7:∀m,(ax m fs).length<=fs.length:=λm=>by unfold ax;rw [ĉ];exact Qp3 ..
 have Cl:∀m,(C m).length<=fs.length+1:=λm=>by rw [hC];exact ü (E7 _) (Nat.succ_le_succ (b7 m))
 rw [show (λm=>(Ú 1 (ax m fs) []).map λs=>(m,s))=λm=>(C m).map λs=>(m,s) from by rw [hC]]
 refine ⟨λz V'=>∃a:Nat,z.2.2.2=(a:Int)/\a<=O.length/\GR 14 iI V' z.1 z.2.1 z.2.2.1 ((O.take a).flatMap λm=>(C m).map λs=>(m,s))/\((O.take a).flatMap λm=>(C m).map λs=>(m,s)).length<=10001*a,λz=>O.length-z.2.2.2.toNat,
  ⟨(0,0,[],0),σ,0,rfl,á _,GR.nil,á _⟩,?_⟩
 rintro ⟨n2,c2,os,z4⟩ fo G ⟨a,v,d6,og,d3⟩;dsimp only at v og;subst v;refine ⟨rfl,λd=>?_,λd lT ij bk hb=>?_⟩;rotate_left
 ·have d:¬(a:Int)<(K:Nat):=Â d;obtain rfl:a=O.length:=ω;rw [ď] at og;have:=bo.bq hb (og.row.le λ_ _ g=>iI.le g ij) φ (by rw [<-og.len];exact og.le);rw [<-og.len] at this;exact ⟨_,_,_,rfl,this⟩
 have d:(a:Int)<(K:Nat):=Á d;have ha:a<O.length:=ω
 have wa:i64.wrap ((a:Int)+1)=((a+1:Nat):Int):=by rw [ao ω];rfl
 dsimp only;rw [Ü,wa];have ⟨b1,p1,n1,c1,b2,p2,Qx,B,b3,p3,n3,c3,eK,yS,hm⟩:=ue (fx.le λ_ _ g=>bP.le g G) ha;have c9:=Pp _ (ó ha);have tk:O.take (a+1)=O.take a++[O[a]]:=(ŀ ha).symm;have fm:(O.take (a+1)).flatMap (λm=>(C m).map λs=>(m,s))=(O.take a).flatMap (λm=>(C m).map λs=>(m,s))++(C O[a]).map λs=>(O[a],s):=by rw [tk,ŧ,Qs9]
 have d7:=Cl O[a];have d8:=b7 O[a];have eC:C O[a]=Ú 1 (ax O[a] fs) []:=by rw [hC]
 generalize O[a]=m at *
 refine ⟨⟨ω,ω⟩,fc,b1,p1,n1,c1,b2,p2,Qx,B,b3,p3,n3,c3,⟨eK,yS⟩,λz V'=>∃j:Nat,z.2.2.2=(j:Int)/\j<=fs.length/\GR 8 mb V' z.1 z.2.1 z.2.2.1 (ax m (fs.take j)),λz=>fs.length-z.2.2.2.toNat,
  ⟨(0,0,[],0),σ,0,rfl,á _,GR.nil⟩,?_⟩
 rintro ⟨n4,c4,vs,z4⟩ fg dy ⟨j,v,qA,H⟩;dsimp only at v H;subst v;have b5:=H.len;refine ⟨rfl,λd=>?_,λd lR gj bk hb=>?_⟩
 ·have d:(j:Int)<fs.length:=Á d;have o:j<fs.length:=ω;have w:i64.wrap ((j:Int)+1)=((j+1:Nat):Int):=by{rw [ao ω];rfl};dsimp only;rw [Ü,w];have XC:=G.m dy;obtain ⟨is,eb,ep,en,ec,fb,fp,fn,fe,gb,gp,gn,gc,P,Q,R,S,T,U,W,X,Y,Y9,Z,b0,Xp,b4,ad,h0,a0,a1,a2,a3,a4,a5,a6,a7,a8,a9,Nc,Nf,E,OE,A,I⟩:=LV (h.le (l1.m XC) λ_ _ g=>iI.le g (l1.m XC)) o;have ss:=Hn o m;have sl:(ax m (fs.take j)).length<=10000:=by{unfold ax;rw [ĉ];have:=Qp3 (λx:L3×Sp=>decide (x.1=m)) (fs.take j);rw [è] at this;omega};refine ⟨is,⟨ω,ω⟩,eb,ep,en,ec,fb,fp,fn,fe,gb,gp,gn,gc,P,Q,R,S,T,U,W,X,Y,Y9,Z,b0,Xp,b4,_,_,ad,h0,a0,a1,a2,a3,a4,a5,a6,a7,a8,a9,Nc,Nf,E,OE,λgT dX=>(fH (bP.le A dX) (bP.le hm (dy.m dX)) (hs _ (ó o)).1 c9).s ?_⟩;rintro r iL dS rfl;refine ⟨_,rfl,λl=>?_,λl=>⟨(n4,c4,vs,((j+1:Nat):Int)),by dsimp only;omega,σ,j+1,rfl,o,?_⟩⟩;{have l:=rH.1 (Ë.1 l);rw [Ä l] at ss;refine ⟨ω,H.le,H.cap,rfl,WA I,λsp c' k1 k2=>⟨(n4+1,c',_,((j+1:Nat):Int)),by dsimp only;omega,σ,j+1,rfl,o,?_⟩⟩;rw [ss];exact (H.s (V':=iL) λ_ _ g=>mb.le g (dX.m dS)).snoc rfl (mb.le I (dX.m dS)) φ k1 k2};{have l:¬fs[j].1=m:=λe=>by{rw [rH.2 e] at l;cases l};rw [Ã l,þ] at ss;rw [ss];exact H.s λ_ _ g=>mb.le g (dX.m dS)}
 have d:¬(j:Int)<fs.length:=Â d;obtain rfl:j=fs.length:=ω
 rw [ď] at H b5;have hA:=bo.bq hb (H.row.le λ_ _ g=>mb.le g gj) φ (by rw [<-b5];exact H.le);rw [<-b5] at hA;refine (jR (op:=1) (la':=ax m fs) (lb':=[]) (rQ hA) ⟨rfl,λi N=>Å N (ŋ i)⟩ (by rw [İ];omega) (λs F=>by obtain ⟨f,hf,rfl⟩:=ă.1 F;exact (hs f (Ł.1 hf).1).2) (λs F=>by cases F) hk).s ?_;rintro r lS gC ⟨q,n5,c5,rfl,hR⟩;rw [<-eC] at hR;have hR:=hR.lst;refine ⟨_,_,_,rfl,λJ=>?_⟩;clear eC;generalize C m=D at *;obtain rfl:=hR.len;have Sl:=dy.m (gj.m gC);refine ⟨λz V'=>∃t:Nat,z.2.2.2=(t:Int)/\t<=D.length/\GR 14 iI V' z.1 z.2.1 z.2.2.1 ((O.take a).flatMap (λm=>(C m).map λs=>(m,s))++(D.take t).map λs=>(m,s)),λz=>D.length-z.2.2.2.toNat,⟨(n2,c2,os,0),σ,0,rfl,á _,?_⟩,?_⟩
 ·rw [Qd2,Wk1,þ];exact og.s λ_ _ g=>iI.le g Sl
 rintro ⟨n6,c6,ts,z4⟩ kH fy ⟨t,v,d9,tg⟩;dsimp only at v tg;subst v;have d0:=tg.len;rw [ë,ĉ,è] at d0;refine ⟨rfl,λd=>?_,λd=>?_⟩
 ·have d:(t:Int)<(D.length:Nat):=Á d;have ht:t<D.length:=ω;have w:i64.wrap ((t:Int)+1)=((t+1:Nat):Int):=by{rw [ao ω];rfl};dsimp only;rw [Ü,w];have ⟨is,d1,q1,m1,f1,q2,m2,f2,d2,q3,m3,f3,q4,m4,f4,ad,h0,a0,a1,a2,a3,a4,a5,a6,a7,I⟩:=Af (hR.le fy λ_ _ g=>mb.le g fy) ht;have he:iI kH (qvK #[Õ b1,dB p1 n1 c1,Õ b2,dB p2 Qx B,Õ b3,dB p3 n3 c3,Õ d1,dB q1 m1 f1,dB q2 m2 f2,Õ d2,dB q3 m3 f3,dB q4 m4 f4,Õ D[t].a,Õ D[t].b]) (m,D[t]):=⟨_,_,_,_,_,_,_,_,_,_,_,_,_,_,_,_,_,_,_,_,_,_,_,_,_,_,rfl,bP.le hm (Sl.m fy),I⟩;refine ⟨is,⟨ω,ω⟩,_,_,_,_,_,_,_,_,_,_,_,_,_,_,_,_,ad,h0,a0,a1,a2,a3,a4,a5,a6,a7,ω,tg.le,tg.cap,rfl,Hf he,λsp c' k1 k2=>⟨(n6+1,c',_,((t+1:Nat):Int)),by dsimp only;omega,σ,t+1,rfl,ht,?_⟩⟩;rw [<-ŀ ht,Ń,<-Ĕ];exact tg.snoc (a:=(m,D[t])) rfl he φ k1 k2
 ·have d:¬(t:Int)<(D.length:Nat):=Â d;obtain rfl:t=D.length:=ω;rw [ď] at tg;exact ⟨(n6,c6,ts,((a+1:Nat):Int)),by dsimp only;omega,σ,a+1,rfl,ha,by rw [fm];exact tg,by rw [fm,ë,ĉ];omega⟩
end
end Go.Proofs.Tryz
