import Derived.Test.YtlhmddanbgcbjaaGreatDoorF21
set_option linter.all false
open Go.IntKind (i64 u64 u32)
namespace Go.Proofs.Tryz
open Go.Eng Go.Big
open Go.Value renaming slice→zF,agg→hF,bool→dB,pointer→dS,int→Ô
variable{V:Ó}{p:OA}{c k n:Nat}
def Qo (L:List (List (Rat×Rat))):List L3:=(L.flatMap mM).map Prod.fst
abbrev Va (S:List L3)(d:Nat)(t:Tr):Prop:=Lo (λl=>me l/\l∈S) d (aw.pos []) t
theorem Hx:∃x,aw.pos [] x:=⟨(0,0),λ_ h=>nomatch h⟩
theorem FD {L:pz (pz (Rat×Rat))}(hL:∀l∈L,Pg l):(L.flatMap mM).length<=6*L.length:=by
 induction L with
 | nil=>simp
 | cons l L ih=>
  have:=ih λl h=>hL l (ó _ h);have:=(hL l (þ ..)).len;have:=nD l;rw [Ď,í,Ą];omega
theorem sJ {p2:OA}{n2 c2:Nat}{fill:Int}{L:pz (pz (Rat×Rat))}(h:bP 1 DP V p n L)(hn:L.length<=2)(hL:∀l∈L,Pg l):À 70 #[hF #[zF p n c,Ô .i64 fill,zF p2 n2 c2]] V λr V'=>∃o t,r=dS o/\RW V' o t/\Va (Qo L) 12 t:=by obtain rfl:=h.len;have M:Pgs L:=⟨ω,λl v=>⟨by have:=(hL l v).len;omega,λx F=>⟨((hL l v).sm x F).1.s ω,((hL l v).sm x F).2.s ω⟩⟩⟩;refine DF V _ ⟨λz V'=>∃j:Nat,z.2.2.2=(j:Int)/\j<=L.length/\GR 14 tm V' z.1 z.2.1 z.2.2.1 ((L.take j).flatMap mM),λz=>L.length-z.2.2.2.toNat,⟨(0,0,[],0),σ,0,rfl,â _,GR.nil⟩,?_⟩;rintro ⟨N,z2,vs,z4⟩ V1 i ⟨j,G,yF,b⟩;dsimp only at G b;subst G;have zl:=b.len;have el:=FD (L:=L.take j) λl h=>hL l (Wq7 _ _ h);rw [é] at el;dsimp only;rw [Ý];refine ⟨rfl,λa=>?_,λa V4 y bk O=>?_⟩;{have a:=Á a;have s:j<L.length:=ω;have w:i64.wrap ((j:Int)+1)=((j+1:Nat):Int):=by{rw [au ω];rfl};rw [w];obtain ⟨P,Q,R,S,A,g⟩:=Hl (h.le i λ_ _ k=>DP.le k i) s;have k:=hL _ (ù s);have k6:=k.len;refine ⟨P,⟨ω,ω⟩,Q,R,S,A,λV2 B=>(sI (g.le B λ_ _ k=>cS.le k B) k).s ?_⟩;rintro r V3 T ⟨U,m2,W,rfl,H⟩;obtain rfl:=H.len;have ej:=nD L[j];have ⟨xs,X,u,I⟩:=eI H φ;refine ⟨U,_,W,rfl,xs,X,u,ω,b.le,b.cap,u,HK I u,λsp Y C D=>⟨(N+_,Y,_,((j+1:Nat):Int)),by dsimp only;omega,σ,j+1,rfl,s,?_⟩⟩;have e:(L.take (j+1)).flatMap mM=(L.take j).flatMap mM++mM L[j]:=by{rw [ŀ,ô s];show List.flatMap _ (_++[L[j]])=_;rw [Qc1,Ď,Wk2,Ć]};rw [e];exact (b.s λ_ _ g=>tm.le g (B.m T)).app I u φ C D};{have a:=Â a;obtain rfl:j=L.length:=ω;rw [ě] at b;obtain rfl:=b.len;have E:∀f∈L.flatMap mM,X1 f:=λf d=>by{obtain ⟨l,C,D⟩:=Đ.1 d;exact (hL l C).Yq f D};refine (I9 (q:=λl=>me l/\l∈Qo L) 12 (c:=[]) ω (bP.bM O (b.row.le λ_ _ g=>tm.le g y) φ b.le) E (λf d=>⟨⟨(E f d).ok,(E f d).bd⟩,ò.2 ⟨f,d,rfl⟩⟩) (bP.nil (p:=none)) (λm h=>nomatch h) φ (h.le (i.m y) λ_ _ k=>DP.le k (i.m y)) M).s ?_;rintro r V5 l5 ⟨o,t,rfl,w,J,Z⟩;refine ⟨o,rfl,λV6 l6=>(ld t (w.le l6) (J.imp λ_ h=>h.1)).s ?_⟩;rintro r V7 l7 ⟨K,rfl,w'⟩;exact ⟨K,rfl,λV8 l8=>⟨K,_,rfl,w'.le l8,(tZ (λ_ h=>h.1.1) J ţ Hx).s Z⟩⟩}
theorem gQ {op:Int}{b:Tr}(kb:b.dV me):∀(a:Tr) {V:ut} {p pb cp:OA} {cn cc:Nat} {c:pz L3},RW V p a->RW V pb b->a.dV me->bP 6 cO V cp cn c->(∀m∈c,me m)->c.length+a.depth+b.depth<=980 ->À 23 #[Ô .i64 op,dS p,dS pb,zF cp cn cc] V λr V'=>∃q,r=dS q/\RW V' q (qD op a b c)
 | .leaf i,V,p,pb,cp,cn,cc,c,h,hb,_,hc,kc,hd=>by
  have ⟨s,e0,e1⟩:=oZ h;simp only [Tr.depth] at hd;have G:∀{W:ut},V.Le W->∃a,ae p 1=some a/\W.at a (dB i):=λg=>(oZ (h.le g)).2.2;have eq:∀k:Int,(op==k)=true->op=k:=λk h=>by simpa using h
  have ne:∀k:Int,(op==k)=false->op≠k:=λk h=>by simpa using h
  refine qX V _ ⟨s,s,_,e0,λ_ V1 X=>(dH b (hb.le X) kb (hc.le X λ_ _ k=>cO.le k X) kc ω).s ?_,κ⟩;rintro r V2 I ⟨q,rfl,g⟩;have sP:=X.m I
  have dn:∀{c:md} {P:Prop} [Decidable P],(c=true->P)->(c=false->¬P)->c=decide P:=λ{c P _} a b=>by
   cases c
   ·exact (È (b rfl)).symm
   ·exact (Ç (a rfl)).symm
  have fin:∀{W:ut} (t:Tr),qD op (.leaf i) b c=t->∀{o:OA},RW W o t->∃q,Value.pointer o=dS q/\RW W q (qD op (.leaf i) b c):=λ{W} t e {o} k=>⟨o,rfl,by rw [e];exact k⟩;refine ⟨q,rfl,λz _=>z=decide (op=1/\i=true),⟨λn=>⟨s,s,i,G sP,_,σ,dn (λh=>⟨eq 1 n,h⟩) λh g=>by rw [h] at g;exact nomatch g.2⟩,λn=>⟨false,σ,dn κ λ_ g=>ne 1 n g.1⟩⟩,?_⟩;rintro z V3 Y rfl;refine ⟨rfl,λv V4 Z=>(cX true).s ?_,λv=>?_⟩
  ·have v:=Á v;rintro r V5 l5 ⟨o,rfl,k⟩;exact ⟨o,rfl,λV6 J=>fin _ (by unfold qD;rw [Ä v]) (k.le J)⟩
  have v:=Â v;have yG:=sP.m Y;refine ⟨λz _=>z=decide ((op=2\/op=3)/\i=false),⟨λn=>⟨s,s,i,G yG,_,σ,dn (λh=>⟨.inl (eq 2 n),by simpa using h⟩) λh g=>by rw [g.2] at h;exact nomatch h⟩,λn=>⟨λw=>⟨s,s,i,G yG,_,σ,dn (λh=>⟨.inr (eq 3 w),by simpa using h⟩) λh g=>by rw [g.2] at h;exact nomatch h⟩,λw=>⟨false,σ,dn κ λ_ g=>g.1.elim (ne 2 n) (ne 3 w)⟩⟩⟩,?_⟩;rintro z V7 D rfl;refine ⟨rfl,λd V8 l8=>(cX false).s ?_,λd=>?_⟩
  ·have d:=Á d;rintro r V9 l9 ⟨o,rfl,k⟩;exact ⟨o,rfl,λfW f=>fin _ (by unfold qD;rw [Ã v,Ä d]) (k.le f)⟩
  have d:=Â d;have Oa:=yG.m D;refine ⟨λz _=>z=decide ((op=3\/op=4)/\i=true),⟨λn=>⟨s,s,i,G Oa,_,σ,dn (λh=>⟨.inl (eq 3 n),h⟩) λh g=>by rw [h] at g;exact nomatch g.2⟩,λn=>⟨λw=>⟨s,s,i,G Oa,_,σ,dn (λh=>⟨.inr (eq 4 w),h⟩) λh g=>by rw [h] at g;exact nomatch g.2⟩,λw=>⟨false,σ,dn κ λ_ g=>g.1.elim (ne 3 n) (ne 4 w)⟩⟩⟩,?_⟩;rintro z fk K rfl;have A:=Y.m (D.m K);refine ⟨rfl,λj iD B=>(mr _ (g.le (A.m B))).s ?_,λj mg cP=>?_⟩
  ·have j:=Á j;rintro r ku ct ⟨o,rfl,k⟩;exact ⟨o,rfl,λlV L=>fin _ (by unfold qD;rw [Ã v,Ã d,Ä j]) (k.le L)⟩
  ·have j:=Â j;exact fin _ (by unfold qD;rw [Ã v,Ã d,Ã j]) (g.le (A.m cP))
 | .node l x y,V,p,pb,cp,cn,cc,c,h,hb,ha,hc,kc,hd=>by
  obtain ⟨E,kx,ky⟩:=ha;simp only [Tr.depth] at hd;have ⟨b1,p1,n1,c1,b2,p2,n2,c2,b3,p3,n3,c3,pl,pr,a,s,e2,H⟩:=OO h;obtain ⟨z,⟨M,N,O,Q,R,S⟩,e8,e9,-,-,-⟩:=H V (Ó.Le.refl V);have T:∀{W:ut},V.Le W->bP 6 cO W cp cn c:=λg=>hc.le g λ_ _ k=>cO.le k g;refine qX V _ ⟨s,s,_,z,κ,λ_=>⟨s,s,_,_,_,_,_,_,_,_,_,_,_,_,a,e2,M,N,O,Q,R,S,λV2 I=>(sH (T I) (λm h=>(kc m h).2) (λm h=>(kc m h).1) ω (H V2 I).2.2.2.2.1 E.2 E.1).s ?_⟩⟩;rintro r V3 Y rfl;have L3:=I.m Y;obtain ⟨-,⟨M,N,O,Q,R,S⟩,e8,e9,-,-,-⟩:=H V3 L3;refine ⟨_,rfl,λu=>⟨s,s,pl,e8,λV4 Z=>(gQ kb x (H V4 (L3.m Z)).2.2.2.2.2.1 (hb.le (L3.m Z)) kx (T (L3.m Z)) kc ω).s ?_⟩,λu=>⟨λC=>⟨s,s,pr,e9,λV7 D=>(gQ kb y (H V7 (L3.m D)).2.2.2.2.2.2 (hb.le (L3.m D)) ky (T (L3.m D)) kc ω).s ?_⟩,λC=>?_⟩⟩
  ·have u:Ct c l=1:=by simpa using u
   rintro r V5 l5 ⟨q,rfl,g⟩;exact ⟨q,rfl,λV6 J=>⟨q,rfl,by unfold qD;rw [Ä u];exact g.le J⟩⟩
  ·have u:¬Ct c l=1:=by simpa using u
   have C:Ct c l=-1:=by simpa using C
   rintro r V5 l5 ⟨q,rfl,g⟩;exact ⟨q,rfl,λV6 J=>⟨q,rfl,by unfold qD;rw [Ã u,Ä C];exact g.le J⟩⟩
  ·have u:¬Ct c l=1:=by simpa using u
   have C:¬Ct c l=-1:=by simpa using C
   have ⟨w1,w2⟩:=AP kc E;have ⟨w3,w4⟩:=AP kc (oR E);refine ⟨s,s,_,_,_,_,_,_,_,_,_,_,_,_,a,e2,M,N,O,Q,R,S,s,s,pl,e8,s,s,_,_,_,_,_,_,_,_,_,_,_,_,a,e2,M,N,O,Q,R,S,s,s,pr,e9,s,s,_,_,_,_,_,_,_,_,_,_,_,_,a,e2,M,N,O,Q,R,S,λfW f=>(kv (T (L3.m f)) kc ω (H fW (L3.m f)).2.2.2.2.1 E).s ?_⟩;rintro r fk K ⟨q1,m1,d1,rfl,h1⟩;refine ⟨q1,m1,d1,rfl,λiD B=>(gQ kb x (H iD (L3.m (f.m (K.m B)))).2.2.2.2.2.1 (hb.le (L3.m (f.m (K.m B)))) kx (h1.le B λ_ _ k=>cO.le k B) w1 ω).s ?_⟩;rintro r ku ct ⟨n,rfl,t1⟩;have X3:=L3.m (f.m (K.m (B.m ct)));refine ⟨n,rfl,λlV L=>(jQ (H lV (X3.m L)).2.2.2.2.1).s ?_⟩;rintro r mg cP gr;have Eg:cO mg r (Õ l):=gr;obtain ⟨_,_,_,_,_,_,_,_,_,_,_,_,rfl⟩:=bW Eg;have U:=X3.m (L.m cP);refine qxW ⟨rfl,λlY cK=>(kv (T (U.m cK)) kc ω (cO.le Eg cK) (oR E)).s ?_⟩;rintro r mY cG ⟨q2,m2,d2,rfl,h2⟩;have X7:=U.m (cK.m cG);refine ⟨q2,m2,d2,rfl,λnX F=>(gQ kb y (H nX (X7.m F)).2.2.2.2.2.2 (hb.le (X7.m F)) ky (h2.le F λ_ _ k=>cO.le k F) w3 ω).s ?_⟩;rintro r rU dy ⟨w,rfl,t2⟩;refine ⟨w,rfl,λuD fy=>(uR (H uD ((X7.m (F.m dy)).m fy)).2.2.2.2.1 (t1.le (L.m (cP.m (cK.m (cG.m (F.m (dy.m fy))))))) (t2.le fy)).s ?_⟩;rintro r ux iA ⟨o3,rfl,t3⟩;exact ⟨o3,rfl,λuE iP=>⟨o3,rfl,by unfold qD;rw [Ã u,Ã C];exact t3.le iP⟩⟩
def wY (a b:Rat×Rat):Int:=if dO a.1 b.1=0 then dO a.2 b.2 else dO a.1 b.1
theorem We {a b:Rat×Rat}:a=b↔wY a b=0:=by grind [wY,iM.1,iM.2]
def qt (x:Rat×Rat):List (Rat×Rat)->List (Rat×Rat)
 | []=>[x]
 | y::r=>if wY y x<0 then y::qt x r else if y=x then y::r else x::y::r
theorem WN {x:Rat×Rat}:∀(o:pz (Rat×Rat))(k:Nat),k<=o.length->(∀j (h:j<o.length),j<k->wY o[j] x<0)->(∀h:k<o.length,¬wY o[k] x<0) ->qt x o=if (∃h:k<o.length,o[k]=x) then o else o.take k++x::o.drop k:=by
 intro o
 induction o with
 | nil=>
  intro k d _ _;simp [qt]
 | cons y r ih=>
  intro k d a b
  cases k with
  | zero=>
   have c:¬wY y x<0:=b ψ;unfold qt;rw [Ã c];by_cases e:y=x
   ·rw [Ä e,Ä ⟨ψ,e⟩]
   grind
  | succ k=>
   have c:wY y x<0:=a 0 ψ ω;unfold qt;rw [Ä c,ih k (by simpa using d) (λj h i=>a (j+1) (by simpa using h) ω) (λh=>b (by simpa using h))];by_cases e:∃h:k<r.length,r[k]=x
   ·obtain ⟨f,g⟩:=e;rw [Ä ⟨f,g⟩,Ä ⟨by simpa using f,g⟩]
   grind
theorem JH (x:Rat×Rat):∀o:pz (Rat×Rat),(qt x o).length<=o.length+1
 | []=>by simp [qt]
 | y::r=>by
  have:=JH x r;grind [qt]
theorem JI {x y:Rat×Rat}:∀{o:pz (Rat×Rat)},y∈qt x o↔y=x\/y∈o
 | []=>by simp [qt]
 | z::r=>by
  unfold qt;split
  ·rw [å,(JI (x:=x) (y:=y) (o:=r)),å];exact ⟨λh=>h.elim (λh=>.inr (.inl h)) λh=>h.elim .inl λh=>.inr (.inr h),λh=>h.elim (λh=>.inr (.inl h)) λh=>h.elim .inl λh=>.inr (.inr h)⟩
  ·split
   ·rename_i e;subst e;rw [å];exact ⟨.inr,λh=>h.elim .inl id⟩
   ·rw [å]
def AK (l:List (Rat×Rat)):List (Rat×Rat):=l.foldl (λo x=>qt x o) []
theorem KE (l:pz (Rat×Rat)):(AK l).length<=l.length:=by
 have:∀(l o:pz (Rat×Rat)),(l.foldl (λo x=>qt x o) o).length<=o.length+l.length:=by
  intro l
  induction l with
  | nil=>exact λo=>Ù _
  | cons y r ih=>intro o;have a:=ih (qt y o);have b:=JH y o;rw [Qc6,Ą];omega
 grind [AK]
theorem lst_po {al:pz (Rat×Rat)}(h:bP 6 cS V p n al){i:Nat}(hi:i<al.length):p.isSome=true/\∃(b1:md)(p1:OA)(n1 c1:Nat)(p2:OA)(n2 c2:Nat)(b2:md)(p3:OA)(n3 c3:Nat)(p4:OA)(n4 c4:Nat)(a:Addr),ae p (i*6)=some a/\V.at (a.add 0) (dB b1)/\V.at (a.add 1) (zF p1 n1 c1)/\V.at (a.add 2) (zF p2 n2 c2)/\V.at (a.add 3) (dB b2)/\V.at (a.add 4) (zF p3 n3 c3)/\V.at (a.add 5) (zF p4 n4 c4)/\cS V (hF #[dB b1,zF p1 n1 c1,zF p2 n2 c2,dB b2,zF p3 n3 c3,zF p4 n4 c4]) al[i]:=tR cS.shape h hi
theorem Xz {xs:pz un}{q:Rat×Rat}(h:cS V (.agg xs.toArray) q):∀v∈xs,v.oneCell'=true:=by have ⟨_,_,_,_,_,_,_,_,_,_,_,_,_,_,ex⟩:=cS.shape h;have ex:=Æ Array.toList (Value.agg.inj ex);dsimp only at ex;subst ex;intro v a;simp only [å,Ě,Ì] at a;rcases a with rfl|rfl|rfl|rfl|rfl|rfl<;>rfl
theorem Uw {vs:pz un}{qs:pz (Rat×Rat)}(h:ç 6 cS V vs qs){i:Nat}(hi:i<qs.length):∃b p1 n1 c1 p2 n2 c2 d p3 n3 c3 p4 n4 c4,i*6+6<=vs.length/\(vs.drop (i*6)).take 6=[dB b,zF p1 n1 c1,zF p2 n2 c2,dB d,zF p3 n3 c3,zF p4 n4 c4]/\cS V (hF #[dB b,zF p1 n1 c1,zF p2 n2 c2,dB d,zF p3 n3 c3,zF p4 n4 c4]) qs[i]:=by obtain ⟨xs,-,c,a⟩:=h.at_ i hi;have ⟨b,p1,n1,c1,p2,n2,c2,d,p3,n3,c3,p4,n4,c4,e⟩:=cS.shape c;have e:=Æ Array.toList (Value.agg.inj e);dsimp only at e;subst e;have f:=a 5 _ rfl;have k:=(ĥ.1 f).1;refine ⟨_,p1,n1,c1,p2,n2,c2,_,p3,n3,c3,p4,n4,c4,ω,?_,c⟩;apply Qg8;intro j;rw [ğ];by_cases g:j<6;{rw [Ä g,Qn6];have:j=0\/j=1\/j=2\/j=3\/j=4\/j=5:=ω;rcases this with rfl|rfl|rfl|rfl|rfl|rfl;{exact (a 0 _ rfl)};{exact (a 1 _ rfl)};{exact (a 2 _ rfl)};{exact (a 3 _ rfl)};{exact (a 4 _ rfl)};{exact f}};{rw [Ã g,Ņ (by simp;omega)]}
theorem pD {v w:un}{a b:Rat×Rat}(h:cS V v a)(h':cS V w b)(hs:Sz k a.1/\Sz k a.2)(hs':Sz k b.1/\Sz k b.2)(hk:2*k<2^38):À 177 #[v,w] V λr V'=>r=Ô .i64 (wY a b):=by obtain ⟨p,n,c,B,C,D,q,m,e,E,F,G,rfl,z,A⟩:=h;obtain ⟨u,i,j,H,I,J,t,o,f,K,L,M,rfl,l,s⟩:=h';refine xW V _ λN d=>(fB (z.le d) (l.le d) hs.1 hs'.1).s ?_;rintro r V2 x rfl;refine ⟨_,rfl,λg O P=>?_,λg Q y=>(fB (A.le (d.m (x.m y))) (s.le (d.m (x.m y))) hs.2 hs'.2).s ?_⟩;{have g:¬dO a.1 b.1=0:=by{simpa using g};unfold wY;rw [Ã g]};{have g:dO a.1 b.1=0:=by{simpa using g};rintro r R S rfl;exact ⟨_,rfl,λT U=>by unfold wY;rw [Ä g]⟩}
theorem Bo {ls:pz (Rat×Rat)}(h:bP 6 cS V p n ls)(hl:ls.length<=2000000)(hs:∀q∈ls,Sz k q.1/\Sz k q.2)(hk:2*k<2^38:=by omega):À 127 #[zF p n c] V λr V'=>∃q m e,r=zF q m e/\bP 6 cS V' q m (AK ls):=by
 obtain rfl:=h.len
 refine Ab V _ ⟨λz V'=>∃(i:Nat)(O:pz (Rat×Rat)),z.2.2.2=(i:Int)/\i<=ls.length/\O.length<=i/\(∀q∈O,Sz k q.1/\Sz k q.2)/\AK ls=(ls.drop i).foldl (λo x=>qt x o) O/\GR 6 cS V' z.1 z.2.1 z.2.2.1 O,λz=>ls.length-z.2.2.2.toNat,
  ⟨(0,0,[],0),σ,0,[],rfl,â _,â _,(λq A=>by cases A),by rw [Wy5];rfl,GR.nil⟩,?_⟩
 rintro ⟨E,w2,us,z4⟩ V1 l1 ⟨i,O,e4,Vn,b0,F,f,l⟩;dsimp only at e4 l;subst e4;have g1:=l.len;have G:=l.le;refine ⟨rfl,λa=>?_,λa fW H bk I=>?_⟩;rotate_left
 ·have a:¬(i:Int)<ls.length:=Â a;obtain rfl:i=ls.length:=ω;rw [Wq4] at f;have f:=f;rw [f];subst g1;exact ⟨_,_,w2,rfl,bP.bM I (l.row.le λ_ _ g=>cS.le g H) φ G⟩
 have a:(i:Int)<ls.length:=Á a;have B:i<ls.length:=ω
 have w:i64.wrap ((i:Int)+1)=((i+1:Nat):Int):=by rw [au ω];rfl
 dsimp only;rw [Ý,w];have ⟨is,e1,ep,en,ec,eq,em,ee,e2,fp,fn,K,fq,fm,L,ad,ha,a0,a1,a2,a3,a4,a5,t⟩:=lst_po (h.le l1 λ_ _ g=>cS.le g l1) B;rw [(Ħ B),Qc6] at f;have M:=hs _ (ù B);generalize ls[i]=x at *;refine ⟨is,⟨ω,ω⟩,e1,ep,en,ec,eq,em,ee,e2,fp,fn,K,fq,fm,L,ad,ha,a0,a1,a2,a3,a4,a5,λz _=>∃j:Nat,z=(j:Int)/\j<=O.length/\∀(s:Nat)(h:s<O.length),s<j->wY O[s] x<0,λz=>O.length-z.toNat,⟨0,σ,0,rfl,â _,λs _ h=>Å h (Ŝ s)⟩,?_⟩;rintro z V2 N ⟨j,rfl,yF,jl⟩;have wj:i64.wrap ((j:Int)+1)=((j+1:Nat):Int):=by rw [au ω];rfl
 rw [Ý,wj];refine ⟨rfl,λz _=>z=true↔∃h:j<O.length,wY O[j] x<0,⟨λa=>?_,λa=>⟨false,σ,?_⟩⟩,?_⟩
 ·have a:=Á a;have d:j<O.length:=ω;obtain ⟨P,Q,R,rc,S,T,U,u,sp,W,X,Y,v,Z,gC,Md,hr⟩:=Uw l.row d;refine ⟨⟨ω,ω⟩,G,P,Q,R,rc,S,T,U,u,sp,W,X,Y,v,Z,⟨gC,Md⟩,λV3 l3=>(pD (cS.le hr (N.m l3)) (cS.le t (N.m l3)) (F _ (ù d)) M hk).s λr V4 l4 rfl=>⟨_,rfl,_,σ,by dsimp only;rw [Ñ];exact ⟨λh=>⟨d,h⟩,λ⟨_,h⟩=>h⟩⟩⟩
 ·have a:=Â a;exact ⟨κ,λ⟨h,_⟩=>Å h ω⟩
 rintro z V5 l5 S5;refine ⟨rfl,λy=>?_,λy=>?_⟩
 ·have ⟨d,a6⟩:=S5.1 y;refine ⟨((j+1:Nat):Int),by (try dsimp only);omega,σ,j+1,rfl,d,λs h b1=>?_⟩;by_cases e:s=j;{subst e;exact a6};{exact jl s h ω}
 have a7:∀h:j<O.length,¬wY O[j] x<0:=λh C=>by have:=S5.2 ⟨h,C⟩;rw [y] at this;cases this
 have b:=WN O j yF jl a7;have l_:=N.m l5;refine ⟨λz _=>z=true↔¬∃h:j<O.length,O[j]=x,⟨λhe=>⟨true,σ,?_⟩,λhe=>?_⟩,?_⟩
 ·have he:(j:Int)=(E:Int):=by{simpa using he};exact ⟨λ_ ⟨h,_⟩=>Å h ω,λ_=>rfl⟩
 ·have he:¬(j:Int)=(E:Int):=by{simpa using he};have d:j<O.length:=ω;obtain ⟨P,Q,R,rc,S,T,U,u,sp,W,X,Y,v,Z,gC,Md,hr⟩:=Uw l.row d;refine ⟨⟨ω,ω⟩,G,P,Q,R,rc,S,T,U,u,sp,W,X,Y,v,Z,⟨gC,Md⟩,λV6 l6=>(pD (cS.le hr (l_.m l6)) (cS.le t (l_.m l6)) (F _ (ù d)) M hk).s λr V7 l7 rfl=>⟨_,rfl,_,σ,by dsimp only;rw [bne_iff_ne,ne_eq,<-We];exact ⟨λh ⟨_,C⟩=>h C,λh C=>h ⟨d,C⟩⟩⟩⟩
 rintro z V8 l8 BR;have tQ:=l_.m l8;refine ⟨rfl,λy V9 l9 bk I J=>?_,λy=>?_⟩
 ·have a8:=BR.1 y;rw [Ã a8] at b;have xw:=tQ.m l9;have ⟨xs,ys,x1,x2,x3,y1,y2,y3,r1,r2,r3,r4,r5⟩:=Ax (V:=V9) (l.s λ_ _ g=>cS.le g xw) φ (λ_ _=>Xz) I (es:=[_,_,_,_,_,_]) rfl (cS.le t xw) (j:=j);refine ⟨⟨ω,ω⟩,⟨ω,ω⟩,⟨ω,ω⟩,xs,x1,x2,ω,Ù _,Ù 6,x2,x3,λb2 J2 sp c' h1 h2=>?_⟩;rw [r1,r2];(refine ⟨ys,y1,y2,Ù _,y3,ω,ω,r3,r4,λa9 D h3 h4=>⟨(j+(1+(E-j)),D,_,((i+1:Nat):Int)),by dsimp only;omega,by and_intros<;>first|rfl|omega,i+1,qt x O,rfl,B,?_,?_,f,?_⟩⟩);{rw [b,í,é,Ą,Ĵ];omega};{intro q A;rcases JI.1 A with rfl|A;{exact M};{exact F q A}};{show GR 6 cS _ _ _ _ (qt x O);rw [b];exact r5 a9 D h3 h4}
 ·have hex:=Qb0 λh=>by{have:=BR.2 h;rw [y] at this;cases this};rw [Ä hex] at b;rw [b] at f;exact ⟨(E,w2,us,((i+1:Nat):Int)),by dsimp only;omega,σ,i+1,O,rfl,B,ω,F,f,l.s λ_ _ g=>cS.le g tQ⟩
theorem Er {A B:ut}{bk:pz Nat}(h:(A.aq bk).Le B):A.Le B:=λb o g=>h b o g
theorem jZ {B C:ut}(h:B.shut.Le C):B.Le C:=λb o g=>h b o g
theorem lK {α:Type}{sz:Nat}{R:ut->un->α->Prop}{vs xs:pz un}{ls ms:pz α}(h:ç sz R V vs ls)(h':ç sz R V xs ms)(hl:vs.length=ls.length*sz)(hs:0<sz):ç sz R V (vs++xs) (ls++ms):=by have:=im (sp:=[]) h h' hs;grind
def Q_ (p q:Rat×Rat):Prop:=¬(p.1=q.1/\p.2=q.2)
theorem pg3 {a b c:Rat×Rat}(h:Vb 10 [a,b,c])(h1:Q_ a b)(h2:Q_ b c)(h3:Q_ c a):Pg [a,b,c]:=⟨by show 3<=6;omega,h,λi d=>by
 match i,d with
 | 0,_=>exact h1
 | 1,_=>exact h2
 | 2,_=>rw [show (2+1)% [a,b,c].length=0 by simp];exact h3
 | i+3,d=>simp only [Ą,į] at d;omega⟩
theorem pg4 {a b c d:Rat×Rat}(h:Vb 10 [a,b,c,d])(h1:Q_ a b)(h2:Q_ b c)(h3:Q_ c d)(h4:Q_ d a):Pg [a,b,c,d]:=⟨by show 4<=6;omega,h,λi e=>by
 match i,e with
 | 0,_=>exact h1
 | 1,_=>exact h2
 | 2,_=>exact h3
 | 3,_=>rw [show (3+1)% [a,b,c,d].length=0 by simp];exact h4
 | i+4,e=>simp only [Ą,į] at e;omega⟩
theorem jL {p:Rat×Rat}{l:pz (Rat×Rat)}(h:Sz k p.1/\Sz k p.2)(g:Vb k l):Vb k (p::l):=λx a=>(å.1 a).elim (λe=>e▸h) (g x)
theorem HQ:Vb k []:=λ_ h=>by cases h
theorem MC {x x' y y':Int}(h:x≠x':=by omega):Q_ ((x:Rat),(y:Rat)) ((x':Rat),(y':Rat)):=λ⟨e,_⟩=>h (Qd7.1 e)
theorem Qt {x x' y y':Int}(h:y≠y'):Q_ ((x:Rat),(y:Rat)) ((x':Rat),(y':Rat)):=λ⟨_,e⟩=>h (Qd7.1 e)
theorem Sc {V:ut}{tb:Nat}{at_:Int}(hr:Lu V p n)(hn:n<=400)(hw:kt V tb p n c at_)(hx:V.X tb)(h0:0<=at_):À 69 #[dS (some ⟨tb,0,none⟩)] V λr V'=>∃(q:OA)(m e:Nat)(l:pz (Rat×Rat))(at':Int),r=zF q m e/\bP 6 cS V' q m l/\Pg l/\0<=at'/\kt V' tb p n c at':=by
 refine uu tb p n c at_ V _ hw hx λV1 l1 d9 e1 h1=>(gI (V:=V1.aq [d9]) 4 (hr.le l1) hn e1 ⟨ψ,h1⟩ h0 ω).s ?_;rintro r V2 l2 ⟨x,IM,rfl,x0,x1,t1,e0⟩;have L2:=l1.m (Er l2);have wr:∀z:Int,-100<=z->z<=100->i64.wrap z=z:=λz _ _=>au ω;have NX:∀x u:Int,(x:Rat)+((1:Int):Rat)*(u:Rat)=((x+u:Int):Rat):=λx u=>by rw [<-Qf5,<-Qs8,Wz6]
 refine ⟨x,rfl,p,n,c,IM,e0,λz V'=>z.1=p/\z.2.1=n/\z.2.2.1=c/\0<=z.2.2.2/\V.Le V',⟨λ_ V3 l3 RU e3 h3=>(gI (V:=V3.aq [RU]) 5 (hr.le (L2.m (jZ l3))) hn e3 ⟨ψ,h3⟩ t1 ω).s ?_,λ_=>⟨λ_ uD fy Pf e4 e8=>(c_P (V:=uD.aq [Pf]) (hr.le (L2.m (jZ fy))) hn e4 ⟨ψ,e8⟩ t1).s ?_,λ_=>⟨(p,n,c,IM),σ,rfl,rfl,rfl,t1,λb o h=>L2 b o h⟩⟩⟩,?_⟩
 ·rintro r V4 l4 ⟨a,v,rfl,a0,a1,t2,C⟩;have L4:=L2.m ((jZ l3).m (Er l4));refine ⟨a,rfl,p,n,c,v,C,λV5 l5 RV e5 h5=>(gI (V:=V5.aq [RV]) 5 (hr.le (L4.m (jZ l5))) hn e5 ⟨ψ,h5⟩ t2 ω).s ?_⟩;rintro r V6 l6 ⟨b,f,rfl,b0,b1,t3,D⟩;have L6:=L4.m ((jZ l5).m (Er l6));refine ⟨b,rfl,p,n,c,f,D,λV7 l7 f0 e7 h7=>(gI (V:=V7.aq [f0]) 4 (hr.le (L6.m (jZ l7))) hn e7 ⟨ψ,h7⟩ t3 ω).s ?_⟩;rintro r V8 l8 ⟨u,E,rfl,u0,u1,t4,O⟩;refine ⟨u,rfl,p,n,c,E,O,λV9 l9 f5 e9 h9=>(gI (V:=V9.aq [f5]) 4 (hr.le ((L6.m ((jZ l7).m (Er l8))).m (jZ l9))) hn e9 ⟨ψ,h9⟩ t4 ω).s ?_⟩;rintro r fW k9 ⟨w,a8,rfl,w0,w1,t5,f6⟩;refine ⟨w,rfl,p,n,c,a8,f6,?_⟩;have ea:i64.wrap (a-4)=a-4:=wr _ ω ω;have eb:i64.wrap (b-4)=b-4:=wr _ ω ω;have ec:i64.wrap (i64.wrap (i64.wrap (a-4)+1)+u)=a-4+1+u:=by{rw [ea,wr (a-4+1) ω ω,wr _ ω ω]};have ed:i64.wrap (i64.wrap (i64.wrap (b-4)+1)+w)=b-4+1+w:=by{rw [eb,wr (b-4+1) ω ω,wr _ ω ω]};rw [ec,ed,ea,eb];intro fk bw;refine (dN (a-4) (b-4) ω ω ω).s ?_;rintro r iD bY I;have I:cS iD r (((a-4:Int):Rat),((b-4:Int):Rat)):=I;obtain ⟨_,_,_,_,_,_,_,_,_,_,_,_,_,_,rfl⟩:=I.shape;refine qyK ⟨rfl,λku ct=>(dN (a-4+1+u) (b-4) ω ω ω).s ?_⟩;rintro r lV cJ J;have J:cS lV r (((a-4+1+u:Int):Rat),((b-4:Int):Rat)):=J;obtain ⟨_,_,_,_,_,_,_,_,_,_,_,_,_,_,rfl⟩:=J.shape;refine qyK ⟨rfl,λmg cP=>(dN (a-4+1+u) (b-4+1+w) ω ω ω).s ?_⟩;rintro r lY cK K;have K:cS lY r (((a-4+1+u:Int):Rat),((b-4+1+w:Int):Rat)):=K;obtain ⟨_,_,_,_,_,_,_,_,_,_,_,_,_,_,rfl⟩:=K.shape;refine qyK ⟨rfl,λmY cG=>(dN (a-4) (b-4+1+w) ω ω ω).s ?_⟩;rintro r nX cD g4;have g4:cS nX r (((a-4:Int):Rat),((b-4+1+w:Int):Rat)):=g4;obtain ⟨_,_,_,_,_,_,_,_,_,_,_,_,_,_,rfl⟩:=g4.shape;refine qyK ⟨rfl,λrU dy bk t F=>⟨_,_,_,_,a8,rfl,bP.il F (lK (sz:=6) (row_one rfl (cS.le I (ct.m (cJ.m (cP.m (cK.m (cG.m (cD.m dy)))))))) (lK (sz:=6) (row_one rfl (cS.le J (cP.m (cK.m (cG.m (cD.m dy)))))) (lK (sz:=6) (row_one rfl (cS.le K (cG.m (cD.m dy)))) (row_one rfl (cS.le g4 dy)) rfl φ) rfl φ) rfl φ),?_,t5,t⟩⟩;have s:∀z:Int,-40<=z->z<=40->Sz 10 (z:Rat):=λz h h'=>Gm ⟨h,h'⟩;exact pg4 (jL ⟨s _ ω ω,s _ ω ω⟩ (jL ⟨s _ ω ω,s _ ω ω⟩ (jL ⟨s _ ω ω,s _ ω ω⟩ (jL ⟨s _ ω ω,s _ ω ω⟩ HQ)))) (MC) (Qt ω) (MC) (Qt ω)
 ·rintro r ux iA ⟨x,y,v,A,f7,f8,t2,C⟩;have A:cS ux r ((x:Rat),(y:Rat)):=A;obtain ⟨_,_,_,_,_,_,_,_,_,_,_,_,_,_,rfl⟩:=A.shape;have P:=L2.m ((jZ fy).m (Er iA));refine qyK ⟨rfl,p,n,c,v,C,λuE iP a9 f9 g0=>(c_V (V:=uE.aq [a9]) (hr.le (P.m (jZ iP))) hn f9 ⟨ψ,g0⟩ t2).s ?_⟩;rintro r wH hZ ⟨x1,y1,f,gu,l0,m0,b3,t3,D⟩;have gu:cS wH r ((x1:Rat),(y1:Rat)):=gu;obtain ⟨_,_,_,_,_,_,_,_,_,_,_,_,_,_,rfl⟩:=gu.shape;refine qyK ⟨rfl,p,n,c,f,D,λGv kS VJ g5 g6=>(c_V (V:=Gv.aq [VJ]) (hr.le ((P.m ((jZ iP).m (Er hZ))).m (jZ kS))) hn g5 ⟨ψ,g6⟩ t3).s ?_⟩;rintro r IF l_ ⟨x2,Q,E,gv,m5,m6,b4,t4,O⟩;have gv:cS IF r ((x2:Rat),(Q:Rat)):=gv;obtain ⟨_,_,_,_,_,_,_,_,_,_,_,_,_,_,rfl⟩:=gv.shape;have s:∀z:Int,-40<=z/\z<=40->Sz 10 (z:Rat):=λz h=>Gm h;have Ti:=(jZ kS).m (Er l_);have YI:=((jZ iP).m (Er hZ)).m Ti;refine qyK ⟨rfl,p,n,c,E,O,λO6 pG=>(jE (k:=10) (cS.le gu (Ti.m (jZ pG))) (cS.le gv (jZ pG)) (s _ ω) (s _ ω) (s _ ω) (s _ ω)).s ?_⟩;rintro r Yb pS ⟨p',n',d',m7,m8,m9,rfl,k1,k2⟩;refine qyZ ⟨rfl,λVz tQ=>(rj _ (k1.le tQ)).s ?_⟩;rintro r Yc xw rfl;have Oe:=(jZ pG).m (pS.m (tQ.m xw));refine ⟨_,rfl,λG Rc xy=>(dW 1 ω).s ?_,λG=>⟨(p,n,c,E),σ,rfl,rfl,rfl,t4,(P.m YI).m Oe⟩⟩;have G:((x1:Rat)*(Q:Rat)-(y1:Rat)*(x2:Rat))≠0:=λe=>by{rw [e] at G;exact Å G φ};rintro r n0 DT q1;obtain ⟨_,_,_,_,_,_,rfl⟩:=q1.shape;have Th:=YI.m (Oe.m (xy.m DT));refine qyZ ⟨rfl,λZf zG=>(fL (cS.le A (Th.m zG)) (q1.le zG) (cS.le gu ((Ti.m (Oe.m (xy.m DT))).m zG)) (k:=10) (m:=10) (s _ ω) (s _ ω) (s _ ω) (s _ ω) (s _ ω)).s ?_⟩;rintro r Vc xA ga;rw [NX,NX] at ga;have ga:cS Vc r (((x+x1:Int):Rat),((y+y1:Int):Rat)):=ga;obtain ⟨_,_,_,_,_,_,_,_,_,_,_,_,_,_,rfl⟩:=ga.shape;refine qyK ⟨rfl,λn5 Az=>(dW 1 ω).s ?_⟩;rintro r n6 xB q2;obtain ⟨_,_,_,_,_,_,rfl⟩:=q2.shape;have Tj:=zG.m (xA.m (Az.m xB));refine qyZ ⟨rfl,λn7 JP=>(fL (cS.le A (Th.m (Tj.m JP))) (q2.le JP) (cS.le gv ((Oe.m (xy.m DT)).m (Tj.m JP))) (k:=10) (m:=10) (s _ ω) (s _ ω) (s _ ω) (s _ ω) (s _ ω)).s ?_⟩;rintro r g7 Qh gb;rw [NX,NX] at gb;have gb:cS g7 r (((x+x2:Int):Rat),((y+Q:Int):Rat)):=gb;obtain ⟨_,_,_,_,_,_,_,_,_,_,_,_,_,_,rfl⟩:=gb.shape;refine qyK ⟨rfl,λn8 Of bk t F=>⟨_,_,_,_,E,rfl,bP.il F (lK (sz:=6) (row_one rfl (cS.le A (Th.m (Tj.m (JP.m (Qh.m Of)))))) (lK (sz:=6) (row_one rfl (cS.le ga (Az.m (xB.m (JP.m (Qh.m Of)))))) (row_one rfl (cS.le gb Of)) rfl φ) rfl φ),?_,t4,t⟩⟩;refine pg3 (jL ⟨s _ ω,s _ ω⟩ (jL ⟨s _ ω,s _ ω⟩ (jL ⟨s _ ω,s _ ω⟩ HQ))) ?_ ?_ ?_;{by_cases h:x1=0;{exact Qt λe=>b3 ⟨h,ω⟩};{exact MC}};{by_cases h:x1=x2;{refine Qt λe=>G ?_;rw [h,show y1=Q by omega,Rat.mul_comm];grind};{exact MC}};{by_cases h:x2=0;{exact Qt λe=>b4 ⟨h,ω⟩};{exact MC}}
 rintro ⟨zp,zn,zc,za⟩ n9 Vo ⟨b5,b6,b7,ha,b8⟩;dsimp only at b5 b6 b7 ha;subst b5 b6 b7;dsimp only;refine ⟨rfl,λg8 b9 c0 g9 h4=>(gI (V:=g8.aq [c0]) 4 (hr.le (b8.m b9)) hn g9 ⟨ψ,h4⟩ ha ω).s ?_⟩;rintro r o0 h6 ⟨k,v,rfl,k0,k1,t2,C⟩
 refine ⟨k,rfl,zp,zn,zc,v,C,λz V'=>∃o:pz (Rat×Rat),GR 6 cS V' z.1 z.2.1 z.2.2.1 o/\z.2.2.2.2.1=zp/\z.2.2.2.2.2.1=zn/\z.2.2.2.2.2.2.1=zc/\0<=z.2.2.2.2.2.2.2/\0<=z.2.2.2.1/\(o.length:Int)+z.2.2.2.1<=6/\Vb 10 o/\(∀i,i+1<o.length->Q_ (o.getD i (0,0)) (o.getD (i+1) (0,0)))/\V.Le V',λz=>z.2.2.2.1.toNat,
  ⟨(0,0,[],i64.wrap (3+k),zp,zn,zc,v),σ,[],GR.nil,rfl,rfl,rfl,t2,by rw [au ω];dsimp only;omega,by rw [au ω];simp;omega,HQ,λi h=>by simp at h,(b8.m (b9.m (Er h6)))⟩,?_⟩
 rintro ⟨H,z2,vs,i,R,S,T,c5⟩ h8 o1 ⟨o,B,e5,e6,e7,L,i2,i3,U,hd,W⟩;dsimp only at B e5 e6 e7 L i2 i3;subst e5 e6 e7;have zl:=B.len;dsimp only;refine ⟨rfl,λY i4 c6 c7 i5 i6=>(c_P (V:=i4.aq [c7]) (hr.le (W.m c6)) hn i5 ⟨ψ,i6⟩ L).s ?_,λY=>?_⟩
 ·have Y:=Á Y;have w1:i64.wrap (i-1)=i-1:=au ω;rw [w1];rintro r c8 i7 ⟨x,y,f,A,f7,f8,t3,D⟩;have A:cS c8 r ((x:Rat),(y:Rat)):=A;obtain ⟨_,_,_,_,_,_,_,_,_,_,_,_,_,_,rfl⟩:=A.shape;have YJ:=c6.m (Er i7);have sx:Sz 10 (x:Rat):=Gm;have sy:Sz 10 (y:Rat):=Gm;refine qyK ⟨rfl,R,S,T,f,D,λz V'=>c8.Le V'/\(z=true->∀h:0<o.length,Q_ (o.getD (o.length-1) (0,0)) ((x:Rat),(y:Rat))),⟨λh=>⟨true,σ,λb o h=>h,λ_ g=>?_⟩,λh=>?_⟩,?_⟩;{have:(H:Int)=0:=by{simpa using h};omega};{have h:¬(H:Int)=0:=by{simpa using h};have w2:i64.wrap ((H:Int)-1)=((H-1:Nat):Int):=by{rw [au ω];omega};rw [w2,Ý];have Z:H-1<o.length:=ω;have ⟨b1,p1,n1,c1,p2,n2,c2,b2,p3,n3,c3,p4,n4,c4,c9,a4,g⟩:=MX cS.shape B.row Z;have so:=U _ (ù Z);refine ⟨⟨ω,ω⟩,B.le,b1,p1,n1,c1,p2,n2,c2,b2,p3,n3,c3,p4,n4,c4,⟨c9,a4⟩,λo2 Tk=>(oF (cS.le g (YJ.m (jZ Tk))) (cS.le A (jZ Tk)) so.1 so.2 sx sy).s ?_⟩;rintro r o3 i8 rfl;refine ⟨_,rfl,_,σ,(jZ Tk).m i8,λG _=>?_⟩;have G:decide (o[H-1].1=(x:Rat)/\o[H-1].2=(y:Rat))=false:=by{rwa [Ĥ] at G};rw [<-zl,gS Z];exact Â G};rintro z o4 o5 ⟨d0,G⟩;have Og:=YJ.m d0;refine ⟨rfl,λF=>⟨ω,B.le,B.cap,rfl,T0,λsp c' h1 h2=>⟨(H+1,c',_,i-1,R,S,T,f),by dsimp only;omega,σ,o++[((x:Rat),(y:Rat))],(B.s λ_ _ g=>cS.le g Og).snoc rfl (cS.le A d0) φ h1 h2,rfl,rfl,rfl,t3,by dsimp only;omega,by simp;omega,λq M=>?_,λj hj=>?_,W.m Og⟩⟩,λ_=>⟨(H,z2,vs,i-1,R,S,T,f),by dsimp only;omega,σ,o,B.s λ_ _ g=>cS.le g Og,rfl,rfl,rfl,t3,by dsimp only;omega,by dsimp only;omega,U,hd,W.m Og⟩⟩;{rcases õ.1 M with M|M;{exact U q M};{rw [ö.1 M];exact ⟨sx,sy⟩}};{rw [í,Qc4] at hj;have gl:∀{k:Nat},k<o.length->(o++[((x:Rat),(y:Rat))]).getD k (0,0)=o.getD k (0,0):=λ{k} h=>by{rw [ġ,Ī h,<-ġ]};by_cases e:j+1<o.length;{rw [gl e,gl ω];exact hd j e};{have e:j=o.length-1:=ω;subst e;have e2:(o++[((x:Rat),(y:Rat))]).getD (o.length-1+1) (0,0)=((x:Rat),(y:Rat)):=by{rw [ġ,ņ ω,show o.length-1+1-o.length=0 by omega];rfl};rw [e2,gl ω];exact G F ω}}
 ·have ot:∀{m:Nat},m<=o.length->∀{k:Nat},k<m->(o.take m).getD k (0,0)=o.getD k (0,0):=λ{m} hm {k} hk=>by
   rw [ġ,List.getElem?_take_of_lt hk,<-ġ]
  refine ⟨λz V'=>∃m:Nat,z.1=m/\m<=o.length/\z.2.1=z2/\z.2.2=vs/\h8.Le V',λz=>z.1,⟨(H,z2,vs),σ,H,rfl,ω,rfl,rfl,Ó.Le.refl _⟩,?_⟩;rintro ⟨d,Q,ys⟩ i9 o6 ⟨m,em,hm,ey,es,N⟩;dsimp only at em ey es;subst em ey es;have k7:=B.le;dsimp only;refine ⟨rfl,λz V'=>i9.Le V'/\(z=true->1<d)/\(z=false->1<d->Q_ (o.getD 0 (0,0)) (o.getD (d-1) (0,0))),⟨λh=>?_,λh=>⟨false,σ,Ó.Le.refl _,κ,λ_ g=>Å (Â h) ω⟩⟩,?_⟩
  ·have h:=Á h;have w2:i64.wrap ((d:Int)-1)=((d-1:Nat):Int):=by{rw [au ω];omega};rw [w2,Ý];have i0:0<o.length:=ω;have i1:d-1<o.length:=ω;have ⟨b1,p1,n1,c1,p2,n2,c2,b2,p3,n3,c3,p4,n4,c4,c9,a4,g⟩:=MX cS.shape B.row i0;have ⟨d1,q1,m1,f1,q2,m2,f2,d2,q3,m3,f3,q4,m4,f4,j0,j1,g'⟩:=MX cS.shape B.row i1;have s0:=U _ (ù i0);have s1:=U _ (ù i1);refine ⟨⟨ω,ω⟩,ω,b1,p1,n1,c1,p2,n2,c2,b2,p3,n3,c3,p4,n4,c4,⟨ω,a4⟩,⟨ω,ω⟩,ω,d1,q1,m1,f1,q2,m2,f2,d2,q3,m3,f3,q4,m4,f4,⟨j0,j1⟩,λo7 a5=>(oF (cS.le g (N.m a5)) (cS.le g' (N.m a5)) s0.1 s0.2 s1.1 s1.2).s ?_⟩;rintro r o8 j2 rfl;exact ⟨_,rfl,_,σ,a5.m j2,λ_=>ω,λh _=>by rw [gS i0,gS i1];exact Â h⟩
  rintro z o9 p0 ⟨d3,j3,j4⟩;refine ⟨rfl,λF=>?_,λF j5 j6 k8 d4=>?_⟩
  ·have h:=j3 F;have w2:i64.wrap ((d:Int)-1)=((d-1:Nat):Int):=by{rw [au ω];omega};rw [w2,Ý];exact ⟨⟨ω,ω⟩,(d-1,Q,ys),by dsimp only;omega,σ,d-1,rfl,ω,rfl,rfl,N.m d3⟩
  ·have k3:=N.m (d3.m j6);have tl:(o.take d).length=d:=by rw [é];omega
   have hl:=bP.bM (V:=j5) (al:=o.take d) (c:=Q) d4 ⟨λi hi=>by
    rw [tl] at hi;obtain ⟨xs,a1,a2,a3⟩:=(B.row.le λ_ _ g=>cS.le g k3).at_ i ω;exact ⟨xs,a1,by rw [Qt5];exact a2,a3⟩⟩ φ
   rw [tl] at hl;refine (Bo hl ω (k:=10) (λq M=>U q (Wq7 _ _ M))).s ?_;rintro r p5 d5 ⟨q,m,e,rfl,gs⟩;refine ⟨q,m,e,rfl,λ_=>⟨λa6 p6 p7=>(dN 0 0 ω ω ω).s ?_,λa6 p8 d6 t=>⟨_,_,_,o.take d,c5,rfl,hl.le (d5.m d6) λ_ _ g=>cS.le g (d5.m d6),⟨ω,λq M=>U q (Wq7 _ _ M),λj hj=>?_⟩,L,t⟩⟩⟩
   ·rintro r k4 p9 I;have I:cS k4 r (((0:Int):Rat),((0:Int):Rat)):=I;obtain ⟨_,_,_,_,_,_,_,_,_,_,_,_,_,_,rfl⟩:=I.shape;refine qyK ⟨rfl,λq0 Qi=>(dN 2 0 ω ω ω).s ?_⟩;rintro r k5 YK J;have J:cS k5 r (((2:Int):Rat),((0:Int):Rat)):=J;obtain ⟨_,_,_,_,_,_,_,_,_,_,_,_,_,_,rfl⟩:=J.shape;refine qyK ⟨rfl,λq5 d7=>(dN 0 2 ω ω ω).s ?_⟩;rintro r k6 d8 K;have K:cS k6 r (((0:Int):Rat),((2:Int):Rat)):=K;obtain ⟨_,_,_,_,_,_,_,_,_,_,_,_,_,_,rfl⟩:=K.shape;refine qyK ⟨rfl,λq6 a7 bk t F=>⟨_,_,_,_,c5,rfl,bP.il F (lK (sz:=6) (row_one rfl (cS.le I (Qi.m (YK.m (d7.m (d8.m a7)))))) (lK (sz:=6) (row_one rfl (cS.le J (d7.m (d8.m a7)))) (row_one rfl (cS.le K a7)) rfl φ) rfl φ),?_,L,t⟩⟩;have s:∀z:Int,-40<=z/\z<=40->Sz 10 (z:Rat):=λz h=>Gm h;exact pg3 (jL ⟨s _ ω,s _ ω⟩ (jL ⟨s _ ω,s _ ω⟩ (jL ⟨s _ ω,s _ ω⟩ HQ))) (MC) (MC) (Qt ω)
   ·have a6:=Â a6;have sl:=gs.len;have:=KE (o.take d);rw [tl] at hj ⊢;by_cases e:j+1<d;{rw [ĝ e,ot hm hj,ot hm e];exact hd j ω};{have e:j=d-1:=ω;subst e;rw [show d-1+1=d by omega,Nat.mod_self,ot hm hj,ot hm (show 0<d by omega)];have:=j4 F ω;exact λh=>this ⟨h.1.symm,h.2.symm⟩}
theorem Pp {V:ut}{tb:Nat}{at_:Int}(hr:Lu V p n)(hn:n<=400)(hw:kt V tb p n c at_)(hx:V.X tb)(h0:0<=at_):À 28 #[dS (some ⟨tb,0,none⟩)] V λr V'=>∃(q:OA)(S:pz L3)(t:Tr)(at':Int),r=dS q/\RW V' q t/\S.length<=12/\Va S 12 t/\0<=at'/\kt V' tb p n c at':=by
 have sl:∀{L:pz (pz (Rat×Rat))},(∀l∈L,Pg l)->L.length<=2->(Qo L).length<=12:=λh h2=>by have:=FD h;unfold Qo;rw [ď];omega
 refine pQ tb p n c at_ V _ hw hx λV1 l1 D e1 h1=>(Sc (V:=V1.aq [D]) (hr.le l1) hn e1 ⟨ψ,h1⟩ h0).s ?_;rintro r V2 l2 ⟨z,C,d1,A,IM,rfl,gA,pA,t1,E⟩;have L2:V.Le V2:=l1.m (Er l2);refine ⟨z,C,d1,rfl,p,n,c,IM,E,λV3 l3 RU e3 h3=>(gI (V:=V3.aq [RU]) 3 (hr.le (L2.m (jZ l3))) hn e3 ⟨ψ,h3⟩ t1 ω).s ?_⟩;rintro r V4 l4 ⟨x,F,rfl,x0,x1,t2,G⟩;have e:=(jZ l3).m (Er l4);have H:=L2.m e;refine ⟨x,rfl,p,n,c,F,G,λ_ V5 l5 RV e5 h5=>(Sc (V:=V5.aq [RV]) (hr.le (H.m (jZ l5))) hn e5 ⟨ψ,h5⟩ t2).s ?_,λ_ lY I Pc j=>?_⟩
 ·rintro r V6 l6 ⟨J,K,d2,B,M,rfl,gB,pB,t3,N⟩;have f:=(jZ l5).m (Er l6);have L6:=H.m f
  have b:∀l∈[A,B],Pg l:=λl m=>by rcases å.1 m with rfl|m;{exact pA};{rw [ö.1 m];exact pB}
  refine ⟨J,K,d2,rfl,p,n,c,M,N,ω,ω,ψ,rfl,one1,λa0 a2 s a3 u1 u2 V7 u a1 v=>?_⟩
  have O:ç 1 DP V7 (([zF z C d1]:pz un).take (1*1)++([zF J K d2]:pz un)++s) ([A]++[B]):=
   im (ls:=[A]) (row_one rfl ⟨z,C,d1,rfl,gA.le (e.m (f.m (jZ u))) λ_ _ k=>cS.le k (e.m (f.m (jZ u)))⟩) (row_one rfl ⟨J,K,d2,rfl,gB.le (jZ u) λ_ _ k=>cS.le k (jZ u)⟩) φ
  refine (yv (L:=[A,B]) (bP.il v O) (by show 2<=1000;omega) b).s ?_;rintro r V8 l8 ⟨P,Q,d3,rfl,T⟩;have L8:=L6.m ((jZ u).m l8);refine ⟨P,Q,d3,rfl,λ_ V9 l9 U W Y=>(gI (V:=V9.aq [U]) 2 (hr.le (L8.m l9)) hn W ⟨ψ,Y⟩ t3 ω).s ?_⟩;rintro r fW Z ⟨y,a,rfl,y0,y1,t4,g⟩;have Ql:=l9.m (Er Z);refine ⟨y,rfl,p,n,c,a,g,λfk bw=>(uQ _ (T.le (Ql.m (jZ bw)) λ_ _ k=>NK.s k (λ_ _ k=>kV.le k (Ql.m (jZ bw))) (Ql.m (jZ bw))) (by show 2<=1000;omega) b).s ?_⟩;rintro r iD bY ⟨q4,m4,d4,q5,m5,d5,rfl,gM⟩;refine ⟨q4,m4,d4,_,q5,m5,d5,rfl,λku ct=>(sJ (gM.le ct λ_ _ k=>DP.le k ct) (by show 2<=2;omega) b).s ?_⟩;rintro r lV cJ ⟨o,t,rfl,w,R⟩;exact ⟨o,rfl,λmg cP i=>⟨o,Qo [A,B],t,a,rfl,w.le cP,sl b (by show 2<=2;omega),R,t4,i⟩⟩
 ·have d:∀l∈[A],Pg l:=λl m=>by{rw [ö.1 m];exact pA};refine (yv (L:=[A]) (bP.il j (row_one rfl ⟨z,C,d1,rfl,gA.le (e.m (jZ I)) λ_ _ k=>cS.le k (e.m (jZ I))⟩)) (by show 1<=1000;omega) d).s ?_;rintro r mY cG ⟨P,Q,d3,rfl,T⟩;have X7:=H.m ((jZ I).m cG);refine ⟨P,Q,d3,rfl,λ_ nX cD U W Y=>(gI (V:=nX.aq [U]) 2 (hr.le (X7.m cD)) hn W ⟨ψ,Y⟩ t2 ω).s ?_⟩;rintro r rU dy ⟨y,a,rfl,y0,y1,t4,g⟩;have Te:=cD.m (Er dy);refine ⟨y,rfl,p,n,c,a,g,λuD fy=>(uQ _ (T.le (Te.m (jZ fy)) λ_ _ k=>NK.s k (λ_ _ k=>kV.le k (Te.m (jZ fy))) (Te.m (jZ fy))) (by show 1<=1000;omega) d).s ?_⟩;rintro r ux iA ⟨q4,m4,d4,q5,m5,d5,rfl,gM⟩;refine ⟨q4,m4,d4,_,q5,m5,d5,rfl,λuE iP=>(sJ (gM.le iP λ_ _ k=>DP.le k iP) (by show 1<=2;omega) d).s ?_⟩;rintro r wH hZ ⟨o,t,rfl,w,R⟩;exact ⟨o,rfl,λGv e i=>⟨o,Qo [A],t,a,rfl,w.le e,sl d (by show 1<=2;omega),R,t4,i⟩⟩
theorem dV.both {p q:L3->Prop}:∀{t:Tr},t.dV p->t.dV q->t.dV λl=>p l/\q l
 | .leaf _,_,_=>trivial
 | .node _ _ _,⟨a,b,c⟩,⟨d,e,f⟩=>⟨⟨a,d⟩,dV.both b e,dV.both c f⟩
theorem OK {t:Tr}(h:t.dV me)(hs:t.size<=12:=by omega):Va t.eU 12 (tY t [])/\t.eU.length<=12:=
 ⟨(tZ (λ_ h=>h.1.1) (dV.both h (Ly t)) ţ Hx).s (ā (ny t) hs),by rw [vq];exact hs⟩
theorem Sb:∀(k:Nat) {V:ut} {tb:Nat} {p:OA} {n c:Nat} {at_:Int},k<=1->Lu V p n->n<=400->kt V tb p n c at_->V.X tb->0<=at_ ->À 6 #[dS (some ⟨tb,0,none⟩),Ô .i64 (k:Int)] V λr V'=>∃(q:OA)(S:pz L3)(t:Tr)(at':Int),r=dS q/\RW V' q t/\S.length<=12*(k+1)/\Va S (12*(k+1)) t/\0<=at'/\kt V' tb p n c at':=by
 intro k
 have base:∀(k:Nat) {V:ut} {tb:Nat} {p:OA} {n c:Nat} {at_:Int},(k=0\/∀{V:ut} {tb:Nat} {p:OA} {n c:Nat} {at_:Int},Lu V p n->n<=400->kt V tb p n c at_->V.X tb->0<=at_ ->
   À 6 #[dS (some ⟨tb,0,none⟩),Ô .i64 ((k-1:Nat):Int)] V λr V'=>∃(q:OA)(S:pz L3)(t:Tr)(at':Int),r=dS q/\RW V' q t/\S.length<=12*k/\Va S (12*k) t/\0<=at'/\kt V' tb p n c at')->k<=1->Lu V p n->n<=400->kt V tb p n c at_->V.X tb->0<=at_ ->
   À 6 #[dS (some ⟨tb,0,none⟩),Ô .i64 (k:Int)] V λr V'=>∃(q:OA)(S:pz L3)(t:Tr)(at':Int),r=dS q/\RW V' q t/\S.length<=12*(k+1)/\Va S (12*(k+1)) t/\0<=at'/\kt V' tb p n c at':=by
  intro k V tb p n c at_ ih hk i j hw I s;refine qZ tb p n c at_ k V _ hw I λV1 l1 J e1 h1=>(gI (V:=V1.aq [J]) 6 (i.le l1) j e1 ⟨ψ,h1⟩ s ω).s ?_;rintro r V2 l2 ⟨x,IM,rfl,x0,x1,t1,K⟩;have L2:V.Le V2:=l1.m (Er l2);refine ⟨x,rfl,p,n,c,IM,K,λz V'=>V2.Le V'/\(z=true->0<k),⟨λ_=>⟨_,σ,λb o h=>h,λh=>by have:=Á h;omega⟩,λ_=>⟨false,σ,λb o h=>h,κ⟩⟩,?_⟩;rintro z V3 l3 ⟨hZ,hz⟩;have u:=L2.m hZ;have v:∀{W W':ut} {m:Nat},V3.Le W->kt W m p n c IM->W.H m->À 28 #[dS (some ⟨m,0,none⟩)] (W.aq [m]) λr V'=>∃(q:OA)(S:pz L3)(t:Tr)(at':Int),r=dS q/\RW V' q t/\S.length<=12/\Va S 12 t/\0<=at'/\kt V' m p n c at':=λ{W W' m} l e h=>Pp (V:=W.aq [m]) (i.le (u.m l)) j e ⟨ψ,h⟩ t1;have fin:∀{W:ut} {q:OA} {S:pz L3} {t:Tr} {a:Int},RW W q t->S.length<=12->Va S 12 t->0<=a->kt W tb p n c a->∃(q':OA)(S:pz L3)(t:Tr)(at':Int),Value.pointer q=dS q'/\RW W q' t/\S.length<=12*(k+1)/\Va S (12*(k+1)) t/\0<=at'/\kt W tb p n c at':=λ{W q S t a} w hS R s hT=>⟨q,S,t,a,rfl,w,ω,R.s ω,s,hT⟩;refine ⟨rfl,λL=>?_,λ_=>⟨λ_ lV cJ VI M Vj=>(c_L (V:=lV.aq [VI]) (i.le (u.m cJ)) j M ⟨ψ,Vj⟩ t1).s ?_,λ_=>⟨λ_ wH A B N O=>(Zv 3 (V:=wH.aq [B]) ω (i.le (u.m A)) j N ⟨ψ,O⟩ t1).s ?_,λ_=>⟨λ_ Vz tQ a5 P Q=>(v (W':=Vz) tQ P Q).s ?_,λ_ Vc xA a6 U Y=>(v (W':=Vc) xA U Y).s ?_⟩⟩⟩⟩
  ·have a7:=hz L;have ww:i64.wrap ((k:Int)-1)=((k-1:Nat):Int):=by{rw [au ω];omega};rcases ih with e0|C;{omega};rw [ww];intro V4 l4 NQ e4 h4;refine (C (V:=V4.aq [NQ]) (i.le (u.m l4)) j e4 ⟨ψ,h4⟩ t1).s ?_;rintro r V5 l5 ⟨q1,S1,u1,d,rfl,w1,s1,F,t2,f⟩;have L5:=u.m (l4.m (Er l5));refine ⟨q1,rfl,p,n,c,d,f,λV6 l6 Z e6 h6=>(gI (V:=V6.aq [Z]) 4 (i.le (L5.m (jZ l6))) j e6 ⟨ψ,h6⟩ t2 ω).s ?_⟩;rintro r V7 l7 ⟨y,a0,rfl,y0,y1,t3,a1⟩;have YK:=(jZ l6).m (Er l7);refine ⟨y,rfl,p,n,c,a0,a1,λV8 l8 Yi e8 h8=>(C (V:=V8.aq [Yi]) (i.le (L5.m (YK.m (jZ l8)))) j e8 ⟨ψ,h8⟩ t3).s ?_⟩;rintro r V9 l9 ⟨q2,S2,u2,D,rfl,w2,s2,G,t4,a2⟩;have a3:=(jZ l8).m (Er l9);refine ⟨q2,rfl,p,n,c,D,a2,λfW E=>(gQ (cp:=none) (cn:=0) (cc:=0) (c:=[]) (G.all.imp λ_ h=>h.1) u1 (w1.le (YK.m (a3.m (jZ E)))) (w2.le (jZ E)) (F.all.imp λ_ h=>h.1) bP.nil ţ (by have:=F.dep;have:=G.dep;simp;omega)).s ?_⟩;rintro r fk bw ⟨o,rfl,w⟩;have R:=Ch (q:=λl=>me l/\l∈S1++S2) (λ_ h=>h.1.1) (op:=i64.wrap (1+y)) (b:=u2) (G.all.imp λ_ h=>⟨h.1,Ľ _ h.2⟩) (a:=u1) (c:=[]) (F.all.imp λ_ h=>⟨h.1,ĭ _ h.2⟩) ţ Hx;exact ⟨o,rfl,λiD bY g=>⟨o,S1++S2,_,D,rfl,w.le bY,by rw [í];omega,R.s (by have:=F.dep;have:=G.dep;omega),t4,g⟩⟩
  ·rintro r mg cP ⟨l,d,gl,ok,bd,t2,f⟩;have a4:=gl;obtain ⟨_,_,_,_,_,_,_,_,_,_,_,_,rfl⟩:=bW gl;refine qxW ⟨rfl,p,n,c,d,f,λlY cK=>(cX true).s ?_⟩;rintro r mY cG ⟨o1,rfl,k1⟩;refine ⟨o1,rfl,λnX cD=>(cX false).s ?_⟩;rintro r rU dy ⟨o2,rfl,k2⟩;refine ⟨o2,rfl,λuD fy m hb=>?_⟩;have T:(Tr.node l (.leaf true) (.leaf false)).dV me:=⟨⟨ok,bd⟩,trivial,trivial⟩;refine (ld (.node l (.leaf true) (.leaf false)) (ON hb (cO.le a4 ((jZ cK).m (cG.m (cD.m (dy.m fy))))) (k1.le (cD.m (dy.m fy))) (k2.le fy)) T (by show 1+0<=990;omega)).s ?_;rintro r ux iA ⟨o3,rfl,k3⟩;have ⟨R,sl⟩:=OK T (by show 1+0+0<=12;omega);exact ⟨o3,rfl,λ_ uE iP g=>fin (k3.le iP) sl R t2 g⟩
  ·rintro r Gv kS ⟨q,t,d,rfl,w,ta,ts,t2,f⟩;refine ⟨q,rfl,p,n,c,d,f,λIF l_=>(ld t (w.le (jZ l_)) ta (by have:=ny t;omega)).s ?_⟩;rintro r O6 pG ⟨o,rfl,w'⟩;have ⟨R,sl⟩:=OK ta;exact ⟨o,rfl,λYb pS g=>fin (w'.le pS) sl R t2 g⟩
  ·rintro r Yc xw ⟨q,S,t,d,rfl,w,sl,R,t2,f⟩;refine ⟨q,rfl,p,n,c,d,f,λRc xy=>(mr t (w.le (jZ xy))).s ?_⟩;rintro r a8 DT ⟨o,rfl,w'⟩;exact ⟨o,rfl,λZf zG g=>fin (w'.le zG) sl R.not t2 g⟩
  ·rintro r a9 Az ⟨q,S,t,d,rfl,w,sl,R,t2,f⟩;exact ⟨q,rfl,p,n,c,d,f,λb0 xB g=>fin (w.le (jZ xB)) sl R t2 g⟩
 intro V tb p n c at_ hk
 exact base k (by
  by_cases h:k=0
  ·exact .inl h
  ·obtain rfl:k=1:=ω
   exact .inr λi j hw I s=>base 0 (.inl rfl) ω i j hw I s) hk
open Classical in
theorem Xv {S:pz L3}{d:Nat}{t:Tr}(h:Va S d t)(hs:S.length<=24):∃S':pz L3,S'.length<=24/\(∀l∈S',me l)/\(t.dV λl=>Bd l/\l∈S')/\t.dV me/\t.size<=600/\t.depth<=d:=by have b:∀l∈S.filter (λl=>decide (me l)),me l:=λl a=>by{simpa using (ĺ.1 a).2};have c:t.dV λl=>l∈S.filter λl=>decide (me l):=h.all.imp λl g=>ĺ.2 ⟨g.2,by simpa using g.1⟩;have a:(S.filter λl=>decide (me l)).length<=24:=ā (List.length_filter_le ..) hs;refine ⟨S.filter λl=>decide (me l),a,b,c.imp λl g=>⟨(b l g).2,g⟩,h.all.imp λ_ g=>g.1,?_,h.dep⟩;refine ā (UI h.prp (Wk []) c λl g=>(b l g).1) ?_;exact ā (Qg3 a (Nat.add_le_add_left a 1)) φ
theorem le_new {V1 V2 V3:ut}{bk:Nat}(l2:V1.Le V2)(hf:V1.w.heap.size<=bk)(l3:(V2.SU bk).Le V3):V1.Le V3:=λb o h=>l3 b o ⟨λc=>c.elim (l2 b o h).1 λe=>by
  have d:b<V1.w.heap.size:=by
   rcases ĉ b V1.w.heap.size with a|a
   ·exact a
   ·have:=h.2;rw [Qp2 a] at this;cases this
  have:=e.1;omega,(l2 b o h).2⟩
def RFaL (V:Ó)(v:Value)(x:L3×Sp):Prop:=O4 V v x.1 x.2
theorem Xt {fs:pz (L3×Sp)}(h:bP 14 RFaL V p n fs):y_ V p n fs:=⟨h.len,λi a=>by
 obtain ⟨b,c,xs,-,d,e⟩:=h.at_ i a;exact ⟨b,c,xs,d,e⟩⟩
set_option maxHeartbeats 2000000 in
theorem pN {y z:un}(hy:tv V 0 y)(hz:tv V 1 z){lp:OA}{ln lc:Nat}(hr:Lu V lp ln)(hc:ln<=lc):À 4 #[zF lp ln lc] V λr V'=>r=dB true:=by
 refine ph V _ λV1 l1=>(I_ hc).s ?_;rintro r V2 l2 ⟨a1,rfl,Q,hb⟩;refine ⟨a1,_,_,_,_,rfl,Q,hb,λV3 l3 NQ e4 h4=>?_⟩;have B:min ln 400<=400:=Nat.min_le_right _ _;have hr:Lu V lp (min ln 400):=λi hi=>hr i (ĳ hi (Wj3 _ _));generalize min ln 400=n at *;have yG:=l1.m (le_new l2 Q l3);refine (Sb 1 (V:=V3.aq [NQ]) ω (hr.le yG) B e4 ⟨ψ,h4⟩ (Wx2 0)).s ?_;rintro r V4 l4 ⟨q,S,t,IM,rfl,T,sl,R,t1,a2⟩;have ⟨S',a7,sk,sa,ok,sz,dp⟩:=Xv R sl;have Hk:=yG.m (Er l4);refine ⟨q,rfl,lp,n,lc,IM,a2,λV5 l5 Yi e8 h8=>(c_L (V:=V5.aq [Yi]) (hr.le (Hk.m (jZ l5))) B e8 ⟨ψ,h8⟩ t1).s ?_⟩;rintro r V6 l6 ⟨L,a3,gl,kL,bL,t2,a4⟩;have U:=gl;obtain ⟨_,_,_,_,_,_,_,_,_,_,_,_,rfl⟩:=AV gl;have s:=(jZ l5).m (Er l6);have v:AU S' t:=⟨ok,sa,ω,λl W=>(sk l W).2,ω,ω⟩
 have FY:AU (L::S') (.node L t t):=⟨⟨⟨kL,bL⟩,ok,ok⟩,⟨⟨bL,þ ..⟩,sa.imp λ_ g=>⟨g.1,ó _ g.2⟩,sa.imp λ_ g=>⟨g.1,ó _ g.2⟩⟩,by rw [Ą];omega,
  λl W=>by rcases å.1 W with rfl|W;exact bL;exact (sk l W).2,by simp only [Tr.size];omega,by simp only [Tr.depth];omega⟩
 have G:AU S' t.rz:=⟨uV ok,uV sa,v.mN,v.bd,by rw [uW];exact v.size,by rw [w_];exact v.dep⟩;have eC:=SH v.oks;refine qxW ⟨rfl,lp,n,lc,a3,a4,λV7 l7=>(mL (T.le (s.m (jZ l7))) ok).s ?_⟩;rintro r V8 l8 hA;obtain ⟨pa,na,ca,rfl,-⟩:=id hA;have Qk:=(jZ l7).m l8;have Rg:=Hk.m (s.m Qk);refine ⟨_,pa,na,ca,rfl,λV9 N=>(GL v (hA.le N) (hy.le (Rg.m N)) (hz.le (Rg.m N))).s ?_⟩;rintro r fW H ⟨p1,n1,c1,rfl,ga⟩;refine ⟨p1,n1,c1,.nilIface,rfl,λX bw bk a5 a8=>?_⟩;have Qj:=Qk.m (N.m (H.m bw));refine (lf (V:=X.aq [bk]) (ln:=L) (x:=t) (y:=t) a5 (RL.le (V:=V6) (V':=X.aq _) U λb o h=>Qj b o h) (RW.le (V:=V4) (V':=X.aq _) (λb o h=>(s.m Qj) b o h) T) (RW.le (V:=V4) (V':=X.aq _) (λb o h=>(s.m Qj) b o h) T) FY.ok (by have:=FY.size;omega)).s ?_;rintro r iD bY ⟨a6,hB⟩;obtain ⟨pb,nb,cb,rfl,-⟩:=id hB;refine ⟨_,pb,nb,cb,rfl,_,_,_,_,_,_,_,_,_,_,_,_,_,_,_,_,a6,λku D=>?_⟩;have I:X.Le ku:=λb o h=>D b o (bY b o h);have Tb:=bw.m I;have Y:=Rg.m (N.m (H.m Tb));refine (GL FY (hB.le D) (hy.le Y) (hz.le Y)).s ?_;rintro r lV O ⟨p2,n2,c2,rfl,gb⟩;rw [(PU kL v.oks)] at gb;refine ⟨p2,n2,c2,.nilIface,rfl,λmg cP=>(mL (T.le ((s.m (Qk.m (N.m (H.m Tb)))).m (O.m cP))) ok).s ?_⟩;rintro r lY cK hC;obtain ⟨pc,nc,cc,rfl,-⟩:=id hC;refine ⟨_,pc,nc,cc,rfl,λmY cG=>(tE (qw (Cm ok)) (hC.le cG) (MD (Ou ok)) (Cm ok)).s ?_⟩;rintro r nX cD ⟨w,rfl,hD⟩;obtain ⟨pd,nd,cd,rfl,-⟩:=id hD;have FX:=cP.m (cK.m (cG.m cD));refine ⟨_,pd,nd,cd,.nilIface,rfl,λrU dy=>(GL G (hD.le dy) (hy.le (Y.m (O.m (FX.m dy)))) (hz.le (Y.m (O.m (FX.m dy))))).s ?_⟩;rintro r uD fy ⟨p3,n3,c3,rfl,gc⟩;have Ob:=FX.m (dy.m fy);have E:=Y.m (O.m Ob);have a9:=v.len;have b0:=G.len;have b1:=xu (rE t (bV t.eU));have b2:=xu (rE t.rz (bV t.rz.eU));have Z:=JN λf c=>(v.yB f c).2;have a0:=S9 (k:=1000) (m:=1000000) φ λf c=>⟨(G.yB f c).1,(G.yB f c).2.1.ja,(G.yB f c).2.2⟩
 have K:∀m,(ax m (xL (dw (rE t.rz (bV t.rz.eU))))).length<=61:=λm=>by rw [xO,yS,ď];have h1:=G.each (Õ m);rw [rP G.oks] at h1 ⊢;split;{rename_i o;rw [Ä o] at h1;rw [uU (show rW (po (Õ m) t.rz) from comb_reg ..)];exact h1};{rw [ry];exact â _}
 generalize dw (rE t.rz (bV t.rz.eU))=C at *;generalize dw (rE t (bV t.eU))=A at *;have F:=ga.le Tb;clear U hA hB hC hD T;refine ⟨p3,n3,c3,.nilIface,rfl,.inl rfl,κ,λ_=>⟨.inl rfl,κ,λ_=>⟨.inl rfl,κ,λ_=>⟨.inl rfl,κ,λ_ IF l_=>(su (F.le (O.m (Ob.m l_))) (gb.le (Ob.m l_)) Z ω).s ?_⟩⟩⟩⟩;rintro r O6 pG rfl;obtain rfl:=gc.len;have rl:(xL C).length=C.length:=ď ..
 refine ⟨_,rfl,κ,λ_=>⟨λz V'=>∃j:Nat,z.2.2.2=(j:Int)/\j<=C.length/\GR 14 RFaL V' z.1 z.2.1 z.2.2.1 ((xL C).take j),λz=>C.length-z.2.2.2.toNat,⟨(0,0,[],0),σ,0,rfl,â _,GR.nil⟩,?_⟩⟩;rintro ⟨z1,z2,vs,z4⟩ Vz tQ ⟨j,e4,yF,p⟩;dsimp only at e4 p;subst e4;dsimp only;have YH:=l_.m (pG.m tQ);have zl:=p.len;rw [é,rl] at zl;refine ⟨rfl,λu=>?_,λu Zf zG bk hb=>?_⟩
 ·have u:=Á u;have hi:j<C.length:=ω;have w:i64.wrap ((j:Int)+1)=((j+1:Nat):Int):=by{rw [au ω];rfl};rw [w,Ý];obtain ⟨ad,h0,xs,h2,d⟩:=(gc.le YH).at_ j hi;have ⟨_,_,_,_,_,_,_,_,_,_,_,_,_,_,_,_,_,_,_,_,_,_,_,_,_,_,ex⟩:=qj h2;have ex:=Æ Array.toList (Value.agg.inj ex);dsimp only at ex;subst ex;have ⟨P,k2,k3⟩:=a0 _ (ù hi);refine ⟨aQ h0,⟨ω,ω⟩,_,_,_,_,_,_,_,_,_,_,_,_,_,_,_,_,_,_,_,_,_,_,_,_,_,_,_,_,ad,h0,d 0 _ rfl,d 1 _ rfl,d 2 _ rfl,d 3 _ rfl,d 4 _ rfl,d 5 _ rfl,d 6 _ rfl,d 7 _ rfl,d 8 _ rfl,d 9 _ rfl,d 10 _ rfl,d 11 _ rfl,d 12 _ rfl,d 13 _ rfl,λYc xw=>(Po (k:=1000000) (h2.le xw) P (k2.up ω) k3).s ?_⟩;rintro r Rc xy ⟨w2,rfl,g⟩;have g0:=g;obtain ⟨_,_,_,_,_,_,_,_,_,_,_,_,_,_,_,_,_,_,_,_,_,_,_,_,_,_,rfl⟩:=qj g;refine ⟨_,_,_,_,_,_,_,_,_,_,_,_,_,_,_,_,_,_,_,_,_,_,_,_,_,_,_,_,.nilIface,rfl,.inl rfl,κ,λ_=>⟨ω,p.le,p.cap,rfl,J7,λsp c' P k2=>⟨(z1+1,c',_,((j+1:Nat):Int)),by dsimp only;omega,σ,j+1,rfl,ω,?_⟩⟩⟩;rw [<-Qj6 (by omega:j<(xL C).length)];refine (p.s (V':=Rc) λ_ _ g=>O4.le g (xw.m xy)).snoc (a:=(xL C)[j]'ω) rfl ?_ φ P k2;have e:(xL C)[j]'ω=(Õ C[j].1,C[j].2.neg):=Qp0 ..;rw [e];exact g0
 have u:=Â u;obtain rfl:j=C.length:=ω
 rw [show (xL C).take C.length=xL C from by rw [<-rl];exact ě] at p;have hL:=bP.bM hb (p.row.le λ_ _ g=>O4.le g zG) φ (by rw [<-p.len];exact p.le)
 (try dsimp only at hL ⊢)
 rw [p.len]
 have M:∀f∈xL C,U9 f.1 f.2/\iH 1000 f.1/\f.2.sz 1000000:=λf c=>by obtain ⟨g,p,rfl⟩:=ò.1 c;have ⟨P,k2,k3⟩:=a0 g p;exact ⟨⟨vA P.1,TP P.2⟩,k2.rev,Sp.TQ k3⟩
 refine (I2 (Xt hL) ω (λm=>Ń (K m) ω) (λf c=>(M f c).2.1.up ω) (λf c=>(M f c).2.2) (λf c=>(M f c).1) (by rw [eC];omega) (λi=>CO i)).s ?_;rintro r Vc xA ⟨p4,n4,c4,rfl,gj⟩;rw [eC] at gj;have Tg:=YH.m (zG.m xA);refine ⟨p4,n4,c4,.nilIface,rfl,λJ b3 Az=>(Ps (λg g0=>?_) (Ym _) (hy.le (E.m (Tg.m Az))) (hz.le (E.m (Tg.m Az)))).s ?_⟩
 ·have e:dw [(LL,bZ)]=[(LL,bZ)]:=by{show List.flatMap _ [LL]=_;rw [List.flatMap_singleton,show ax LL [(LL,bZ)]=[bZ] by unfold ax;simp,Fy];rfl};refine (wO g g0 ψ (λm=>Ń (by unfold ax;rw [ď];exact List.length_filter_le ..) (show 1<70 by omega)) (λf c=>by rw [ö.1 c];exact Rm.ja.up ω) (λf c=>by rw [ö.1 c];exact lr) (λf c=>by rw [ö.1 c];exact ⟨CZ _,CZ _⟩) λi=>CO i).s λr V' _ h=>?_;rwa [e] at h
 rintro r b4 xB rfl;refine ⟨_,rfl,λ_=>⟨.inl rfl,λ_ b5 JP=>(su (F.le (O.m (Ob.m (Tg.m (Az.m (xB.m JP)))))) (gj.le (Az.m (xB.m JP))) Z ω).s ?_,κ⟩,κ⟩;rintro r b6 Qh rfl;exact ⟨_,rfl,λb7 Of=>rfl⟩
end Go.Proofs.Tryz
namespace Go.Proofs.YtlhmddanbgcbjaaGreatDoor.dD
open Go.ChangeShapes Go.WideShapes Go.ChangeAt Go.RowKit Go.Eng
section
abbrev Vh (b:Program->FuncId->Func->ChangeSpec->OpenClaim->Bool):Prop:=b Tryz.pinned.checked.prog 4 Tryz.f4 (OpenSpec.ofChange Rows.boundaryFormsSpec).bare Rows.boundaryFormsRow=true
def WY {b:Program->FuncId->Func->ChangeSpec->OpenClaim->md}(h:b Tryz.pinned.checked.prog 4 Tryz.f4 (OpenSpec.ofChange Rows.boundaryFormsSpec).bare Rows.boundaryFormsRow=true:=by kernel_rfl):Vh b:=h
def fact0:Vh λP f fn s c=>c.wf (OpenSpec.ofChange s):=WY
def fact1:Vh λP f fn s c=>laidOutB P:=WY
def fact2:Vh λP f fn s c=>mapsRowed P:=WY
def fact3:Vh λP f fn s c=>fn.params.all (P.readableRec ·):=WY
def fact4:Vh λP f fn s c=>namedTie P c.named s.vars:=WY
def fact5:Vh λP f fn s c=>(c.stops==[]):=WY
def fact6:Vh λP f fn s c=>(P.stops==[]):=WY
def fact7:Vh λP f fn s c=>(c.knobs==[]):=WY
def fact8:Vh λP f fn s c=>(P.stopKnobs==[]):=WY
abbrev fk2 (b:Program->FuncId->Func->ChangeSpec->OpenClaim->Bool):Prop:=b Tryz.pinned.checked.prog 4 Tryz.f4 (OpenSpec.ofChange Rows.boundaryFormsSpec).bare Rows.boundaryFormsRow=true
def mk2 {b:Program->FuncId->Func->ChangeSpec->OpenClaim->md}(h:b Tryz.pinned.checked.prog 4 Tryz.f4 (OpenSpec.ofChange Rows.boundaryFormsSpec).bare Rows.boundaryFormsRow=true:=by kernel_rfl):fk2 b:=h
def fact9:fk2 λP f fn s c=>(c.inPlace==P.inPlace f):=mk2
def ZE:fk2 λP f fn s c=>(c.unfollowed==P.unfollowed f):=mk2
def ZF:fk2 λP f fn s c=>(c.recurses==P.recurses f):=mk2
abbrev PR (b:Program->FuncId->Func->ChangeSpec->OpenClaim->Bool):Prop:=b Tryz.pinned.checked.prog 4 Tryz.f4 (OpenSpec.ofChange Rows.boundaryFormsSpec).bare Rows.boundaryFormsRow=true
def Rh {b:Program->FuncId->Func->ChangeSpec->OpenClaim->md}(h:b Tryz.pinned.checked.prog 4 Tryz.f4 (OpenSpec.ofChange Rows.boundaryFormsSpec).bare Rows.boundaryFormsRow=true:=by kernel_rfl):PR b:=h
def ZG:PR λP f fn s c=>(c.named==P.varsNamed f):=Rh
def ZH:PR λP f fn s c=>(c.maps==(fn.params.toList++s.plain.varTypes P).any (P.mapsRec ·)):=Rh
def ZI:PR λP f fn s c=>(c.ifaces==(fn.params.toList++s.plain.varTypes P).any (P.ifacesRec ·)):=Rh
def ZJ:PR λP f fn s c=>(c.mapsOut==P.mapsAmong fn.resultTypes.toList):=Rh
def ZK:PR λP f fn s c=>(c.loops==(fn.params.toList++s.plain.varTypes P).any (P.loopsFrom ·)):=Rh
def ZL:PR λP f fn s c=>(c.wideKeys==(fn.params.toList++s.plain.varTypes P++fn.resultTypes.toList).any (P.wideKeysFrom ·)):=Rh
def ZM:PR λP f fn s c=>s.vars.all (P.varReadable ·):=Rh
def ZN:PR λP f fn s c=>fn.resultTypes.all (λt=>P.readableRec t&&decide (t<P.types.size)):=Rh
def ZO:PR λP f fn s c=>(c.ifacesOut==fn.resultTypes.toList.any (P.ifacesRec ·)):=Rh
def ZP:PR λP f fn s c=>(c.loopsOut==fn.resultTypes.toList.any (P.loopsFrom ·)):=Rh
def ZQ:PR λP f fn s c=>(c.plainKeys==P.plainKeys):=Rh
def ZR:PR λP f fn s c=>c.shortTexts.isNone:=Rh
abbrev Wp (b:Program->FuncId->Func->ChangeSpec->OpenClaim->Bool):Prop:=b Tryz.pinned.checked.prog 4 Tryz.f4 (OpenSpec.ofChange Rows.boundaryFormsSpec).bare Rows.boundaryFormsRow=true
def YN {b:Program->FuncId->Func->ChangeSpec->OpenClaim->md}(h:b Tryz.pinned.checked.prog 4 Tryz.f4 (OpenSpec.ofChange Rows.boundaryFormsSpec).bare Rows.boundaryFormsRow=true:=by kernel_rfl):Wp b:=h
def ZS:Wp λP f fn s c=>P.stopsHeard:=YN
def ZT:Wp λP f fn s c=>P.mayEnter:=YN
def ZU:Wp λP f fn s c=>(c.lifted==P.liftsFinal):=YN
def ZV:Wp λP f fn s c=>(P.make==some c.make):=YN
def ZW:Wp λP f fn s c=>(c.kinds==(if c.domain.isEmpty then [] else fn.params.toList.map λt=>match P.underlying t with|some (.int k)=>some k|_=>none)):=YN
def ZX:Wp λP f fn s c=>(c.pinned==c.pinnedBy):=YN
def ZY:Wp λP f fn s c=>(c.veiled==(fn.params.toList++s.plain.varTypes P++fn.resultTypes.toList).any (P.veiledRec ·)):=YN
def ZZ:Wp λP f fn s c=>c.veiledFits P fn.params.toList (fn.params.toList++s.plain.varTypes P++fn.resultTypes.toList):=YN
end
section
def goes:false=Rows.boundaryFormsRow.goesBy Tryz.pinned.checked.prog:=ζ
end
end Go.Proofs.YtlhmddanbgcbjaaGreatDoor.dD
