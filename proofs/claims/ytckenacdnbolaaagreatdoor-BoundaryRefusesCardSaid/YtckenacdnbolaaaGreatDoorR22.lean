import Derived.Test.YtckenacdnbolaaaGreatDoorR21
import Derived.Test.YtckenacdnbolaaaGreatDoorR16
import Derived.Test.YtckenacdnbolaaaGreatDoorR19
import Derived.Test.YtckenacdnbolaaaGreatDoorR9
import Derived.Test.YtckenacdnbolaaaGreatDoorR10
import Derived.Test.YtckenacdnbolaaaGreatDoorR20
import Derived.Test.YtckenacdnbolaaaGreatDoorR11
set_option linter.all false
open Go.IntKind (i64 u64 u32)
namespace Go.Proofs.Tryz
open Go.Eng Go.Big
open Go.Value renaming slice→hF,agg→dB,bool→qvQ,pointer→qvW,tuple→qvZ,int→qvK
variable{V:View}{p:OA}{c k n:Nat}{w y z:Value}{root:Int}
def Ob (L:List (List (Rat×Rat))):List L3:=(L.flatMap kM).map Prod.fst
abbrev SX (S:List L3)(d:Nat)(t:Tr):Prop:=JK (λl=>nE l/\l∈S) d (aw.pos []) t
theorem FY:∃x,aw.pos [] x:=⟨(0,0),λ_ h=>nomatch h⟩
theorem D_ {L:pz (pz (Rat×Rat))}(hL:∀l∈L,Pg l):(L.flatMap kM).length<=6*L.length:=by
 induction L with
 | nil=>simp
 | cons l L ih=>
  have:=ih λl h=>hL l (Qq8 _ h);have:=(hL l (Qw6 ..)).len;have:=mP l;rw [Qy2,Qq3,Qw9];omega
theorem rB {p2:OA}{n2 c2:Nat}{fill:Int}{L:pz (pz (Rat×Rat))}(h:bI 1 Ci V p n L)(hn:L.length<=2)(hL:∀l∈L,Pg l) :
  aa prog 77 #[dB #[hF p n c,qvK .i64 fill,hF p2 n2 c2]] V λr V'=>∃o t,r=qvW o/\RW V' o t/\SX (Ob L) 12 t:=by
 obtain rfl:=h.len;have N:Pgs L:=⟨by omega,λl v=>⟨by have:=(hL l v).len;omega,λx G=>⟨((hL l v).sm x G).1.s (by omega),((hL l v).sm x G).2.s (by omega)⟩⟩⟩;refine B9 V _ ⟨λz V'=>∃j:Nat,z.2.2.2=(j:Int)/\j<=L.length/\GR 14 rS V' z.1 z.2.1 z.2.2.1 ((L.take j).flatMap kM),λz=>L.length-z.2.2.2.toNat,⟨(0,0,[],0),by and_intros<;>rfl,0,rfl,Qq4 _,GR.nil⟩,?_⟩;rintro ⟨O,z2,vs,z4⟩ V1 i ⟨j,H,wX,b⟩;dsimp only at H b;subst H;have zl:=b.len;have el:=D_ (L:=L.take j) λl h=>hL l (Wq2 _ _ h);rw [Qq7] at el;dsimp only;rw [Qq0];refine ⟨rfl,λa=>?_,λa V4 y bk P=>?_⟩
 ·have a:(j:Int)<L.length:=of_decide_eq_true a;have s:j<L.length:=by omega
  have w:i64.wrap ((j:Int)+1)=((j+1:Nat):Int):=by rw [au (by omega)];rfl
  rw [w];obtain ⟨Q,R,S,T,A,g⟩:=FJ (h.le i λ_ _ k=>Ci.le k i) s;have k:=hL _ (Qq9 s);have k6:=k.len;refine ⟨Q,⟨by omega,by omega⟩,R,S,T,A,λV2 B=>(rA (g.le B λ_ _ k=>cM.le k B) k).s ?_⟩;rintro r V3 U ⟨W,m2,X,rfl,I⟩;obtain rfl:=I.len;have ej:=mP L[j];have ⟨xs,Y,u,J⟩:=eH I (by decide);refine ⟨W,_,X,rfl,xs,Y,u,by omega,b.le,b.cap,u,Gc J u,λsp Z C D=>⟨(O+_,Z,_,((j+1:Nat):Int)),by dsimp only;omega,by and_intros<;>rfl,j+1,rfl,s,?_⟩⟩
  have e:(L.take (j+1)).flatMap kM=(L.take j).flatMap kM++kM L[j]:=by
   rw [Qz9,Qq1 s];show List.flatMap _ (_++[L[j]])=_;rw [Qm8,Qy2,Wz3,Qx3]
  rw [e];exact (b.s λ_ _ g=>rS.le g (B.m U)).app J u (by decide) C D
 ·have a:¬(j:Int)<L.length:=of_decide_eq_false a;obtain rfl:j=L.length:=by omega
  rw [Qy5] at b;obtain rfl:=b.len;have F:=bI.bJ P (b.row.le λ_ _ g=>rS.le g y) (by decide) b.le
  have E:∀f∈L.flatMap kM,Vy f:=λf d=>by
   obtain ⟨l,C,D⟩:=Qy4.1 d;exact (hL l C).VW f D
  refine (Hq (q:=λl=>nE l/\l∈Ob L) 12 (c:=[]) (by omega) F E (λf d=>⟨⟨(E f d).ok,(E f d).bd⟩,Qz0.2 ⟨f,d,rfl⟩⟩) (bI.nil (p:=none)) (λm h=>nomatch h) (by decide) (h.le (i.m y) λ_ _ k=>Ci.le k (i.m y)) N).s ?_;rintro r V5 l5 ⟨o,t,rfl,w,K,td⟩;refine ⟨o,rfl,λV6 l6=>(kK t (w.le l6) (K.imp λ_ h=>h.1)).s ?_⟩;rintro r V7 l7 ⟨M,rfl,w'⟩;exact ⟨M,rfl,λV8 l8=>⟨M,_,rfl,w'.le l8,(sQ (λ_ h=>h.1.1) K (λ_ h=>by cases h) FY).s td⟩⟩
theorem gH {op:Int}{b:Tr}(kb:b.eU nE):∀(a:Tr) {V:ut} {p pb cp:OA} {cn cc:Nat} {c:pz L3},RW V p a->RW V pb b->a.eU nE->bI 6 cA V cp cn c->(∀m∈c,nE m)->c.length+a.depth+b.depth<=980 ->
  aa prog 23 #[qvK .i64 op,qvW p,qvW pb,hF cp cn cc] V λr V'=>∃q,r=qvW q/\RW V' q (pU op a b c)
 | .leaf i,V,p,pb,cp,cn,cc,c,h,hb,_,hc,kc,hd=>by
  have ⟨s,e0,e1⟩:=oE h;simp only [Tr.depth] at hd;have G:∀{W:ut},V.Le W->∃a,ae p 1=some a/\W.at a (qvQ i):=λg=>(oE (h.le g)).2.2;have eq:∀k:Int,(op==k)=true->op=k:=λk h=>by simpa using h
  have ne:∀k:Int,(op==k)=false->op≠k:=λk h=>by simpa using h
  refine qv V _ ⟨s,s,_,e0,λ_ V1 U=>(dw b (hb.le U) kb (hc.le U λ_ _ k=>cA.le k U) kc (by omega)).s ?_,(λh=>nomatch h)⟩;rintro r V2 I ⟨q,rfl,g⟩;have nD:=U.m I
  have dn:∀{c:md} {P:Prop} [Decidable P],(c=true->P)->(c=false->¬P)->c=decide P:=λ{c P _} a b=>by
   cases c
   ·exact (decide_eq_false (b rfl)).symm
   ·exact (decide_eq_true (a rfl)).symm
  have fin:∀{W:ut} (t:Tr),pU op (.leaf i) b c=t->∀{o:OA},RW W o t->∃q,Value.pointer o=qvW q/\RW W q (pU op (.leaf i) b c):=λ{W} t e {o} k=>⟨o,rfl,by rw [e];exact k⟩;refine ⟨q,rfl,λz _=>z=decide (op=1/\i=true),⟨λn=>⟨s,s,i,G nD,_,by and_intros<;>rfl,dn (λh=>⟨eq 1 n,h⟩) λh g=>by rw [h] at g;exact nomatch g.2⟩,λn=>⟨false,by and_intros<;>rfl,dn (λh=>nomatch h) λ_ g=>ne 1 n g.1⟩⟩,?_⟩;rintro z V3 X rfl;refine ⟨rfl,λv V4 Y=>(cP true).s ?_,λv=>?_⟩
  ·have v:=of_decide_eq_true v;rintro r V5 l5 ⟨o,rfl,k⟩;exact ⟨o,rfl,λV6 J=>fin _ (by unfold pU;rw [if_pos v]) (k.le J)⟩
  have v:=of_decide_eq_false v;have Ar:=nD.m X;refine ⟨λz _=>z=decide ((op=2\/op=3)/\i=false),⟨λn=>⟨s,s,i,G Ar,_,by and_intros<;>rfl,dn (λh=>⟨.inl (eq 2 n),by simpa using h⟩) λh g=>by rw [g.2] at h;exact nomatch h⟩,λn=>⟨λw=>⟨s,s,i,G Ar,_,by and_intros<;>rfl,dn (λh=>⟨.inr (eq 3 w),by simpa using h⟩) λh g=>by rw [g.2] at h;exact nomatch h⟩,λw=>⟨false,by and_intros<;>rfl,dn (λh=>nomatch h) λ_ g=>g.1.elim (ne 2 n) (ne 3 w)⟩⟩⟩,?_⟩;rintro z V7 D rfl;refine ⟨rfl,λd V8 l8=>(cP false).s ?_,λd=>?_⟩
  ·have d:=of_decide_eq_true d;rintro r V9 l9 ⟨o,rfl,k⟩;exact ⟨o,rfl,λfQ f=>fin _ (by unfold pU;rw [if_neg v,if_pos d]) (k.le f)⟩
  have d:=of_decide_eq_false d;have OZ:=Ar.m D;refine ⟨λz _=>z=decide ((op=3\/op=4)/\i=true),⟨λn=>⟨s,s,i,G OZ,_,by and_intros<;>rfl,dn (λh=>⟨.inl (eq 3 n),h⟩) λh g=>by rw [h] at g;exact nomatch g.2⟩,λn=>⟨λw=>⟨s,s,i,G OZ,_,by and_intros<;>rfl,dn (λh=>⟨.inr (eq 4 w),h⟩) λh g=>by rw [h] at g;exact nomatch g.2⟩,λw=>⟨false,by and_intros<;>rfl,dn (λh=>nomatch h) λ_ g=>g.1.elim (ne 3 n) (ne 4 w)⟩⟩⟩,?_⟩;rintro z fD K rfl;have A:=X.m (D.m K);refine ⟨rfl,λj gS B=>(lQ _ (g.le (A.m B))).s ?_,λj jI Z=>?_⟩
  ·have j:=of_decide_eq_true j;rintro r j7 bU ⟨o,rfl,k⟩;exact ⟨o,rfl,λlB L=>fin _ (by unfold pU;rw [if_neg v,if_neg d,if_pos j]) (k.le L)⟩
  ·have j:=of_decide_eq_false j;exact fin _ (by unfold pU;rw [if_neg v,if_neg d,if_neg j]) (g.le (A.m Z))
 | .node l x y,V,p,pb,cp,cn,cc,c,h,hb,ha,hc,kc,hd=>by
  obtain ⟨E,kx,ky⟩:=ha;simp only [Tr.depth] at hd;have ⟨b1,p1,n1,c1,b2,p2,n2,c2,b3,p3,n3,c3,pl,pr,a,s,e2,H⟩:=MK h;obtain ⟨z,⟨M,N,O,Q,R,S⟩,e8,e9,-,-,-⟩:=H V (View.Le.refl V);have T:∀{W:ut},V.Le W->bI 6 cA W cp cn c:=λg=>hc.le g λ_ _ k=>cA.le k g;refine qv V _ ⟨s,s,_,z,(λh=>nomatch h),λ_=>⟨s,s,_,_,_,_,_,_,_,_,_,_,_,_,a,e2,M,N,O,Q,R,S,λV2 I=>(rz (T I) (λm h=>(kc m h).2) (λm h=>(kc m h).1) (by omega) (H V2 I).2.2.2.2.1 E.2 E.1).s ?_⟩⟩;rintro r V3 X rfl;have L3:=I.m X;obtain ⟨-,⟨M,N,O,Q,R,S⟩,e8,e9,-,-,-⟩:=H V3 L3;refine ⟨_,rfl,λu=>⟨s,s,pl,e8,λV4 Y=>(gH kb x (H V4 (L3.m Y)).2.2.2.2.2.1 (hb.le (L3.m Y)) kx (T (L3.m Y)) kc (by omega)).s ?_⟩,λu=>⟨λC=>⟨s,s,pr,e9,λV7 D=>(gH kb y (H V7 (L3.m D)).2.2.2.2.2.2 (hb.le (L3.m D)) ky (T (L3.m D)) kc (by omega)).s ?_⟩,λC=>?_⟩⟩
  ·have u:AY c l=1:=by simpa using u
   rintro r V5 l5 ⟨q,rfl,g⟩;exact ⟨q,rfl,λV6 J=>⟨q,rfl,by unfold pU;rw [if_pos u];exact g.le J⟩⟩
  ·have u:¬AY c l=1:=by simpa using u
   have C:AY c l=-1:=by simpa using C
   rintro r V5 l5 ⟨q,rfl,g⟩;exact ⟨q,rfl,λV6 J=>⟨q,rfl,by unfold pU;rw [if_neg u,if_pos C];exact g.le J⟩⟩
  ·have u:¬AY c l=1:=by simpa using u
   have C:¬AY c l=-1:=by simpa using C
   have ⟨w1,w2⟩:=yY kc E;have ⟨w3,w4⟩:=yY kc (uq E);refine ⟨s,s,_,_,_,_,_,_,_,_,_,_,_,_,a,e2,M,N,O,Q,R,S,s,s,pl,e8,s,s,_,_,_,_,_,_,_,_,_,_,_,_,a,e2,M,N,O,Q,R,S,s,s,pr,e9,s,s,_,_,_,_,_,_,_,_,_,_,_,_,a,e2,M,N,O,Q,R,S,λfQ f=>(j8 (T (L3.m f)) kc (by omega) (H fQ (L3.m f)).2.2.2.2.1 E).s ?_⟩;rintro r fD K ⟨q1,m1,d1,rfl,h1⟩;refine ⟨q1,m1,d1,rfl,λgS B=>(gH kb x (H gS (L3.m (f.m (K.m B)))).2.2.2.2.2.1 (hb.le (L3.m (f.m (K.m B)))) kx (h1.le B λ_ _ k=>cA.le k B) w1 (by omega)).s ?_⟩;rintro r j7 bU ⟨n,rfl,t1⟩;have Vz:=L3.m (f.m (K.m (B.m bU)));refine ⟨n,rfl,λlB L=>(jA (H lB (Vz.m L)).2.2.2.2.1).s ?_⟩;rintro r jI Z gr;have Ai:cA jI r (revL l):=gr;obtain ⟨_,_,_,_,_,_,_,_,_,_,_,_,rfl⟩:=bR Ai;have Zr:=Vz.m (L.m Z);refine qxW ⟨rfl,λlH cq=>(j8 (T (Zr.m cq)) kc (by omega) (cA.le Ai cq) (uq E)).s ?_⟩;rintro r lC b_ ⟨q2,m2,d2,rfl,h2⟩;have VB:=Zr.m (cq.m b_);refine ⟨q2,m2,d2,rfl,λmE F=>(gH kb y (H mE (VB.m F)).2.2.2.2.2.2 (hb.le (VB.m F)) ky (h2.le F λ_ _ k=>cA.le k F) w3 (by omega)).s ?_⟩;rintro r pf du ⟨w,rfl,t2⟩;have a6:=VB.m (F.m du);refine ⟨w,rfl,λvh fl=>(tO (H vh (a6.m fl)).2.2.2.2.1 (t1.le (L.m (Z.m (cq.m (b_.m (F.m (du.m fl))))))) (t2.le fl)).s ?_⟩;rintro r qB gi ⟨o3,rfl,t3⟩;exact ⟨o3,rfl,λtC gV=>⟨o3,rfl,by unfold pU;rw [if_neg u,if_neg C];exact t3.le gV⟩⟩
def vI (a b:Rat×Rat):Int:=if dI a.1 b.1=0 then dI a.2 b.2 else dI a.1 b.1
theorem TN {a b:Rat×Rat}:a=b↔vI a b=0:=by grind [vI,iC.1,iC.2]
def pP (x:Rat×Rat):List (Rat×Rat)->List (Rat×Rat)
 | []=>[x]
 | y::r=>if vI y x<0 then y::pP x r else if y=x then y::r else x::y::r
theorem Uj {x:Rat×Rat}:∀(o:pz (Rat×Rat))(k:Nat),k<=o.length->(∀j (h:j<o.length),j<k->vI o[j] x<0)->(∀h:k<o.length,¬vI o[k] x<0) ->
  pP x o=if (∃h:k<o.length,o[k]=x) then o else o.take k++x::o.drop k:=by
 intro o
 induction o with
 | nil=>
  intro k d _ _;simp [pP]
 | cons y r ih=>
  intro k d a b
  cases k with
  | zero=>
   have c:¬vI y x<0:=b (by simp);unfold pP;rw [if_neg c];by_cases e:y=x
   ·rw [if_pos e,if_pos ⟨by simp,e⟩]
   grind
  | succ k=>
   have c:vI y x<0:=a 0 (by simp) (by omega);unfold pP;rw [if_pos c,ih k (by simpa using d) (λj h i=>a (j+1) (by simpa using h) (by omega)) (λh=>b (by simpa using h))];by_cases e:∃h:k<r.length,r[k]=x
   ·obtain ⟨f,g⟩:=e;rw [if_pos ⟨f,g⟩,if_pos ⟨by simpa using f,g⟩]
   grind
theorem H0 (x:Rat×Rat):∀o:pz (Rat×Rat),(pP x o).length<=o.length+1
 | []=>by simp [pP]
 | y::r=>by
  have:=H0 x r;grind [pP]
theorem H2 {x y:Rat×Rat}:∀{o:pz (Rat×Rat)},y∈pP x o↔y=x\/y∈o
 | []=>by simp [pP]
 | z::r=>by
  have ih:=H2 (x:=x) (y:=y) (o:=r);unfold pP;split
  ·rw [Qq6,ih,Qq6];exact ⟨λh=>h.elim (λh=>.inr (.inl h)) λh=>h.elim .inl λh=>.inr (.inr h),λh=>h.elim (λh=>.inr (.inl h)) λh=>h.elim .inl λh=>.inr (.inr h)⟩
  ·split
   ·rename_i e;subst e;rw [Qq6];exact ⟨.inr,λh=>h.elim .inl id⟩
   ·rw [Qq6]
def uJ (l:List (Rat×Rat)):List (Rat×Rat):=l.foldl (λo x=>pP x o) []
theorem I1 (l:pz (Rat×Rat)):(uJ l).length<=l.length:=by
 have:∀(l o:pz (Rat×Rat)),(l.foldl (λo x=>pP x o) o).length<=o.length+l.length:=by
  intro l
  induction l with
  | nil=>exact λo=>Qq2 _
  | cons y r ih=>intro o;have a:=ih (pP y o);have b:=H0 y o;rw [Qd7,Qw9];omega
 grind [uJ]
theorem Yq {al:pz (Rat×Rat)}(h:bI 6 cM V p n al){i:Nat}(hi:i<al.length) :
  p.isSome=true/\∃(b1:md)(p1:OA)(n1 c1:Nat)(p2:OA)(n2 c2:Nat)(b2:md)(p3:OA)(n3 c3:Nat)(p4:OA)(n4 c4:Nat)(a:Addr),ae p (i*6)=some a/\V.at (a.add 0) (qvQ b1)/\V.at (a.add 1) (hF p1 n1 c1)/\V.at (a.add 2) (hF p2 n2 c2)/\V.at (a.add 3) (qvQ b2)/\V.at (a.add 4) (hF p3 n3 c3)/\V.at (a.add 5) (hF p4 n4 c4) /\
   cM V (dB #[qvQ b1,hF p1 n1 c1,hF p2 n2 c2,qvQ b2,hF p3 n3 c3,hF p4 n4 c4]) al[i]:=sG cM.shape h hi
theorem U8 {xs:pz un}{q:Rat×Rat}(h:cM V (.agg xs.toArray) q):∀v∈xs,v.oneCell'=true:=by
 have ⟨_,_,_,_,_,_,_,_,_,_,_,_,_,_,ex⟩:=cM.shape h;have ex:=congrArg Array.toList (Value.agg.inj ex);dsimp only at ex;subst ex;intro v a;simp only [Qq6,Qy0,or_false] at a;rcases a with rfl|rfl|rfl|rfl|rfl|rfl<;>rfl
theorem Si {vs:pz un}{qs:pz (Rat×Rat)}(h:Row 6 cM V vs qs){i:Nat}(hi:i<qs.length):∃b p1 n1 c1 p2 n2 c2 d p3 n3 c3 p4 n4 c4,i*6+6<=vs.length/\(vs.drop (i*6)).take 6=[qvQ b,hF p1 n1 c1,hF p2 n2 c2,qvQ d,hF p3 n3 c3,hF p4 n4 c4]/\cM V (dB #[qvQ b,hF p1 n1 c1,hF p2 n2 c2,qvQ d,hF p3 n3 c3,hF p4 n4 c4]) qs[i]:=by
 obtain ⟨xs,-,f,a⟩:=h.at_ i hi;have c:=f;have ⟨b,p1,n1,c1,p2,n2,c2,d,p3,n3,c3,p4,n4,c4,e⟩:=cM.shape f;have e:=congrArg Array.toList (Value.agg.inj e);dsimp only at e;subst e;have l:=a 0 _ rfl;have m:=a 1 _ rfl;have n:=a 2 _ rfl;have o:=a 3 _ rfl;have p:=a 4 _ rfl;have g:=a 5 _ rfl;have q:=(Qx0.1 g).1;refine ⟨_,p1,n1,c1,p2,n2,c2,_,p3,n3,c3,p4,n4,c4,by omega,?_,c⟩;apply Qg2;intro j;rw [Qy3];by_cases k:j<6
 ·rw [if_pos k,Qn7];have:j=0\/j=1\/j=2\/j=3\/j=4\/j=5:=by omega
  rcases this with rfl|rfl|rfl|rfl|rfl|rfl
  ·exact l
  ·exact m
  ·exact n
  ·exact o
  ·exact p
  ·exact g
 ·rw [if_neg k,Qz6 (by simp;omega)]
theorem oL {v:un}{a b:Rat×Rat}(h:cM V v a)(h':cM V w b)(hs:Sz k a.1/\Sz k a.2)(hs':Sz k b.1/\Sz k b.2)(hk:2*k<274877906944) :
  aa prog 201 #[v,w] V λr V'=>r=qvK .i64 (vI a b):=by
 obtain ⟨p,n,c,B,C,D,q,m,e,E,F,G,rfl,z,A⟩:=h;obtain ⟨u,i,j,H,I,J,t,o,f,K,L,M,rfl,l,s⟩:=h';refine wB V _ λN d=>(fw (z.le d) (l.le d) hs.1 hs'.1).s ?_;rintro r V2 x rfl;refine ⟨_,rfl,λg O P=>?_,λg Q y=>(fw (A.le (d.m (x.m y))) (s.le (d.m (x.m y))) hs.2 hs'.2).s ?_⟩
 ·have g:¬dI a.1 b.1=0:=by simpa using g
  unfold vI;rw [if_neg g]
 ·have g:dI a.1 b.1=0:=by simpa using g
  rintro r R S rfl;exact ⟨_,rfl,λT U=>by unfold vI;rw [if_pos g]⟩
theorem zM {ls:pz (Rat×Rat)}(h:bI 6 cM V p n ls)(hl:ls.length<=2000000)(hs:∀q∈ls,Sz k q.1/\Sz k q.2)(hk:2*k<274877906944:=by omega) :
  aa prog 134 #[hF p n c] V λr V'=>∃q m e,r=hF q m e/\bI 6 cM V' q m (uJ ls):=by
 obtain rfl:=h.len
 refine yo V _ ⟨λz V'=>∃(i:Nat)(O:pz (Rat×Rat)),z.2.2.2=(i:Int)/\i<=ls.length/\O.length<=i/\(∀q∈O,Sz k q.1/\Sz k q.2)/\uJ ls=(ls.drop i).foldl (λo x=>pP x o) O/\GR 6 cM V' z.1 z.2.1 z.2.2.1 O,λz=>ls.length-z.2.2.2.toNat,
  ⟨(0,0,[],0),by and_intros<;>rfl,0,[],rfl,Qq4 _,Qq4 _,(λq B=>by cases B),by rw [Wx7];rfl,GR.nil⟩,?_⟩
 rintro ⟨A,w2,us,z4⟩ V1 l1 ⟨i,O,e4,Ta,b0,F,f,l⟩;dsimp only at e4 l;subst e4;have g1:=l.len;have G:=l.le;refine ⟨rfl,λa=>?_,λa fQ H bk I=>?_⟩;rotate_left
 ·have a:¬(i:Int)<ls.length:=of_decide_eq_false a;obtain rfl:i=ls.length:=by omega
  rw [Qt7] at f;have f:uJ ls=O:=f;rw [f];subst g1;exact ⟨_,_,w2,rfl,bI.bJ I (l.row.le λ_ _ g=>cM.le g H) (by decide) G⟩
 have a:(i:Int)<ls.length:=of_decide_eq_true a;have C:i<ls.length:=by omega
 have w:i64.wrap ((i:Int)+1)=((i+1:Nat):Int):=by rw [au (by omega)];rfl
 dsimp only;rw [Qq0,w];have ⟨is,e1,ep,en,ec,eq,em,ee,e2,fp,fn,K,fq,fm,L,ad,ha,a0,a1,a2,a3,a4,a5,t⟩:=Yq (h.le l1 λ_ _ g=>cM.le g l1) C;have ed:ls.drop i=ls[i]::ls.drop (i+1):=Qw4 C;rw [ed,Qd7] at f;have M:=hs _ (Qq9 C);generalize ls[i]=x at *;refine ⟨is,⟨by omega,by omega⟩,e1,ep,en,ec,eq,em,ee,e2,fp,fn,K,fq,fm,L,ad,ha,a0,a1,a2,a3,a4,a5,λz _=>∃j:Nat,z=(j:Int)/\j<=O.length/\∀(s:Nat)(h:s<O.length),s<j->vI O[s] x<0,λz=>O.length-z.toNat,⟨0,by and_intros<;>rfl,0,rfl,Qq4 _,λs _ h=>absurd h (Qm0 s)⟩,?_⟩;rintro z V2 N ⟨j,rfl,wX,jl⟩;have wj:i64.wrap ((j:Int)+1)=((j+1:Nat):Int):=by rw [au (by omega)];rfl
 rw [Qq0,wj];refine ⟨rfl,λz _=>z=true↔∃h:j<O.length,vI O[j] x<0,⟨λa=>?_,λa=>⟨false,by and_intros<;>rfl,?_⟩⟩,?_⟩
 ·have a:(j:Int)<(A:Int):=of_decide_eq_true a;have d:j<O.length:=by omega
  obtain ⟨P,Q,R,rc,S,T,U,u,sp,W,X,Y,v,Z,fW,Kp,hr⟩:=Si l.row d;refine ⟨⟨by omega,by omega⟩,G,P,Q,R,rc,S,T,U,u,sp,W,X,Y,v,Z,⟨fW,Kp⟩,λV3 l3=>(oL (cM.le hr (N.m l3)) (cM.le t (N.m l3)) (F _ (Qq9 d)) M hk).s ?_⟩;rintro r V4 l4 rfl;exact ⟨_,rfl,_,by and_intros<;>rfl,by dsimp only;rw [decide_eq_true_eq];exact ⟨λh=>⟨d,h⟩,λ⟨_,h⟩=>h⟩⟩
 ·have a:¬(j:Int)<(A:Int):=of_decide_eq_false a;exact ⟨(λh=>nomatch h),λ⟨h,_⟩=>absurd h (by omega)⟩
 rintro z V5 l5 Qw;refine ⟨rfl,λy=>?_,λy=>?_⟩
 ·have ⟨d,a6⟩:=Qw.1 y;refine ⟨((j+1:Nat):Int),by (try dsimp only);omega,by and_intros<;>rfl,j+1,rfl,d,λs h b1=>?_⟩;by_cases e:s=j
  ·subst e;exact a6
  ·exact jl s h (by omega)
 have a7:∀h:j<O.length,¬vI O[j] x<0:=λh D=>by
  have:=Qw.2 ⟨h,D⟩;rw [y] at this;cases this
 have b:=Uj O j wX jl a7;have lU:=N.m l5;refine ⟨λz _=>z=true↔¬∃h:j<O.length,O[j]=x,⟨λhe=>⟨true,by and_intros<;>rfl,?_⟩,λhe=>?_⟩,?_⟩
 ·have he:(j:Int)=(A:Int):=by simpa using he
  exact ⟨λ_ ⟨h,_⟩=>absurd h (by omega),λ_=>rfl⟩
 ·have he:¬(j:Int)=(A:Int):=by simpa using he
  have d:j<O.length:=by omega
  obtain ⟨P,Q,R,rc,S,T,U,u,sp,W,X,Y,v,Z,fW,Kp,hr⟩:=Si l.row d;refine ⟨⟨by omega,by omega⟩,G,P,Q,R,rc,S,T,U,u,sp,W,X,Y,v,Z,⟨fW,Kp⟩,λV6 l6=>(oL (cM.le hr (lU.m l6)) (cM.le t (lU.m l6)) (F _ (Qq9 d)) M hk).s ?_⟩;rintro r V7 l7 rfl;exact ⟨_,rfl,_,by and_intros<;>rfl,by dsimp only;rw [bne_iff_ne,ne_eq,←TN];exact ⟨λh ⟨_,D⟩=>h D,λh D=>h ⟨d,D⟩⟩⟩
 rintro z V8 l8 Ak;have uh:=lU.m l8;refine ⟨rfl,λy V9 l9 bk I J=>?_,λy=>?_⟩
 ·have a8:=Ak.1 y;rw [if_neg a8] at b;have yL:=uh.m l9;have ⟨xs,ys,x1,x2,x3,y1,y2,y3,r1,r2,r3,r4,r5⟩:=yK (V:=V9) (l.s λ_ _ g=>cM.le g yL) (by decide) (λ_ _=>U8) I (es:=[_,_,_,_,_,_]) rfl (cM.le t yL) (j:=j);refine ⟨⟨by omega,by omega⟩,⟨by omega,by omega⟩,⟨by omega,by omega⟩,xs,x1,x2,by omega,Qq2 _,Qq2 6,x2,x3,λb2 J2 sp c' h1 h2=>?_⟩;rw [r1,r2];refine ⟨ys,y1,y2,Qq2 _,y3,by omega,by omega,r3,r4,λa9 E h3 h4=>⟨(j+(1+(A-j)),E,_,((i+1:Nat):Int)),by dsimp only;omega,by and_intros<;>first|rfl|omega,i+1,pP x O,rfl,C,?_,?_,f,?_⟩⟩
  ·rw [b,Qq3,Qq7,Qw9,Qn2];omega
  ·intro q B;rcases H2.1 B with rfl|B
   ·exact M
   ·exact F q B
  ·show GR 6 cM _ _ _ _ (pP x O);rw [b];exact r5 a9 E h3 h4
 ·have hex:∃h:j<O.length,O[j]=x:=Qp6 λh=>by have:=Ak.2 h;rw [y] at this;cases this
  rw [if_pos hex] at b;rw [b] at f;exact ⟨(A,w2,us,((i+1:Nat):Int)),by dsimp only;omega,by and_intros<;>rfl,i+1,O,rfl,C,by omega,F,f,l.s λ_ _ g=>cM.le g uh⟩
theorem ER {A B:ut}{bk:pz Nat}(h:(A.ar bk).Le B):A.Le B:=λb o g=>h b o g
theorem jX {B C:ut}(h:B.shut.Le C):B.Le C:=λb o g=>h b o g
theorem ld {α:Type}{sz:Nat}{R:ut->un->α->Prop}{vs xs:pz un}{ls ms:pz α}(h:Row sz R V vs ls)(h':Row sz R V xs ms)(hl:vs.length=ls.length*sz)(hs:0<sz):Row sz R V (vs++xs) (ls++ms):=by
 have:=hZ (sp:=[]) h h' hs
 rwa [←hl,Qy5,Qx3] at this
def OS (p q:Rat×Rat):Prop:=¬(p.1=q.1/\p.2=q.2)
theorem pg3 {a b c:Rat×Rat}(h:SY 10 [a,b,c])(h1:OS a b)(h2:OS b c)(h3:OS c a):Pg [a,b,c]:=⟨by show 3<=6;omega,h,λi d=>by
 match i,d with
 | 0,_=>exact h1
 | 1,_=>exact h2
 | 2,_=>rw [show (2+1)% [a,b,c].length=0 by simp];exact h3
 | i+3,d=>simp only [Qw9,Qj6] at d;omega⟩
theorem pg4 {a b c d:Rat×Rat}(h:SY 10 [a,b,c,d])(h1:OS a b)(h2:OS b c)(h3:OS c d)(h4:OS d a):Pg [a,b,c,d]:=⟨by show 4<=6;omega,h,λi e=>by
 match i,e with
 | 0,_=>exact h1
 | 1,_=>exact h2
 | 2,_=>exact h3
 | 3,_=>rw [show (3+1)% [a,b,c,d].length=0 by simp];exact h4
 | i+4,e=>simp only [Qw9,Qj6] at e;omega⟩
theorem jw {p:Rat×Rat}{l:pz (Rat×Rat)}(h:Sz k p.1/\Sz k p.2)(g:SY k l):SY k (p::l):=λx a=>(Qq6.1 a).elim (λe=>e▸h) (g x)
theorem Gh:SY k []:=λ_ h=>by cases h
theorem KL {x x' y y':Int}(h:x≠x':=by omega):OS ((x:Rat),(y:Rat)) ((x':Rat),(y':Rat)):=λ⟨e,_⟩=>h (Qh9.1 e)
theorem Og {x x' y y':Int}(h:y≠y'):OS ((x:Rat),(y:Rat)) ((x':Rat),(y':Rat)):=λ⟨_,e⟩=>h (Qh9.1 e)
theorem PG {V:ut}{tb:Nat}{at_:Int}(hr:JR V p n)(hn:n<=400)(hw:jZ V tb p n c at_)(hx:V.X tb)(h0:0<=at_) :
  aa prog 76 #[qvW (some ⟨tb,0,none⟩)] V λr V'=>∃(q:OA)(m e:Nat)(l:pz (Rat×Rat))(at':Int),r=hF q m e/\bI 6 cM V' q m l/\Pg l/\0<=at'/\jZ V' tb p n c at':=by
 refine tA tb p n c at_ V _ hw hx λV1 l1 d9 e1 h1=>(gj (V:=V1.ar [d9]) 4 (hr.le l1) hn e1 ⟨by simp,h1⟩ h0 (by omega)).s ?_;rintro r V2 l2 ⟨x,G8,rfl,x0,x1,t1,e0⟩;have L2:V.Le V2:=l1.m (ER l2);have wr:∀z:Int,-100<=z->z<=100->i64.wrap z=z:=λz _ _=>au (by omega);have LZ:∀x u:Int,(x:Rat)+((1:Int):Rat)*(u:Rat)=((x+u:Int):Rat):=λx u=>by rw [←Qd8,←Qs1,Wy8]
 refine ⟨x,rfl,p,n,c,G8,e0,λz V'=>z.1=p/\z.2.1=n/\z.2.2.1=c/\0<=z.2.2.2/\V.Le V',⟨λ_ V3 l3 VM e3 h3=>(gj (V:=V3.ar [VM]) 5 (hr.le (L2.m (jX l3))) hn e3 ⟨by simp,h3⟩ t1 (by omega)).s ?_,λ_=>⟨λ_ vh fl Ng e4 e8=>(c_P (V:=vh.ar [Ng]) (hr.le (L2.m (jX fl))) hn e4 ⟨by simp,e8⟩ t1).s ?_,λ_=>⟨(p,n,c,G8),by and_intros<;>rfl,rfl,rfl,rfl,t1,λb o h=>L2 b o h⟩⟩⟩,?_⟩
 ·rintro r V4 l4 ⟨a,v,rfl,a0,a1,t2,B⟩;have L4:=L2.m ((jX l3).m (ER l4));refine ⟨a,rfl,p,n,c,v,B,λV5 l5 S0 e5 h5=>(gj (V:=V5.ar [S0]) 5 (hr.le (L4.m (jX l5))) hn e5 ⟨by simp,h5⟩ t2 (by omega)).s ?_⟩;rintro r V6 l6 ⟨b,f,rfl,b0,b1,t3,C⟩;have L6:=L4.m ((jX l5).m (ER l6));refine ⟨b,rfl,p,n,c,f,C,λV7 l7 f0 e7 h7=>(gj (V:=V7.ar [f0]) 4 (hr.le (L6.m (jX l7))) hn e7 ⟨by simp,h7⟩ t3 (by omega)).s ?_⟩;rintro r V8 l8 ⟨u,D,rfl,u0,u1,t4,O⟩;have L8:=L6.m ((jX l7).m (ER l8));refine ⟨u,rfl,p,n,c,D,O,λV9 l9 Y6 e9 h9=>(gj (V:=V9.ar [Y6]) 4 (hr.le (L8.m (jX l9))) hn e9 ⟨by simp,h9⟩ t4 (by omega)).s ?_⟩;rintro r fQ m6 ⟨w,b3,rfl,w0,w1,t5,f5⟩;refine ⟨w,rfl,p,n,c,b3,f5,?_⟩;have ea:i64.wrap (a-4)=a-4:=wr _ (by omega) (by omega);have eb:i64.wrap (b-4)=b-4:=wr _ (by omega) (by omega);have ec:i64.wrap (i64.wrap (i64.wrap (a-4)+1)+u)=a-4+1+u:=by rw [ea,wr (a-4+1) (by omega) (by omega),wr _ (by omega) (by omega)]
  have ed:i64.wrap (i64.wrap (i64.wrap (b-4)+1)+w)=b-4+1+w:=by rw [eb,wr (b-4+1) (by omega) (by omega),wr _ (by omega) (by omega)]
  rw [ec,ed,ea,eb];intro fD bq;refine (dH (a-4) (b-4) (by omega) (by omega) (by omega)).s ?_;rintro r gS bS H;have H:cM gS r (((a-4:Int):Rat),((b-4:Int):Rat)):=H;have P:=H;obtain ⟨_,_,_,_,_,_,_,_,_,_,_,_,_,_,rfl⟩:=H.shape;refine qyK ⟨rfl,λj7 bU=>(dH (a-4+1+u) (b-4) (by omega) (by omega) (by omega)).s ?_⟩;rintro r lB cz I;have I:cM lB r (((a-4+1+u:Int):Rat),((b-4:Int):Rat)):=I;have Q:=I;obtain ⟨_,_,_,_,_,_,_,_,_,_,_,_,_,_,rfl⟩:=I.shape;refine qyK ⟨rfl,λjI cE=>(dH (a-4+1+u) (b-4+1+w) (by omega) (by omega) (by omega)).s ?_⟩;rintro r lH cq J;have J:cM lH r (((a-4+1+u:Int):Rat),((b-4+1+w:Int):Rat)):=J;have tY:=J;obtain ⟨_,_,_,_,_,_,_,_,_,_,_,_,_,_,rfl⟩:=J.shape;refine qyK ⟨rfl,λlC b_=>(dH (a-4) (b-4+1+w) (by omega) (by omega) (by omega)).s ?_⟩;rintro r mE cj g4;have g4:cM mE r (((a-4:Int):Rat),((b-4+1+w:Int):Rat)):=g4;have Qh:=g4;obtain ⟨_,_,_,_,_,_,_,_,_,_,_,_,_,_,rfl⟩:=g4.shape;refine qyK ⟨rfl,λpf du bk t E=>⟨_,_,_,_,b3,rfl,bI.hU E (ld (sz:=6) (row_one rfl (cM.le P (bU.m (cz.m (cE.m (cq.m (b_.m (cj.m du)))))))) (ld (sz:=6) (row_one rfl (cM.le Q (cE.m (cq.m (b_.m (cj.m du)))))) (ld (sz:=6) (row_one rfl (cM.le tY (b_.m (cj.m du)))) (row_one rfl (cM.le Qh du)) rfl (by decide)) rfl (by decide)) rfl (by decide)),?_,t5,t⟩⟩;have s:∀z:Int,-40<=z->z<=40->Sz 10 (z:Rat):=λz h h'=>EN ⟨h,h'⟩;exact pg4 (jw ⟨s _ (by omega) (by omega),s _ (by omega) (by omega)⟩ (jw ⟨s _ (by omega) (by omega),s _ (by omega) (by omega)⟩ (jw ⟨s _ (by omega) (by omega),s _ (by omega) (by omega)⟩ (jw ⟨s _ (by omega) (by omega),s _ (by omega) (by omega)⟩ Gh)))) (KL) (Og (by omega)) (KL) (Og (by omega))
 ·rintro r qB gi ⟨x,y,v,K,f6,f7,t2,B⟩;have K:cM qB r ((x:Rat),(y:Rat)):=K;have V_:=K;obtain ⟨_,_,_,_,_,_,_,_,_,_,_,_,_,_,rfl⟩:=K.shape;have R:=L2.m ((jX fl).m (ER gi));refine qyK ⟨rfl,p,n,c,v,B,λtC gV ZK f8 f9=>(c_V (V:=tC.ar [ZK]) (hr.le (R.m (jX gV))) hn f8 ⟨by simp,f9⟩ t2).s ?_⟩;rintro r rk ij ⟨x1,y1,f,gu,m7,m8,b4,t3,C⟩;have gu:cM rk r ((x1:Rat),(y1:Rat)):=gu;have b5:=gu;obtain ⟨_,_,_,_,_,_,_,_,_,_,_,_,_,_,rfl⟩:=gu.shape;have g0:=R.m ((jX gV).m (ER ij));refine qyK ⟨rfl,p,n,c,f,C,λzk kt Tq g5 g6=>(c_V (V:=zk.ar [Tq]) (hr.le (g0.m (jX kt))) hn g5 ⟨by simp,g6⟩ t3).s ?_⟩;rintro r Cs lU ⟨x2,S,D,gv,m9,n0,b6,t4,O⟩;have gv:cM Cs r ((x2:Rat),(S:Rat)):=gv;have b7:=gv;obtain ⟨_,_,_,_,_,_,_,_,_,_,_,_,_,_,rfl⟩:=gv.shape;have s:∀z:Int,-40<=z/\z<=40->Sz 10 (z:Rat):=λz h=>EN h;have QG:=(jX kt).m (ER lU);have Wq:=((jX gV).m (ER ij)).m QG;have g7:=R.m Wq;refine qyK ⟨rfl,p,n,c,D,O,λJS oV=>(jm (k:=10) (cM.le b5 (QG.m (jX oV))) (cM.le b7 (jX oV)) (s _ (by omega)) (s _ (by omega)) (s _ (by omega)) (s _ (by omega))).s ?_⟩;rintro r Pa oW ⟨p',n',d',n5,n6,n7,rfl,k1,k2⟩;refine qyZ ⟨rfl,λM6 uh=>(qC _ (k1.le uh)).s ?_⟩;rintro r Ti yL rfl;have Mm:=(jX oV).m (oW.m (uh.m yL));refine ⟨_,rfl,λF OT vR=>(dS 1 (by omega)).s ?_,λF=>⟨(p,n,c,D),by and_intros<;>rfl,rfl,rfl,rfl,t4,g7.m Mm⟩⟩
  have F:((x1:Rat)*(S:Rat)-(y1:Rat)*(x2:Rat))≠0:=λe=>by
   rw [e] at F;exact absurd F (by decide)
  rintro r W5 yM q1;have RZ:=q1;obtain ⟨_,_,_,_,_,_,rfl⟩:=q1.shape;have QF:=Wq.m (Mm.m (vR.m yM));have T:=QG.m (Mm.m (vR.m yM));have U:=Mm.m (vR.m yM);refine qyZ ⟨rfl,λY0 Cn=>(fJ (cM.le V_ (QF.m Cn)) (RZ.le Cn) (cM.le b5 (T.m Cn)) (k:=10) (m:=10) (s _ (by omega)) (s _ (by omega)) (s _ (by omega)) (s _ (by omega)) (s _ (by omega))).s ?_⟩;rintro r SZ xO ga;rw [LZ,LZ] at ga;have ga:cM SZ r (((x+x1:Int):Rat),((y+y1:Int):Rat)):=ga;have g8:=ga;obtain ⟨_,_,_,_,_,_,_,_,_,_,_,_,_,_,rfl⟩:=ga.shape;refine qyK ⟨rfl,λZw FH=>(dS 1 (by omega)).s ?_⟩;rintro r Zx yN q2;have g9:=q2;obtain ⟨_,_,_,_,_,_,rfl⟩:=q2.shape;have Ia:=Cn.m (xO.m (FH.m yN));refine qyZ ⟨rfl,λn8 Mn=>(fJ (cM.le V_ (QF.m (Ia.m Mn))) (g9.le Mn) (cM.le b7 (U.m (Ia.m Mn))) (k:=10) (m:=10) (s _ (by omega)) (s _ (by omega)) (s _ (by omega)) (s _ (by omega)) (s _ (by omega))).s ?_⟩;rintro r h4 O0 gb;rw [LZ,LZ] at gb;have gb:cM h4 r (((x+x2:Int):Rat),((y+S:Int):Rat)):=gb;have h6:=gb;obtain ⟨_,_,_,_,_,_,_,_,_,_,_,_,_,_,rfl⟩:=gb.shape;refine qyK ⟨rfl,λn9 N8 bk t E=>⟨_,_,_,_,D,rfl,bI.hU E (ld (sz:=6) (row_one rfl (cM.le V_ (QF.m (Ia.m (Mn.m (O0.m N8)))))) (ld (sz:=6) (row_one rfl (cM.le g8 (FH.m (yN.m (Mn.m (O0.m N8)))))) (row_one rfl (cM.le h6 N8)) rfl (by decide)) rfl (by decide)),?_,t4,t⟩⟩;refine pg3 (jw ⟨s _ (by omega),s _ (by omega)⟩ (jw ⟨s _ (by omega),s _ (by omega)⟩ (jw ⟨s _ (by omega),s _ (by omega)⟩ Gh))) ?_ ?_ ?_
  ·by_cases h:x1=0
   ·exact Og λe=>b4 ⟨h,by omega⟩
   ·exact KL
  ·by_cases h:x1=x2
   ·refine Og λe=>F ?_;rw [h,show y1=S by omega,Rat.mul_comm];grind
   ·exact KL
  ·by_cases h:x2=0
   ·exact Og λe=>b6 ⟨h,by omega⟩
   ·exact KL
 rintro ⟨zp,zn,zc,za⟩ o0 Tc ⟨b8,b9,c0,ha,c5⟩;dsimp only at b8 b9 c0 ha;subst b8 b9 c0;dsimp only;refine ⟨rfl,λh8 Yg ZO i2 i3=>(gj (V:=h8.ar [ZO]) 4 (hr.le (c5.m Yg)) hn i2 ⟨by simp,i3⟩ ha (by omega)).s ?_⟩;rintro r o1 Yh ⟨k,v,rfl,k0,k1,t2,B⟩;have i4:=c5.m (Yg.m (ER Yh))
 refine ⟨k,rfl,zp,zn,zc,v,B,λz V'=>∃o:pz (Rat×Rat),GR 6 cM V' z.1 z.2.1 z.2.2.1 o/\z.2.2.2.2.1=zp/\z.2.2.2.2.2.1=zn/\z.2.2.2.2.2.2.1=zc/\0<=z.2.2.2.2.2.2.2/\0<=z.2.2.2.1/\(o.length:Int)+z.2.2.2.1<=6/\SY 10 o/\(∀i,i+1<o.length->OS (o.getD i (0,0)) (o.getD (i+1) (0,0)))/\V.Le V',λz=>z.2.2.2.1.toNat,
  ⟨(0,0,[],i64.wrap (3+k),zp,zn,zc,v),by and_intros<;>rfl,[],GR.nil,rfl,rfl,rfl,t2,by rw [au (by omega)];dsimp only;omega,by rw [au (by omega)];simp;omega,Gh,λi h=>by simp at h,i4⟩,?_⟩
 rintro ⟨G,z2,vs,i,W,Y,Z,c6⟩ i5 o2 ⟨o,A,e5,e6,e7,L,i6,i7,hs,hd,a4⟩;dsimp only at A e5 e6 e7 L i6 i7;subst e5 e6 e7;have zl:=A.len;dsimp only;refine ⟨rfl,λa5 i8 Yi c7 i9 j0=>(c_P (V:=i8.ar [c7]) (hr.le (a4.m Yi)) hn i9 ⟨by simp,j0⟩ L).s ?_,λa5=>?_⟩
 ·have a5:i>0:=of_decide_eq_true a5;have w1:i64.wrap (i-1)=i-1:=au (by omega);rw [w1];rintro r c8 j1 ⟨x,y,f,K,f6,f7,t3,C⟩;have K:cM c8 r ((x:Rat),(y:Rat)):=K;have V_:=K;obtain ⟨_,_,_,_,_,_,_,_,_,_,_,_,_,_,rfl⟩:=K.shape;have Wr:=Yi.m (ER j1);have sx:Sz 10 (x:Rat):=EN;have sy:Sz 10 (y:Rat):=EN;refine qyK ⟨rfl,W,Y,Z,f,C,λz V'=>c8.Le V'/\(z=true->∀h:0<o.length,OS (o.getD (o.length-1) (0,0)) ((x:Rat),(y:Rat))),⟨λh=>⟨true,by and_intros<;>rfl,λb o h=>h,λ_ g=>?_⟩,λh=>?_⟩,?_⟩
  ·have:(G:Int)=0:=by simpa using h
   omega
  ·have h:¬(G:Int)=0:=by simpa using h
   have w2:i64.wrap ((G:Int)-1)=((G-1:Nat):Int):=by rw [au (by omega)];omega
   rw [w2,Qq0];have a6:G-1<o.length:=by omega
   have ⟨b1,p1,n1,c1,p2,n2,c2,b2,p3,n3,c3,p4,n4,c4,c9,a7,g⟩:=K5 cM.shape A.row a6;have so:=hs _ (Qq9 a6);refine ⟨⟨by omega,by omega⟩,A.le,b1,p1,n1,c1,p2,n2,c2,b2,p3,n3,c3,p4,n4,c4,⟨c9,a7⟩,λo3 QH=>(nU (cM.le g (Wr.m (jX QH))) (cM.le V_ (jX QH)) so.1 so.2 sx sy).s ?_⟩;rintro r o4 j2 rfl;refine ⟨_,rfl,_,by and_intros<;>rfl,(jX QH).m j2,λF _=>?_⟩;have F:decide (o[G-1].1=(x:Rat)/\o[G-1].2=(y:Rat))=false:=by rwa [Qx9] at F
   rw [←zl,gI a6];exact of_decide_eq_false F
  rintro z o5 Ze ⟨d0,F⟩;have Mo:=Wr.m d0;refine ⟨rfl,λE=>⟨by omega,A.le,A.cap,rfl,Rv,λsp c' h1 h2=>⟨(G+1,c',_,i-1,W,Y,Z,f),by dsimp only;omega,by and_intros<;>rfl,o++[((x:Rat),(y:Rat))],(A.s λ_ _ g=>cM.le g Mo).snoc rfl (cM.le V_ d0) (by decide) h1 h2,rfl,rfl,rfl,t3,by dsimp only;omega,by simp;omega,λq M=>?_,λj hj=>?_,a4.m Mo⟩⟩,λ_=>⟨(G,z2,vs,i-1,W,Y,Z,f),by dsimp only;omega,by and_intros<;>rfl,o,A.s λ_ _ g=>cM.le g Mo,rfl,rfl,rfl,t3,by dsimp only;omega,by dsimp only;omega,hs,hd,a4.m Mo⟩⟩
  ·rcases Qw3.1 M with M|M
   ·exact hs q M
   ·rw [Qq5.1 M];exact ⟨sx,sy⟩
  ·rw [Qq3,Qc2] at hj;have gl:∀{k:Nat},k<o.length->(o++[((x:Rat),(y:Rat))]).getD k (0,0)=o.getD k (0,0):=λ{k} h=>by rw [Qx8,Qx1 h,←Qx8]
   by_cases e:j+1<o.length
   ·rw [gl e,gl (by omega)];exact hd j e
   ·have e:j=o.length-1:=by omega
    subst e
    have e2:(o++[((x:Rat),(y:Rat))]).getD (o.length-1+1) (0,0)=((x:Rat),(y:Rat)):=by
     rw [Qx8,Qy8 (by omega),show o.length-1+1-o.length=0 by omega];rfl
    rw [e2,gl (by omega)];exact F E (by omega)
 ·have ot:∀{m:Nat},m<=o.length->∀{k:Nat},k<m->(o.take m).getD k (0,0)=o.getD k (0,0):=λ{m} hm {k} hk=>by
   rw [Qx8,List.getElem?_take_of_lt hk,←Qx8]
  refine ⟨λz V'=>∃m:Nat,z.1=m/\m<=o.length/\z.2.1=z2/\z.2.2=vs/\i5.Le V',λz=>z.1,⟨(G,z2,vs),by and_intros<;>rfl,G,rfl,by omega,rfl,rfl,View.Le.refl _⟩,?_⟩;rintro ⟨d,S,ys⟩ Zy o6 ⟨m,em,hm,ey,es,N⟩;dsimp only at em ey es;subst em ey es;have m0:=A.le;dsimp only;refine ⟨rfl,λz V'=>Zy.Le V'/\(z=true->1<d)/\(z=false->1<d->OS (o.getD 0 (0,0)) (o.getD (d-1) (0,0))),⟨λh=>?_,λh=>⟨false,by and_intros<;>rfl,View.Le.refl _,(λh=>nomatch h),λ_ g=>absurd (of_decide_eq_false h) (by omega)⟩⟩,?_⟩
  ·have h:(d:Int)>1:=of_decide_eq_true h;have w2:i64.wrap ((d:Int)-1)=((d-1:Nat):Int):=by rw [au (by omega)];omega
   rw [w2,Qq0];have i0:0<o.length:=by omega
   have i1:d-1<o.length:=by omega
   have ⟨b1,p1,n1,c1,p2,n2,c2,b2,p3,n3,c3,p4,n4,c4,c9,a7,g⟩:=K5 cM.shape A.row i0;have ⟨d1,q1,m1,f1,q2,m2,f2,d2,q3,m3,f3,q4,m4,f4,j3,j4,g'⟩:=K5 cM.shape A.row i1;have s0:=hs _ (Qq9 i0);have s1:=hs _ (Qq9 i1);refine ⟨⟨by omega,by omega⟩,by omega,b1,p1,n1,c1,p2,n2,c2,b2,p3,n3,c3,p4,n4,c4,⟨by omega,a7⟩,⟨by omega,by omega⟩,by omega,d1,q1,m1,f1,q2,m2,f2,d2,q3,m3,f3,q4,m4,f4,⟨j3,j4⟩,λo7 Zf=>(nU (cM.le g (N.m Zf)) (cM.le g' (N.m Zf)) s0.1 s0.2 s1.1 s1.2).s ?_⟩;rintro r o8 j5 rfl;exact ⟨_,rfl,_,by and_intros<;>rfl,Zf.m j5,λ_=>by omega,λh _=>by rw [gI i0,gI i1];exact of_decide_eq_false h⟩
  rintro z o9 p0 ⟨d3,j6,k3⟩;refine ⟨rfl,λE=>?_,λE k4 k5 m5 d4=>?_⟩
  ·have h:=j6 E;have w2:i64.wrap ((d:Int)-1)=((d-1:Nat):Int):=by rw [au (by omega)];omega
   rw [w2,Qq0];exact ⟨⟨by omega,by omega⟩,(d-1,S,ys),by dsimp only;omega,by and_intros<;>rfl,d-1,rfl,by omega,rfl,rfl,N.m d3⟩
  ·have k6:=N.m (d3.m k5);have tl:(o.take d).length=d:=by rw [Qq7];omega
   have hl:=bI.bJ (V:=k4) (al:=o.take d) (c:=S) d4 ⟨λi hi=>by
    rw [tl] at hi;obtain ⟨xs,a1,a2,a3⟩:=(A.row.le λ_ _ g=>cM.le g k6).at_ i (by omega);exact ⟨xs,a1,by rw [Wy2];exact a2,a3⟩⟩ (by decide)
   rw [tl] at hl;refine (zM hl (by omega) (k:=10) (λq M=>hs q (Wq2 _ _ M))).s ?_;rintro r p5 d5 ⟨q,m,e,rfl,gs⟩;refine ⟨q,m,e,rfl,λ_=>⟨λa8 p6 p7=>(dH 0 0 (by omega) (by omega) (by omega)).s ?_,λa8 p8 d6 t=>⟨_,_,_,o.take d,c6,rfl,hl.le (d5.m d6) λ_ _ g=>cM.le g (d5.m d6),⟨by omega,λq M=>hs q (Wq2 _ _ M),λj hj=>?_⟩,L,t⟩⟩⟩
   ·rintro r k7 p9 H;have H:cM k7 r (((0:Int):Rat),((0:Int):Rat)):=H;have P:=H;obtain ⟨_,_,_,_,_,_,_,_,_,_,_,_,_,_,rfl⟩:=H.shape;refine qyK ⟨rfl,λq0 N9=>(dH 2 0 (by omega) (by omega) (by omega)).s ?_⟩;rintro r k8 k9 I;have I:cM k8 r (((2:Int):Rat),((0:Int):Rat)):=I;have Q:=I;obtain ⟨_,_,_,_,_,_,_,_,_,_,_,_,_,_,rfl⟩:=I.shape;refine qyK ⟨rfl,λq5 d7=>(dH 0 2 (by omega) (by omega) (by omega)).s ?_⟩;rintro r l0 d8 J;have J:cM l0 r (((0:Int):Rat),((2:Int):Rat)):=J;have tY:=J;obtain ⟨_,_,_,_,_,_,_,_,_,_,_,_,_,_,rfl⟩:=J.shape;refine qyK ⟨rfl,λq6 a9 bk t E=>⟨_,_,_,_,c6,rfl,bI.hU E (ld (sz:=6) (row_one rfl (cM.le P (N9.m (k9.m (d7.m (d8.m a9)))))) (ld (sz:=6) (row_one rfl (cM.le Q (d7.m (d8.m a9)))) (row_one rfl (cM.le tY a9)) rfl (by decide)) rfl (by decide)),?_,L,t⟩⟩;have s:∀z:Int,-40<=z/\z<=40->Sz 10 (z:Rat):=λz h=>EN h;exact pg3 (jw ⟨s _ (by omega),s _ (by omega)⟩ (jw ⟨s _ (by omega),s _ (by omega)⟩ (jw ⟨s _ (by omega),s _ (by omega)⟩ Gh))) (KL) (KL) (Og (by omega))
   ·have a8:¬(m:Int)<3:=of_decide_eq_false a8;have sl:=gs.len;have:=I1 (o.take d);rw [tl] at hj ⊢;by_cases e:j+1<d
    ·rw [Qy1 e,ot hm hj,ot hm e];exact hd j (by omega)
    ·have e:j=d-1:=by omega
     subst e;rw [show d-1+1=d by omega,Nat.mod_self,ot hm hj,ot hm (show 0<d by omega)];have:=k3 E (by omega);exact λh=>this ⟨h.1.symm,h.2.symm⟩
theorem Nn {V:ut}{tb:Nat}{at_:Int}(hr:JR V p n)(hn:n<=400)(hw:jZ V tb p n c at_)(hx:V.X tb)(h0:0<=at_) :
  aa prog 28 #[qvW (some ⟨tb,0,none⟩)] V λr V'=>∃(q:OA)(S:pz L3)(t:Tr)(at':Int),r=qvW q/\RW V' q t/\S.length<=12/\SX S 12 t/\0<=at'/\jZ V' tb p n c at':=by
 have sl:∀{L:pz (pz (Rat×Rat))},(∀l∈L,Pg l)->L.length<=2->(Ob L).length<=12:=λh h2=>by
  have:=D_ h;unfold Ob;rw [Qk3];omega
 refine oY tb p n c at_ V _ hw hx λV1 l1 D e1 h1=>(PG (V:=V1.ar [D]) (hr.le l1) hn e1 ⟨by simp,h1⟩ h0).s ?_;rintro r V2 l2 ⟨z,C,d1,A,G8,rfl,gA,pA,t1,E⟩;have L2:V.Le V2:=l1.m (ER l2);refine ⟨z,C,d1,rfl,p,n,c,G8,E,λV3 l3 VM e3 h3=>(gj (V:=V3.ar [VM]) 3 (hr.le (L2.m (jX l3))) hn e3 ⟨by simp,h3⟩ t1 (by omega)).s ?_⟩;rintro r V4 l4 ⟨x,F,rfl,x0,x1,t2,G⟩;have e:=(jX l3).m (ER l4);have H:=L2.m e;refine ⟨x,rfl,p,n,c,F,G,λ_ V5 l5 S0 e5 h5=>(PG (V:=V5.ar [S0]) (hr.le (H.m (jX l5))) hn e5 ⟨by simp,h5⟩ t2).s ?_,λ_ lH I Nf j=>?_⟩
 ·rintro r V6 l6 ⟨J,K,d2,B,M,rfl,gB,pB,t3,N⟩;have f:=(jX l5).m (ER l6);have L6:=H.m f
  have b:∀l∈[A,B],Pg l:=λl m=>by
   rcases Qq6.1 m with rfl|m
   ·exact pA
   ·rw [Qq5.1 m];exact pB
  refine ⟨J,K,d2,rfl,p,n,c,M,N,by omega,by omega,by simp,rfl,YB,λZJ a1 s a2 u1 u2 V7 u a0 v=>?_⟩
  have O:Row 1 Ci V7 (([hF z C d1]:pz un).take (1*1)++([hF J K d2]:pz un)++s) ([A]++[B]):=
   hZ (ls:=[A]) (row_one rfl ⟨z,C,d1,rfl,gA.le (e.m (f.m (jX u))) λ_ _ k=>cM.le k (e.m (f.m (jX u)))⟩) (row_one rfl ⟨J,K,d2,rfl,gB.le (jX u) λ_ _ k=>cM.le k (jX u)⟩) (by decide)
  refine (wP (L:=[A,B]) (bI.hU v O) (by show 2<=1000;omega) b).s ?_;rintro r V8 l8 ⟨P,Q,d3,rfl,T⟩;have L8:=L6.m ((jX u).m l8);refine ⟨P,Q,d3,rfl,λ_ V9 l9 U W Y=>(gj (V:=V9.ar [U]) 2 (hr.le (L8.m l9)) hn W ⟨by simp,Y⟩ t3 (by omega)).s ?_⟩;rintro r fQ Z ⟨y,a,rfl,y0,y1,t4,g⟩;have N_:=l9.m (ER Z);refine ⟨y,rfl,p,n,c,a,g,λfD bq=>(tN _ (T.le (N_.m (jX bq)) λ_ _ k=>LP.s k (λ_ _ k=>kz.le k (N_.m (jX bq))) (N_.m (jX bq))) (by show 2<=1000;omega) b).s ?_⟩;rintro r gS bS ⟨q4,m4,d4,q5,m5,d5,rfl,gM⟩;refine ⟨q4,m4,d4,_,q5,m5,d5,rfl,λj7 bU=>(rB (gM.le bU λ_ _ k=>Ci.le k bU) (by show 2<=2;omega) b).s ?_⟩;rintro r lB cz ⟨o,t,rfl,w,R⟩;exact ⟨o,rfl,λjI cE i=>⟨o,Ob [A,B],t,a,rfl,w.le cE,sl b (by show 2<=2;omega),R,t4,i⟩⟩
 ·have d:∀l∈[A],Pg l:=λl m=>by rw [Qq5.1 m];exact pA
  refine (wP (L:=[A]) (bI.hU j (row_one rfl ⟨z,C,d1,rfl,gA.le (e.m (jX I)) λ_ _ k=>cM.le k (e.m (jX I))⟩)) (by show 1<=1000;omega) d).s ?_;rintro r lC b_ ⟨P,Q,d3,rfl,T⟩;have VB:=H.m ((jX I).m b_);refine ⟨P,Q,d3,rfl,λ_ mE cj U W Y=>(gj (V:=mE.ar [U]) 2 (hr.le (VB.m cj)) hn W ⟨by simp,Y⟩ t2 (by omega)).s ?_⟩;rintro r pf du ⟨y,a,rfl,y0,y1,t4,g⟩;have QD:=cj.m (ER du);refine ⟨y,rfl,p,n,c,a,g,λvh fl=>(tN _ (T.le (QD.m (jX fl)) λ_ _ k=>LP.s k (λ_ _ k=>kz.le k (QD.m (jX fl))) (QD.m (jX fl))) (by show 1<=1000;omega) d).s ?_⟩;rintro r qB gi ⟨q4,m4,d4,q5,m5,d5,rfl,gM⟩;refine ⟨q4,m4,d4,_,q5,m5,d5,rfl,λtC gV=>(rB (gM.le gV λ_ _ k=>Ci.le k gV) (by show 1<=2;omega) d).s ?_⟩;rintro r rk ij ⟨o,t,rfl,w,R⟩;exact ⟨o,rfl,λzk e i=>⟨o,Ob [A],t,a,rfl,w.le e,sl d (by show 1<=2;omega),R,t4,i⟩⟩
theorem eU.both {p q:L3->Prop}:∀{t:Tr},t.eU p->t.eU q->t.eU λl=>p l/\q l
 | .leaf _,_,_=>trivial
 | .node _ _ _,⟨a,b,c⟩,⟨d,e,f⟩=>⟨⟨a,d⟩,eU.both b e,eU.both c f⟩
theorem MH {t:Tr}(h:t.eU nE)(hs:t.size<=12:=by omega):SX t.n_ 12 (sP t [])/\t.n_.length<=12:=
 ⟨(sQ (λ_ h=>h.1.1) (eU.both h (JW t)) (λ_ h=>by cases h) FY).s (Qw8 (mO t) hs),by rw [qM];exact hs⟩
theorem PF:∀(k:Nat) {V:ut} {tb:Nat} {p:OA} {n c:Nat} {at_:Int},k<=1->JR V p n->n<=400->jZ V tb p n c at_->V.X tb->0<=at_ ->
  aa prog 6 #[qvW (some ⟨tb,0,none⟩),qvK .i64 (k:Int)] V λr V'=>∃(q:OA)(S:pz L3)(t:Tr)(at':Int),r=qvW q/\RW V' q t/\S.length<=12*(k+1)/\SX S (12*(k+1)) t/\0<=at'/\jZ V' tb p n c at':=by
 intro k
 have base:∀(k:Nat) {V:ut} {tb:Nat} {p:OA} {n c:Nat} {at_:Int},(k=0\/∀{V:ut} {tb:Nat} {p:OA} {n c:Nat} {at_:Int},JR V p n->n<=400->jZ V tb p n c at_->V.X tb->0<=at_ ->
   aa prog 6 #[qvW (some ⟨tb,0,none⟩),qvK .i64 ((k-1:Nat):Int)] V λr V'=>∃(q:OA)(S:pz L3)(t:Tr)(at':Int),r=qvW q/\RW V' q t/\S.length<=12*k/\SX S (12*k) t/\0<=at'/\jZ V' tb p n c at')->k<=1->JR V p n->n<=400->jZ V tb p n c at_->V.X tb->0<=at_ ->
   aa prog 6 #[qvW (some ⟨tb,0,none⟩),qvK .i64 (k:Int)] V λr V'=>∃(q:OA)(S:pz L3)(t:Tr)(at':Int),r=qvW q/\RW V' q t/\S.length<=12*(k+1)/\SX S (12*(k+1)) t/\0<=at'/\jZ V' tb p n c at':=by
  intro k V tb p n c at_ ih hk i j hw J s;refine qA tb p n c at_ k V _ hw J λV1 l1 K e1 h1=>(gj (V:=V1.ar [K]) 6 (i.le l1) j e1 ⟨by simp,h1⟩ s (by omega)).s ?_;rintro r V2 l2 ⟨x,G8,rfl,x0,x1,t1,L⟩;have L2:V.Le V2:=l1.m (ER l2);refine ⟨x,rfl,p,n,c,G8,L,λz V'=>V2.Le V'/\(z=true->0<k),⟨λ_=>⟨_,by and_intros<;>rfl,λb o h=>h,λh=>by have:=of_decide_eq_true h;omega⟩,λ_=>⟨false,by and_intros<;>rfl,λb o h=>h,(λh=>nomatch h)⟩⟩,?_⟩;rintro z V3 l3 ⟨ij,hz⟩;have u:=L2.m ij;have v:∀{W W':ut} {m:Nat},V3.Le W->jZ W m p n c G8->W.H m->aa prog 28 #[qvW (some ⟨m,0,none⟩)] (W.ar [m]) λr V'=>∃(q:OA)(S:pz L3)(t:Tr)(at':Int),r=qvW q/\RW V' q t/\S.length<=12/\SX S 12 t/\0<=at'/\jZ V' m p n c at':=λ{W W' m} l e h=>Nn (V:=W.ar [m]) (i.le (u.m l)) j e ⟨by simp,h⟩ t1;have fin:∀{W:ut} {q:OA} {S:pz L3} {t:Tr} {a:Int},RW W q t->S.length<=12->SX S 12 t->0<=a->jZ W tb p n c a->∃(q':OA)(S:pz L3)(t:Tr)(at':Int),Value.pointer q=qvW q'/\RW W q' t/\S.length<=12*(k+1)/\SX S (12*(k+1)) t/\0<=at'/\jZ W tb p n c at':=λ{W q S t a} w hS R s hT=>⟨q,S,t,a,rfl,w,by omega,R.s (by omega),s,hT⟩;refine ⟨rfl,λM=>?_,λ_=>⟨λ_ lB cz Tp N S8=>(c_L (V:=lB.ar [Tp]) (i.le (u.m cz)) j N ⟨by simp,S8⟩ t1).s ?_,λ_=>⟨λ_ rk Ye A O P=>(Xd 3 (V:=rk.ar [A]) (by omega) (i.le (u.m Ye)) j O ⟨by simp,P⟩ t1).s ?_,λ_=>⟨λ_ M6 uh ZL Q U=>(v (W':=M6) uh Q U).s ?_,λ_ SZ xO a6 Y Z=>(v (W':=SZ) xO Y Z).s ?_⟩⟩⟩⟩
  ·have a7:=hz M;have ww:i64.wrap ((k:Int)-1)=((k-1:Nat):Int):=by rw [au (by omega)];omega
   rcases ih with e0|B
   ·omega
   rw [ww];intro V4 l4 Ts e4 h4;refine (B (V:=V4.ar [Ts]) (i.le (u.m l4)) j e4 ⟨by simp,h4⟩ t1).s ?_;rintro r V5 l5 ⟨q1,S1,u1,d,rfl,w1,s1,F,t2,f⟩;have L5:=u.m (l4.m (ER l5));refine ⟨q1,rfl,p,n,c,d,f,λV6 l6 a0 e6 h6=>(gj (V:=V6.ar [a0]) 4 (i.le (L5.m (jX l6))) j e6 ⟨by simp,h6⟩ t2 (by omega)).s ?_⟩;rintro r V7 l7 ⟨y,a1,rfl,y0,y1,t3,a2⟩;have C:=(jX l6).m (ER l7);refine ⟨y,rfl,p,n,c,a1,a2,λV8 l8 VN e8 h8=>(B (V:=V8.ar [VN]) (i.le (L5.m (C.m (jX l8)))) j e8 ⟨by simp,h8⟩ t3).s ?_⟩;rintro r V9 l9 ⟨q2,S2,u2,D,rfl,w2,s2,G,t4,a3⟩;have a4:=(jX l8).m (ER l9);obtain rfl:k=1:=by omega
   refine ⟨q2,rfl,p,n,c,D,a3,λfQ E=>(gH (cp:=none) (cn:=0) (cc:=0) (c:=[]) (G.all.imp λ_ h=>h.1) u1 (w1.le (C.m (a4.m (jX E)))) (w2.le (jX E)) (F.all.imp λ_ h=>h.1) bI.nil (λ_ h=>by cases h) (by have:=F.dep;have:=G.dep;simp;omega)).s ?_⟩;rintro r fD bq ⟨o,rfl,w⟩;have R:=AJ (q:=λl=>nE l/\l∈S1++S2) (λ_ h=>h.1.1) (op:=i64.wrap (1+y)) (b:=u2) (G.all.imp λ_ h=>⟨h.1,Qk7 _ h.2⟩) (a:=u1) (c:=[]) (F.all.imp λ_ h=>⟨h.1,Qz4 _ h.2⟩) (λ_ h=>by cases h) FY;exact ⟨o,rfl,λgS bS g=>⟨o,S1++S2,_,D,rfl,w.le bS,by rw [Qq3];omega,R.s (by have:=F.dep;have:=G.dep;omega),t4,g⟩⟩
  ·rintro r jI cE ⟨l,d,I,ok,bd,t2,f⟩;have I:cA jI r l:=I;have a5:=I;obtain ⟨_,_,_,_,_,_,_,_,_,_,_,_,rfl⟩:=bR I;refine qxW ⟨rfl,p,n,c,d,f,λlH cq=>(cP true).s ?_⟩;rintro r lC b_ ⟨o1,rfl,k1⟩;refine ⟨o1,rfl,λmE cj=>(cP false).s ?_⟩;rintro r pf du ⟨o2,rfl,k2⟩;refine ⟨o2,rfl,λvh fl m hb=>?_⟩;have T:(Tr.node l (.leaf true) (.leaf false)).eU nE:=⟨⟨ok,bd⟩,trivial,trivial⟩;refine (kK (.node l (.leaf true) (.leaf false)) (MJ hb (cA.le a5 ((jX cq).m (b_.m (cj.m (du.m fl))))) (k1.le (cj.m (du.m fl))) (k2.le fl)) T (by show 1+0<=990;omega)).s ?_;rintro r qB gi ⟨o3,rfl,k3⟩;have ⟨R,sl⟩:=MH T (by show 1+0+0<=12;omega);exact ⟨o3,rfl,λ_ tC gV g=>fin (k3.le gV) sl R t2 g⟩
  ·rintro r zk kt ⟨q,t,d,rfl,w,ta,ts,t2,f⟩;refine ⟨q,rfl,p,n,c,d,f,λCs lU=>(kK t (w.le (jX lU)) ta (by have:=mO t;omega)).s ?_⟩;rintro r JS oV ⟨o,rfl,w'⟩;have ⟨R,sl⟩:=MH ta;exact ⟨o,rfl,λPa oW g=>fin (w'.le oW) sl R t2 g⟩
  ·rintro r Ti yL ⟨q,S,t,d,rfl,w,sl,R,t2,f⟩;refine ⟨q,rfl,p,n,c,d,f,λOT vR=>(lQ t (w.le (jX vR))).s ?_⟩;rintro r W5 yM ⟨o,rfl,w'⟩;exact ⟨o,rfl,λY0 Cn g=>fin (w'.le Cn) sl R.not t2 g⟩
  ·rintro r Zw FH ⟨q,S,t,d,rfl,w,sl,R,t2,f⟩;exact ⟨q,rfl,p,n,c,d,f,λZx yN g=>fin (w.le (jX yN)) sl R t2 g⟩
 intro V tb p n c at_ hk
 exact base k (by
  by_cases h:k=0
  ·exact .inl h
  ·obtain rfl:k=1:=by omega
   exact .inr λi j hw J s=>base 0 (.inl rfl) (by omega) i j hw J s) hk
open Classical in
theorem U4 {S:pz L3}{d:Nat}{t:Tr}(h:SX S d t)(hs:S.length<=24:=by omega):∃S':pz L3,S'.length<=24/\(∀l∈S',nE l)/\(t.eU λl=>Bd l/\l∈S')/\t.eU nE/\t.size<=600/\t.depth<=d:=by
 have b:∀l∈S.filter (λl=>decide (nE l)),nE l:=λl a=>by simpa using (Qb4.1 a).2
 have c:t.eU λl=>l∈S.filter λl=>decide (nE l):=h.all.imp λl g=>Qb4.2 ⟨g.2,by simpa using g.1⟩;have a:(S.filter λl=>decide (nE l)).length<=24:=Qw8 (List.length_filter_le ..) hs;refine ⟨S.filter λl=>decide (nE l),a,b,c.imp λl g=>⟨(b l g).2,g⟩,h.all.imp λ_ g=>g.1,?_,h.dep⟩;refine Qw8 (Su h.prp (TR []) c λl g=>(b l g).1) ?_;exact Qw8 (Qf8 a (Nat.add_le_add_left a 1)) (by decide)
theorem Yp {V1 V2 V3:ut}{bk:Nat}(l2:V1.Le V2)(hf:V1.w.heap.size<=bk)(l3:(V2.Qr bk).Le V3):V1.Le V3:=λb o h=>l3 b o ⟨λc=>c.elim (l2 b o h).1 λe=>by
  have d:b<V1.w.heap.size:=by
   rcases Qz2 b V1.w.heap.size with a|a
   ·exact a
   ·have:=h.2;rw [Qh6 a] at this;cases this
  have:=e.1;omega,(l2 b o h).2⟩
theorem VI (V:ut)(root:Int):AT V (dB #[qvK .i64 root,hF none 0 0]) root []:=⟨none,0,0,rfl,rfl,Qq2 _,⟨[],(λi v h=>by simp at h),λi d h=>by simp at h⟩,λ_=>rfl⟩
theorem Rn (h:0<=root):xf [] root=none:=by
 unfold xf iO;simp [show ¬root=-2 by omega,show ¬root=-1 by omega,show ¬root<0 by omega]
theorem zD (h:0<=root)(hy:mc V 0 y)(hz:mc V 1 z)(sy:G0 y) :
  aa prog 20 #[dB #[qvK .i64 root,hF none 0 0]] V λr _=>r=qvZ #[hF none 0 0,y]:=by
 refine iP V _ λb a=>(gU (l:=[]) (λx c=>by cases c) (VI b root) (hy.le a) (hz.le a)).s ?_;rintro r V2 d ⟨g,-⟩;obtain rfl:=g (Rn h);exact ⟨_,_,rfl,sy.Zd.1,λ_ f i=>rfl,λe=>by rw [sy.Zd.2] at e;cases e⟩
theorem Ct (h:0<=root)(hy:mc V 0 y)(hz:mc V 1 z)(sy:G0 y) :
  aa prog 21 #[dB #[qvK .i64 root,hF none 0 0]] V λr _=>r=qvZ #[hF none 0 0,y]:=by
 refine qn V _ λb a=>(gU (l:=[]) (λx c=>by cases c) (VI b root) (hy.le a) (hz.le a)).s ?_;rintro r V2 d ⟨g,-⟩;obtain rfl:=g (Rn h);exact ⟨_,_,rfl,sy.Zd.1,λ_ f i=>rfl,λe=>by rw [sy.Zd.2] at e;cases e⟩
theorem PD {v:un}{l:pz Nd}(hb:∀x∈l,Bd x.ln)(h:AT V v root l){t:Tr}(ht:xf l root=some t)(hd:t.depth<=1024){S:pz L3}(sa:t.eU λl=>Bd l/\l∈S)(hS:S.length<=24)(hSb:∀l∈S,Bd l)
  {b1 b2 b3:md}{xs ys zs:pz Nat}(hl:VD V w b1 xs b2 ys b3 zs)(s1:xs.length<=3)(s2:ys.length<=3)(s3:zs.length<=3)(hy:mc V 0 y)(hz:mc V 1 z) :
  aa prog 11 #[v,w] V λr V'=>∃p n c,(jF b1 xs b2 ys b3 zs=true->r=qvZ #[hF p n c,.nilIface])/\(jF b1 xs b2 ys b3 zs=false->r=qvZ #[hF none 0 0,y]):=by
 obtain ⟨A,B,C,D,E,F,G,H,I,rfl,e,f,g⟩:=hl;have j:=FG (b:=b1) e.fy s1;have m:=FG (b:=b2) f.fy s2;have o:=FG (b:=b3) g.fy s3
 cases ho:jF b1 xs b2 ys b3 zs with
 | true=>
  have ok:=ho;rw [nf] at ok;simp only [Qw7] at ok;have le:=US (a:=96) (b:=1000);have s:Bd (O1 b1 xs b2 ys b3 zs):=⟨Qx5 j le,Qx5 m le,Qx5 o le⟩;refine (Cu hb h ht hd (sa.imp λ_ h=>h.1) (rl_of ho e f g) ok.2 s (Xk s sa hS hSb) (λi _=>K9 i) hy hz).s ?_;rintro r V'-⟨p,n,c,rfl,-⟩;exact ⟨p,n,c,λ_=>rfl,λh=>nomatch h⟩
 | false=>
  obtain ⟨q,n,c,rfl,-⟩:=h;refine qm V _ λK d=>(nM b1 b2 b3 (e.le d) (f.le d) (g.le d) (by omega) (by omega) (by omega) (k:=1000) ((sZ j).s (by omega)) ((sZ m).s (by omega)) ((sZ o).s (by omega))).s ?_;rintro r V2 J ⟨u,rfl,⟨_,_,_,_,_,_,_,_,_,rfl⟩,-⟩;exact ⟨_,_,_,_,_,_,_,_,_,_,rfl,λ_=>⟨y,⟨_,rfl,hy.le (d.m J)⟩,λL M=>⟨none,0,0,(λh=>nomatch h),λ_=>rfl⟩⟩,λh=>by rw [ho] at h;cases h⟩
set_option maxHeartbeats 2000000 in
theorem mJ (hy:mc V 0 y)(hz:mc V 1 z)(sy:G0 y){lp:OA}{ln lc:Nat}(hr:JR V lp ln)(hc:ln<=lc){b1 b2 b3:md}{xs ys zs:pz Nat}(hl:VD V w b1 xs b2 ys b3 zs)(root:Int) :
  aa prog 4 #[hF lp ln lc,w,qvK .i64 root] V λr V'=>r=qvQ true:=by
 have a:=hl;obtain ⟨p1,n1,c1,p2,n2,c2,p3,n3,c3,rfl,g1,g2,g3⟩:=hl;have e1:=g1.len;have e2:=g2.len;have e3:=g3.len;refine mC V _ λV1 l1 a0 A=>(PH 3 A).s ?_;rintro r V2 l2 ⟨b,rfl,B⟩;have C:=l1.m l2;refine ⟨_,rfl,λ_=>⟨λ_ V3 U=>(DX (hy.le (C.m U)) (hz.le (C.m U))).s ?_,λhb=>?_⟩⟩
 ·rintro r V4 l4 rfl;exact ⟨_,rfl,λV5 l5=>rfl⟩
 obtain ⟨s1,s2,s3⟩:=B (by simpa using hb);intro V6 l6;refine (Hr hc).s ?_;rintro r V7 l7 ⟨S0,rfl,d,D⟩;refine ⟨S0,_,_,_,_,rfl,d,D,λX l8 VN e8 h8=>?_⟩;have QI:=Yp l7 d l8;have f:min ln 400<=400:=Nat.min_le_right _ _;have hr:JR V lp (min ln 400):=λi v=>hr i (Qx5 v (Nat.min_le_left _ _));generalize min ln 400=n at *;have Y:V.Le X:=C.m (l6.m QI);refine (PF 0 (V:=X.ar [VN]) (by omega) (hr.le Y) f e8 ⟨by simp,h8⟩ (Qt0 0)).s ?_;rintro r V9 l9 ⟨q,S,t,G8,rfl,hT,sl,R,t1,E⟩;have ⟨S',F,sk,sa,ok,sz,dp⟩:=U4 R;have G:=Y.m (ER l9);refine ⟨q,rfl,lp,n,lc,G8,E,λfQ g=>(rC (hT.le (jX g)) ok).s ?_⟩;rintro r fD bq Z;have H:=Z;obtain ⟨pa,na,ca,rfl,-⟩:=Z;have j:=G.m ((jX g).m bq);refine ⟨_,pa,na,ca,rfl,λgS bS=>(Kh (a.le (j.m bS)) (by omega) (by omega)).s ?_⟩;rintro r j7 bU ⟨u,rfl,⟨_,_,_,_,_,_,_,_,_,_,_,_,rfl⟩,-⟩;have k:=bS.m bU;have eT:xf (wr 0 t) (rt 0 t)=some t:=Rp (UB ok);refine ⟨_,_,_,_,_,_,_,_,_,_,_,_,_,rfl,λlB m=>(PD (ui (Ru ok)) (H.le (k.m m)) eT (by omega) sa F (λl h=>(sk l h).2) (a.le (j.m (k.m m))) (by omega) (by omega) (by omega) (hy.le (j.m (k.m m))) (hz.le (j.m (k.m m)))).s ?_⟩;rintro r jI cE ⟨pr,nr,cr,k1,k2⟩;have o:=j.m (k.m (m.m cE))
 have key:∃p n c e,r=qvZ #[hF p n c,e]/\IsIface e/\(jF b1 xs b2 ys b3 zs=gy e)/\(jF b1 xs b2 ys b3 zs=false->n=0/\e=y):=by
  cases ho:jF b1 xs b2 ys b3 zs with
  | true=>exact qyQ ⟨k1 ho,.inl rfl,rfl,λh=>nomatch h⟩
  | false=>exact qyQ ⟨k2 ho,sy.Zd.1,sy.Zd.2.symm,λ_=>⟨rfl,rfl⟩⟩
 obtain ⟨p,n',c,e,rfl,v,he,s⟩:=key;refine ⟨p,n',c,e,rfl,λz' _=>0<=z',⟨λ_=>⟨0,by and_intros<;>rfl,Qt0 0⟩,λh=>⟨root,by and_intros<;>rfl,by have:=of_decide_eq_false h;omega⟩⟩,?_⟩;intro R0 lH cq h0;have I:=o.m cq;refine ⟨rfl,λlC J=>(zD h0 (hy.le (I.m J)) (hz.le (I.m J)) sy).s ?_⟩;rintro r mE cj rfl;have K:=I.m (J.m cj);refine qyQ ⟨rfl,λpf L=>(Ct h0 (hy.le (K.m L)) (hz.le (K.m L)) sy).s ?_⟩;rintro r vh fl rfl;have M:=K.m (L.m fl);refine qyQ ⟨rfl,λqB N=>(DX (hy.le (M.m N)) (hz.le (M.m N))).s ?_⟩;rintro r tC gV rfl;have O:=M.m (N.m gV)
 have two:∀{W:ut},V.Le W->∃y32:un,(∃a33,(some (⟨0,0,none⟩:Addr))=some a33/\W.at a33 y32)/\∀P,W.Le P->aa prog 22 #[y,y32] P λr x=>∃ZA:md,r=qvQ ZA/\((ZA=true->(∃y35:un,(∃a36,(some (⟨0,0,none⟩:Addr))=some a36/\x.at a36 y35)/\∀Q,x.Le Q->aa prog 22 #[y,y35] Q λr T=>∃ZB:md,r=qvQ ZB/\((ZB=true->∀Pa,T.Le Pa->(Value.bool ((((0:Nat):Int))==(0:Int)))=qvQ true)/\(ZB=false->∀M6,T.Le M6->Value.bool false=qvQ true))))/\(ZA=false->∀Ti,x.Le Ti->Value.bool false=qvQ true)):=λ{W} lw=>
  ⟨y,⟨_,rfl,hy.le lw⟩,λP ij=>(iT sy).s λr x kt e=>⟨true,e,λ_=>⟨y,⟨_,rfl,hy.le (lw.m (ij.m kt))⟩,λQ lU=>(iT sy).s λr T oV e=>⟨true,e,λ_ Pa oW=>rfl,λh=>nomatch h⟩⟩,λh=>nomatch h⟩⟩
 cases ho:jF b1 xs b2 ys b3 zs with
 | true=>
  rw [ho] at he;exact ⟨_,rfl,λ_=>⟨v,λ_=>⟨λ_=>two O,λh=>nomatch h⟩,λh=>by rw [←he] at h;cases h⟩,λh=>nomatch h⟩
 | false=>
  obtain ⟨rfl,rfl⟩:=s ho;rw [ho] at he;exact ⟨_,rfl,λ_=>⟨v,λ_=>⟨(λh=>nomatch h),λ_=>⟨e,⟨_,rfl,hy.le O⟩,λOT vR=>(iT sy).s λr W5 yM e'=>⟨true,e',λ_=>⟨λ_=>two (O.m (vR.m yM)),λh=>nomatch h⟩,λh=>nomatch h⟩⟩⟩,λh=>by rw [←he] at h;cases h⟩,λh=>nomatch h⟩
end Go.Proofs.Tryz
namespace Go.Proofs.YtckenacdnbolaaaGreatDoor.cB
open Go.ChangeShapes Go.WideShapes Go.ChangeAt Go.RowKit Go.Eng
open Go.Value renaming int→qvK
abbrev S6 (b:Program->FuncId->Func->ChangeSpec->OpenClaim->Bool):Prop:=b Tryz.pinned.checked.prog 4 Tryz.f4 (OpenSpec.ofChange Rows.boundaryRefusesSpec).bare Rows.boundaryRefusesRow=true
def Uw {b:Program->FuncId->Func->ChangeSpec->OpenClaim->md}(h:b Tryz.pinned.checked.prog 4 Tryz.f4 (OpenSpec.ofChange Rows.boundaryRefusesSpec).bare Rows.boundaryRefusesRow=true:=by kernel_rfl):S6 b:=h
def fact0:S6 λP f fn s c=>c.wf (OpenSpec.ofChange s):=Uw
def fact1:S6 λP f fn s c=>laidOutB P:=Uw
def fact2:S6 λP f fn s c=>mapsRowed P:=Uw
def fact3:S6 λP f fn s c=>fn.params.all (P.readableRec ·):=Uw
def fact4:S6 λP f fn s c=>namedTie P c.named s.vars:=Uw
def fact5:S6 λP f fn s c=>(c.stops==[]):=Uw
def fact6:S6 λP f fn s c=>(P.stops==[]):=Uw
def fact7:S6 λP f fn s c=>(c.knobs==[]):=Uw
def fact8:S6 λP f fn s c=>(P.stopKnobs==[]):=Uw
abbrev fk2 (b:Program->FuncId->Func->ChangeSpec->OpenClaim->Bool):Prop:=b Tryz.pinned.checked.prog 4 Tryz.f4 (OpenSpec.ofChange Rows.boundaryRefusesSpec).bare Rows.boundaryRefusesRow=true
def mk2 {b:Program->FuncId->Func->ChangeSpec->OpenClaim->md}(h:b Tryz.pinned.checked.prog 4 Tryz.f4 (OpenSpec.ofChange Rows.boundaryRefusesSpec).bare Rows.boundaryRefusesRow=true:=by kernel_rfl):fk2 b:=h
def fact9:fk2 λP f fn s c=>(c.inPlace==P.inPlace f):=mk2
def Xp:fk2 λP f fn s c=>(c.unfollowed==P.unfollowed f):=mk2
def Xq:fk2 λP f fn s c=>(c.recurses==P.recurses f):=mk2
abbrev NN (b:Program->FuncId->Func->ChangeSpec->OpenClaim->Bool):Prop:=b Tryz.pinned.checked.prog 4 Tryz.f4 (OpenSpec.ofChange Rows.boundaryRefusesSpec).bare Rows.boundaryRefusesRow=true
def O2 {b:Program->FuncId->Func->ChangeSpec->OpenClaim->md}(h:b Tryz.pinned.checked.prog 4 Tryz.f4 (OpenSpec.ofChange Rows.boundaryRefusesSpec).bare Rows.boundaryRefusesRow=true:=by kernel_rfl):NN b:=h
def Xr:NN λP f fn s c=>(c.named==P.varsNamed f):=O2
def Xs:NN λP f fn s c=>(c.maps==(fn.params.toList++s.plain.varTypes P).any (P.mapsRec ·)):=O2
def Xt:NN λP f fn s c=>(c.ifaces==(fn.params.toList++s.plain.varTypes P).any (P.ifacesRec ·)):=O2
def Xu:NN λP f fn s c=>(c.mapsOut==P.mapsAmong fn.resultTypes.toList):=O2
def Xv:NN λP f fn s c=>(c.loops==(fn.params.toList++s.plain.varTypes P).any (P.loopsFrom ·)):=O2
def Xw:NN λP f fn s c=>(c.wideKeys==(fn.params.toList++s.plain.varTypes P++fn.resultTypes.toList).any (P.wideKeysFrom ·)):=O2
def Xx:NN λP f fn s c=>s.vars.all (P.varReadable ·):=O2
def Xy:NN λP f fn s c=>fn.resultTypes.all (λt=>P.readableRec t&&decide (t<P.types.size)):=O2
def Xz:NN λP f fn s c=>(c.ifacesOut==fn.resultTypes.toList.any (P.ifacesRec ·)):=O2
def XA:NN λP f fn s c=>(c.loopsOut==fn.resultTypes.toList.any (P.loopsFrom ·)):=O2
def XB:NN λP f fn s c=>(c.plainKeys==P.plainKeys):=O2
def XC:NN λP f fn s c=>c.shortTexts.isNone:=O2
abbrev TZ (b:Program->FuncId->Func->ChangeSpec->OpenClaim->Bool):Prop:=b Tryz.pinned.checked.prog 4 Tryz.f4 (OpenSpec.ofChange Rows.boundaryRefusesSpec).bare Rows.boundaryRefusesRow=true
def Wx {b:Program->FuncId->Func->ChangeSpec->OpenClaim->md}(h:b Tryz.pinned.checked.prog 4 Tryz.f4 (OpenSpec.ofChange Rows.boundaryRefusesSpec).bare Rows.boundaryRefusesRow=true:=by kernel_rfl):TZ b:=h
def XD:TZ λP f fn s c=>P.stopsHeard:=Wx
def XE:TZ λP f fn s c=>P.mayEnter:=Wx
def XF:TZ λP f fn s c=>(c.lifted==P.liftsFinal):=Wx
def XG:TZ λP f fn s c=>(P.make==some c.make):=Wx
def XH:TZ λP f fn s c=>(c.kinds==(if c.domain.isEmpty then [] else fn.params.toList.map λt=>match P.underlying t with|some (.int k)=>some k|_=>none)):=Wx
def XI:TZ λP f fn s c=>(c.pinned==c.pinnedBy):=Wx
def XJ:TZ λP f fn s c=>(c.veiled==(fn.params.toList++s.plain.varTypes P++fn.resultTypes.toList).any (P.veiledRec ·)):=Wx
def XK:TZ λP f fn s c=>c.veiledFits P fn.params.toList (fn.params.toList++s.plain.varTypes P++fn.resultTypes.toList):=Wx
end Go.Proofs.YtckenacdnbolaaaGreatDoor.cB
namespace Go.Proofs.YtckenacdnbolaaaGreatDoor.cB
open Go.ChangeShapes Go.WideShapes Go.ChangeAt Go.RowKit Go.Eng
def goes:false=Rows.boundaryRefusesRow.goesBy Tryz.pinned.checked.prog:=by kernel_rfl
end Go.Proofs.YtckenacdnbolaaaGreatDoor.cB
