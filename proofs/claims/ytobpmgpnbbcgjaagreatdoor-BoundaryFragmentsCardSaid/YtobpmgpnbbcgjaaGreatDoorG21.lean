import Derived.Test.YtobpmgpnbbcgjaaGreatDoorG20
import Derived.Test.YtobpmgpnbbcgjaaGreatDoorG10
set_option linter.all false
open Go.IntKind (i64 u64 u32)
open Go.Value renaming slice→dB,agg→qvK,bool→Õ,pointer→qyQ,tuple→æ,int→Ô
namespace Go.Proofs.Tryz
open Go.Eng Go.Big
variable{V:Ó}{p:OA}{l:L3}{v:Value}{S c:List L3}{n:Nat}{vs:List Value}
theorem Hd (c:zA L3):∀(r o:zA L3),(qL c r o).length<=r.length+o.length
 | [],o=>by unfold qL;simp
 | l::r,o=>by
  unfold qL;split
  ·have:=Hd c r (qt l o)
   have a:∀o:zA L3,(qt l o).length<=o.length+1:=λo=>by
    induction o with
    | nil=>simp [qt]
    | cons x r u=>unfold qt;split<;>(try split)<;>simp<;>omega
   have:=a o;simp only [Ą];omega
  ·have:=Hd c r o;simp only [Ą];omega
theorem He (c:zA L3):∀(r o:zA L3),∀x∈qL c r o,x∈r\/x∈o
 | [],o,x,h=>.inr h
 | l::r,o,x,h=>by
  unfold qL at h;rcases He c r _ x h with g|g
  ·exact .inl (Ă _ g)
  ·split at g
   ·rcases vt.1 g with rfl|g
    ·exact .inl (č ..)
    ·exact .inr g
   ·exact .inr g
theorem Oh {x y:Tr}(h:RW V p (.node l x y)):∃(b1:md)(u:OA)(z c1:Nat)(D:md)(E:OA)(F M:Nat)(N:md)(O:OA)(Z c3:Nat)(pl pr:OA)(a:Addr),p.isSome=true/\ae p 2=some a/\∀W:ut,V.Le W ->(∃a,ae p 0=some a/\W.at a (Õ false))/\(W.at (a.add 0) (Õ b1)/\W.at (a.add 1) (dB u z c1)/\W.at (a.add 2) (Õ D)/\W.at (a.add 3) (dB E F M)/\W.at (a.add 4) (Õ N)/\W.at (a.add 5) (dB O Z c3))/\(∃a,ae p 8=some a/\W.at a (qyQ pl))/\(∃a,ae p 9=some a/\W.at a (qyQ pr))/\bP W (qvK #[Õ b1,dB u z c1,Õ D,dB E F M,Õ N,dB O Z c3]) l/\RW W pl x/\RW W pr y:=by obtain ⟨e,f,b1,u,z,c1,D,E,F,M,N,O,Z,c3,pl,pr,rfl,c,k,m,d⟩:=h;refine ⟨b1,u,z,c1,D,E,F,M,N,O,Z,c3,pl,pr,(⟨e,0,none⟩:Addr).add 2,rfl,rfl,λW g=>?_⟩;have b:∀(i j:Nat) v,i+j<10->([Õ false,Õ f,Õ b1,dB u z c1,Õ D,dB E F M,Õ N,dB O Z c3,qyQ pl,qyQ pr]:zA un)[i+j]?=some v->W.at (((⟨e,0,none⟩:Addr).add i).add j) v:=by{intro i j v _ n;rw [Au,add_zero'];exact dD (xs:=[_,_,_,_,_,_,_,_,_,_]) (g _ _ c) n};exact ⟨yY (g _ _ c) 0 rfl,⟨b 2 0 _ ω rfl,b 2 1 _ ω rfl,b 2 2 _ ω rfl,b 2 3 _ ω rfl,b 2 4 _ ω rfl,b 2 5 _ ω rfl⟩,yY (g _ _ c) 8 rfl,yY (g _ _ c) 9 rfl,k.le g,m.le g,d.le g⟩
theorem Og {u:Nat}{i b1:md}{z:OA}{D c1:Nat}{E:md}{F:OA}{M N:Nat}{O:md}{Z:OA}{n3 c3:Nat}{pl pr:OA}{x y:Tr}(h:V.aW u (.cells #[Õ false,Õ i,Õ b1,dB z D c1,Õ E,dB F M N,Õ O,dB Z n3 c3,qyQ pl,qyQ pr] 80 (0,0)))(hl:bP V (qvK #[Õ b1,dB z D c1,Õ E,dB F M N,Õ O,dB Z n3 c3]) l)(hx:RW V pl x)(hy:RW V pr y):RW V (some ⟨u,0,none⟩) (.node l x y):=
 ⟨u,i,b1,z,D,c1,E,F,M,N,O,Z,n3,c3,pl,pr,rfl,h,hl,hx,hy⟩
def Px (l:L3):Tr->Tr->Tr
 | .leaf i,.leaf j=>if i=j then .leaf i else .node l (.leaf i) (.leaf j)
 | x,y=>.node l x y
theorem Ji {x y:Tr}(h:x.qw=false\/y.qw=false):Px l x y=.node l x y:=by
 cases x with
 | leaf i=>cases y with
  | leaf j=>rcases h with h|h<;>cases h
  | node=>rfl
 | node=>rfl
theorem uV {q:OA}{x y:Tr}(hl:bP V v l)(Z:RW V p x)(hy:RW V q y):À 73 #[v,qyQ p,qyQ q] V λr W=>∃o,r=qyQ o/\RW W o (Px l x y):=by
 obtain ⟨m,n,t,u,w,z,A,B,C,D,E,F,rfl⟩:=bG hl
 have c:∀{W:ut} {b:Nat},V.Le W->W.aW b (.cells #[Õ false,Õ false,Õ m,dB n t u,Õ w,dB z A B,Õ C,dB D E F,qyQ p,qyQ q] 80 (0,0))->(x.qw=false\/y.qw=false\/∃i j,x=.leaf i/\y=.leaf j/\i≠j)->∃o,Value.pointer (some ⟨b,0,none⟩)=qyQ o/\RW W o (Px l x y):=λg h k=>by refine ⟨_,rfl,?_⟩;have e:Px l x y=.node l x y:=by{rcases k with k|k|⟨i,j,rfl,rfl,k⟩;{exact Ji (.inl k)};{exact Ji (.inr k)};{show (if i=j then _ else _)=_;rw [Ã k]}};rw [e];exact Og h (bP.le hl g) (Z.le g) (hy.le g)
 have rd:∀{p:OA} {x:Tr},RW V p x->p.isSome=true/\∃a,ae p 0=some a/\V.at a (Õ x.qw):=λ{p x} h=>by (cases x with|leaf i=>{obtain ⟨s,G,-⟩:=ku h;exact ⟨s,G⟩}|node l x y=>{obtain ⟨_,_,_,_,_,_,_,_,_,_,_,_,_,_,_,s,-,H⟩:=Oh h;exact ⟨s,(H V (Ó.Le.refl V)).1⟩})
 have ⟨s1,I⟩:=rd Z;have ⟨s2,J⟩:=rd hy;refine EI V _ ⟨s1,s1,_,I,λd=>⟨s2,s2,_,J,λf=>?_,λf U K b L=>c K L (.inr (.inl f))⟩,λd X M b N=>c M N (.inl d)⟩
 obtain ⟨i,rfl⟩:∃i,x=.leaf i:=by cases x with
  | leaf i=>exact ⟨i,rfl⟩
  | node=>cases d
 obtain ⟨j,rfl⟩:∃j,y=.leaf j:=by cases y with
  | leaf j=>exact ⟨j,rfl⟩
  | node=>cases f
 obtain ⟨-,-,O⟩:=ku Z;obtain ⟨-,-,P⟩:=ku hy;refine ⟨s1,s1,i,O,s2,s2,j,P,λh Q R=>⟨p,rfl,?_⟩,λh V2 S b T=>c S T (.inr (.inr ⟨i,j,rfl,rfl,by simpa using h⟩))⟩;have e:i=j:=by simpa using h
 show RW Q p (if i=j then _ else _);rw [Ä e];exact Z.le R
def GW:Tr->Tr
 | .leaf i=>.leaf (!i)
 | .node l x y=>.node l (GW x) (GW y)
theorem mi:∀(t:Tr) {V:ut} {p:OA},RW V p t->À 27 #[qyQ p] V λr W=>∃q,r=qyQ q/\RW W q (GW t)
 | .leaf i,V,p,h=>by
  have ⟨s,e0,e1⟩:=ku h;refine wz V _ ⟨s,s,_,e0,λ_=>⟨s,s,i,e1,λM N=>(cO (!i)).s ?_⟩,π⟩;rintro r V2 O ⟨q,rfl,g⟩;exact ⟨q,rfl,λP f=>⟨q,rfl,g.le f⟩⟩
 | .node l x y,V,p,h=>by
  obtain ⟨Q,R,S,T,U,W,X,Y,Z,p3,n3,c3,pl,j,a,s,k,H⟩:=Oh h;obtain ⟨z,⟨m,n,o,u,v,w⟩,A,B,-,-,-⟩:=H V (Ó.Le.refl V);refine wz V _ ⟨s,s,_,z,π,λ_=>⟨s,s,_,_,_,_,_,_,_,_,_,_,_,_,a,k,m,n,o,u,v,w,s,s,pl,A,s,s,j,B,λC b=>(mi x (H C b).2.2.2.2.2.1).s ?_⟩⟩;rintro r V5 c ⟨D,rfl,E⟩;refine ⟨D,rfl,λF d=>(mi y (H F (b.m (c.m d))).2.2.2.2.2.2).s ?_⟩;rintro r V7 G ⟨I,rfl,J⟩;refine ⟨I,rfl,λK e bk L=>⟨_,rfl,Og L (H K (b.m (c.m (d.m (G.m e))))).2.2.2.2.1 (E.le au) (J.le e)⟩⟩
def wE (c:List L3)(l:L3):List L3:=qL (c++[l]) (c++[l]) []
theorem Ao (u:∀m∈c,jO m)(y:jO l):(∀m∈wE c l,jO m)/\(wE c l).length<=c.length+1:=by refine ⟨λm hm=>?_,?_⟩;{rcases He _ _ _ m hm with g|g;{rcases ø.1 g with g|g;{exact u m g};{rw [ö.1 g];exact y}};{cases g}};{have:=Hd (c++[l]) (c++[l]) [];simp at this;unfold wE;omega}
theorem ke {cp:OA}{cn cc:Nat}(M:bo 6 bP V cp cn c)(N:∀m∈c,jO m)(hn:c.length<=990)(O:bP V v l)(Z:jO l):À 74 #[dB cp cn cc,v] V λr W=>∃q n d,r=dB q n d/\bo 6 bP W q n (wE c l):=by obtain rfl:=M.len;obtain ⟨_,_,_,_,_,_,_,_,_,_,_,_,rfl⟩:=bG O;have ⟨xs,p,a,f⟩:=cV M φ;have i:∀m∈c++[l],jO m:=λm h=>(ø.1 h).elim (N m) λh=>by{rw [ö.1 h];exact Z};have j:(c++[l]).length=(0+c.length)+1:=by{rw [ë];simp};refine EJ V _ ⟨xs,p,a,ω,Ù _,ψ,a,vM f a,λx y b z s A=>⟨ω,s,by simp;omega,rfl,PM,λB C e D E F t u G w=>?_⟩⟩;have k:=bo.eN w (qO (V:=t) (ys:=[_,_,_,_,_,_]) (sp:=b) (sp':=e) rfl (f.le λ_ _ g=>bP.le g u) a rfl ra);rw [j] at k;refine (DM k (λm h=>(i m h).2) (λm h=>(i m h).1) (by rw [j];omega)).s ?_;rintro r V2 H ⟨q,n,d,rfl,g⟩;exact ⟨q,n,d,_,rfl,λJ I o=>⟨q,n,d,rfl,g.le o λ_ _ g=>bP.le g o⟩⟩
def uf:Tr->List L3->Tr
 | .leaf i,_=>.leaf i
 | .node l x y,c=>if B4 c l=1 then uf x c else if B4 c l=-1 then uf y c else Px l (uf x (wE c l)) (uf y (wE c (Ö l)))
theorem mz (h:jO l):jO (Ö l):=⟨xD h.1,h.2.rev⟩
theorem dw:∀(t:Tr) {V:ut} {p cp:OA} {cn cc:Nat} {c:zA L3},RW V p t->t.dJ jO->bo 6 bP V cp cn c->(∀m∈c,jO m)->c.length+t.depth<=990 ->À 71 #[qyQ p,dB cp cn cc] V λr W=>∃q,r=qyQ q/\RW W q (uf t c)
 | .leaf i,V,p,cp,cn,cc,c,h,_,_,_,_=>by
  obtain ⟨s,e0,-⟩:=ku h;exact mE V _ ⟨s,s,_,e0,λ_ V1 R=>⟨p,rfl,h.le R⟩,π⟩
 | .node l x y,V,p,cp,cn,cc,c,h,ha,hc,kc,hd=>by
  obtain ⟨e,J,K⟩:=ha;simp only [Tr.depth] at hd;have ⟨b1,p1,n1,c1,b2,p2,n2,c2,b3,p3,n3,c3,pl,L,a,s,A,H⟩:=Oh h;obtain ⟨z,⟨f,j,n,o,u,v⟩,B,C,-,-,-⟩:=H V (Ó.Le.refl V);have w:∀{W:ut},V.Le W->bo 6 bP W cp cn c:=λg=>hc.le g λ_ _ k=>bP.le k g;refine mE V _ ⟨s,s,_,z,π,λ_=>⟨s,s,_,_,_,_,_,_,_,_,_,_,_,_,a,A,f,j,n,o,u,v,λV2 D=>(sT (w D) (λm h=>(kc m h).2) (λm h=>(kc m h).1) ω (H V2 D).2.2.2.2.1 e.2 e.1).s ?_⟩⟩;rintro r S T rfl;have L3:=D.m T;obtain ⟨-,⟨f,j,n,o,u,v⟩,B,C,-,-,-⟩:=H S L3;refine ⟨_,rfl,λb=>⟨s,s,pl,B,λU l4=>(dw x (H U au).2.2.2.2.2.1 J (w au) kc ω).s ?_⟩,λb=>⟨λd=>⟨s,s,L,C,λX l7=>(dw y (H X au).2.2.2.2.2.2 K (w au) kc ω).s ?_⟩,λd=>?_⟩⟩
  ·have b:B4 c l=1:=by simpa using b
   rintro r Y Z ⟨q,rfl,g⟩;exact ⟨q,rfl,λV6 E=>⟨q,rfl,by unfold uf;rw [Ä b];exact g.le E⟩⟩
  ·have b:¬B4 c l=1:=by simpa using b
   have d:B4 c l=-1:=by simpa using d
   rintro r Y Z ⟨q,rfl,g⟩;exact ⟨q,rfl,λV6 E=>⟨q,rfl,by unfold uf;rw [Ã b,Ä d];exact g.le E⟩⟩
  ·have b:¬B4 c l=1:=by simpa using b
   have d:¬B4 c l=-1:=by simpa using d
   have ⟨w1,w2⟩:=Ao kc e;have ⟨w3,w4⟩:=Ao kc (mz e);refine ⟨s,s,_,_,_,_,_,_,_,_,_,_,_,_,a,A,f,j,n,o,u,v,s,s,pl,B,s,s,_,_,_,_,_,_,_,_,_,_,_,_,a,A,f,j,n,o,u,v,s,s,L,C,s,s,_,_,_,_,_,_,_,_,_,_,_,_,a,A,f,j,n,o,u,v,λfo F=>(ke (w au) kc ω (H fo au).2.2.2.2.1 e).s ?_⟩;rintro r fg dy ⟨q1,m1,d1,rfl,h1⟩;refine ⟨q1,m1,d1,rfl,λgT dX=>(dw x (H gT au).2.2.2.2.2.1 J ra w1 ω).s ?_⟩;rintro r iL dS ⟨o1,rfl,t1⟩;have Z_:=L3.m (F.m (dy.m (dX.m dS)));refine ⟨o1,rfl,λlR M=>(gX (H lR au).2.2.2.2.1).s ?_⟩;rintro r lS N gr;have H3:bP lS r (Ö l):=gr;obtain ⟨_,_,_,_,_,_,_,_,_,_,_,_,rfl⟩:=bG H3;have G:=Z_.m (M.m N);refine wqQ ⟨rfl,λkH O=>(ke (w au) kc ω ra (mz e)).s ?_⟩;rintro r lT ij ⟨q2,m2,d2,rfl,h2⟩;have I:=G.m (O.m ij);refine ⟨q2,m2,d2,rfl,λmZ hU=>(dw y (H mZ au).2.2.2.2.2.2 K ra w3 ω).s ?_⟩;rintro r pS jN ⟨o2,rfl,t2⟩;refine ⟨o2,rfl,λsC P=>(uV (H sC ((I.m au).m P)).2.2.2.2.1 (t1.le (M.m (N.m (O.m au))) ) (t2.le P)).s ?_⟩;rintro r sE qB ⟨Q,rfl,t3⟩;exact ⟨Q,rfl,λsN nH=>⟨Q,rfl,by unfold uf;rw [Ã b,Ã d];exact t3.le nH⟩⟩
theorem kX (t:Tr)(h:RW V p t)(u:t.dJ jO)(y:t.depth<=990:=by omega):À 24 #[qyQ p] V λr W=>∃q,r=qyQ q/\RW W q (uf t []):=by refine zO V _ λc a=>(dw t (h.le a) u (bo.nil (p:=none)) (λm h=>by cases h) (by simpa using y)).s ?_;rintro r V2 d ⟨q,rfl,g⟩;exact ⟨q,rfl,λe b=>⟨q,rfl,g.le b⟩⟩
def Qz (C:Rat×Rat->Prop):Prop:=∀p q,C p->C q->∀s:Rat,0<s->s<1->C (p.1+s*(q.1-p.1),p.2+s*(q.2-p.2))
def Ch (C:Rat×Rat->Prop)(l:L3)(x:Rat×Rat):Prop:=C x/\0<aC l x.1 x.2
theorem Qz.sd {C:Rat×Rat->Prop}(h:Qz C)(l:L3):Qz (Ch C l):=λp q ⟨d,f⟩ ⟨g,i⟩ s c s1=>by
 refine ⟨h p q d g s c s1,?_⟩;have e:aC l (p.1+s*(q.1-p.1)) (p.2+s*(q.2-p.2))=(1-s)*aC l p.1 p.2+s*aC l q.1 q.2:=by unfold aC;grind
 have a:=ĩ (show 0<1-s by grind) f;have b:=ĩ c i;rw [e];grind
def KU:(Rat×Rat->Prop)->Tr->Prop
 | _,.leaf _=>True
 | C,.node l x y=>(∃q,Ch C l q)/\(∃q,Ch C (Ö l) q)/\KU (Ch C l) x/\KU (Ch C (Ö l)) y
def LZ (l:L3):Tr->Nat
 | .leaf _=>0
 | .node m x y=>(if m=l\/m=Ö l then 1 else 0)+(LZ l x+LZ l y)
theorem betw {u y p:Rat}(h:u<p/\p<y\/y<p/\p<u):∃s:Rat,0<s/\s<1/\p=u+s*(y-u):=by have c:y-u≠0:=χ;have e:=Ŧ _ c;refine ⟨(p-u)*(y-u)⁻¹,?_,?_,χ⟩<;>{rcases h with ⟨d,f⟩|⟨d,f⟩;{have i:=Wz5.2 (show 0<y-u by grind);have a:=ĩ (show 0<p-u by grind) i;have b:=ĩ (show 0<y-p by grind) i;grind};{have g:=Ŧ _ (show u-y≠0 by grind);have i:=Wz5.2 (show 0<u-y by grind);have a:=ĩ (show 0<u-p by grind) i;have b:=ĩ (show 0<p-y by grind) i;have:(y-u)⁻¹=-(u-y)⁻¹:=χ;rw [this];grind}}
theorem Qz.line {C:Rat×Rat->Prop}(h:Qz C){u y p:Rat}(z:C (cg l u,cj l u))(D:C (cg l y,cj l y))(E:u<p/\p<y\/y<p/\p<u):C (cg l p,cj l p):=by obtain ⟨s,a,s1,rfl⟩:=betw E;have:=h _ _ z D s a s1;have b:cg l u+s*(cg l y-cg l u)=cg l (u+s*(y-u)):=by{unfold cg;grind};have c:cj l u+s*(cj l y-cj l u)=cj l (u+s*(y-u)):=by{unfold cj;grind};grind
theorem To (h:Nz l){x y:Rat}(u:aC l x y=0):cg l (ig l x y)=x/\cj l (ig l x y)=y:=by have a:=Ŧ _ h.norm;unfold aC at u;unfold cg cj ig;unfold fM at *;constructor<;>grind
theorem Qz.meets {C:Rat×Rat->Prop}(h:Qz C)(ol:ch l=true){p q:Rat×Rat}(u:Ch C l p)(y:Ch C (Ö l) q):∃z,C (cg l z,cj l z):=by obtain ⟨a,v1⟩:=u;obtain ⟨d,v2⟩:=y;rw [val_rev] at v2;have f:aC l p.1 p.2-aC l q.1 q.2≠0:=χ;have e:=Ŧ _ f;have i:=Wz5.2 (show 0<aC l p.1 p.2-aC l q.1 q.2 by grind);have b:=ĩ v2 i;have c:=h p q a d (aC l p.1 p.2*(aC l p.1 p.2-aC l q.1 q.2)⁻¹) (ĩ v1 i) χ;generalize D:aC l p.1 p.2*(aC l p.1 p.2-aC l q.1 q.2)⁻¹=s at *;have v0:aC l (p.1+s*(q.1-p.1)) (p.2+s*(q.2-p.2))=0:=by{have g:aC l (p.1+s*(q.1-p.1)) (p.2+s*(q.2-p.2))=aC l p.1 p.2-s*(aC l p.1 p.2-aC l q.1 q.2):=by{unfold aC;grind};rw [g,<-D];grind};refine ⟨ig l (p.1+s*(q.1-p.1)) (p.2+s*(q.2-p.2)),?_⟩<;>grind [To,iV]
theorem JA (ol:ch l=true):∀{t:Tr} {C:Rat×Rat->Prop},KU C t->Qz C->t.dJ (λm=>ch m=true)->LZ l t≠0->∃z,C (cg l z,cj l z)
 | .leaf _,C,_,_,_,h=>Å rfl h
 | .node m x y,C,⟨⟨M,g1⟩,⟨N,g2⟩,E,F⟩,u,⟨O,ox,oy⟩,h=>by
  unfold LZ at h;split at h
  ·grind [u.meets,rev_rev]
  ·by_cases k:LZ l x=0
   ·have ⟨z,D⟩:=JA ol F (u.sd _) oy ω;exact ⟨z,D.1⟩
   ·have ⟨z,D⟩:=JA ol E (u.sd _) ox k;exact ⟨z,D.1⟩
open Classical in
theorem L_ (ol:ch l=true){P:zA Rat}:∀{t:Tr} {C:Rat×Rat->Prop},KU C t->Qz C->t.dJ (λm=>ch m=true)->Yc l P t->LZ l t<=1+P.countP λp=>decide (C (cg l p,cj l p))
 | .leaf _,C,_,_,_,_=>á _
 | .node m x y,C,⟨⟨q1,g1⟩,⟨q2,g2⟩,Z,hy⟩,O,⟨om,ox,oy⟩,⟨cm,cx,cy⟩=>by
  unfold LZ;have ne:∀{z:Rat},aC l (cg l z) (cj l z)=0:=λ{z}=>(wO (iV ol) z).1
  have sub:∀k:L3,P.countP (λp=>decide (Ch C k (cg l p,cj l p)))<=P.countP λp=>decide (C (cg l p,cj l p)):=λk=>List.countP_mono_left λp _ h=>by
   simp only [Ñ] at h ⊢;exact h.1
  split
  ·rename_i e
   have zero:∀{k:L3} {t:Tr},(k=l\/k=Ö l)->KU (Ch C k) t->t.dJ (λm=>ch m=true)->LZ l t=0:=λ{k t} u h o=>by
    by_cases z:LZ l t=0
    ·exact z
    ·obtain ⟨w,-,hw⟩:=JA ol h (O.sd _) o z;rcases u with rfl|rfl
     ·rw [ne] at hw;exact Å hw φ
     ·rw [val_rev,ne] at hw;exact Å hw φ
   rw [zero e Z ox,zero (by rcases e with rfl|rfl;exact .inr rfl;exact .inl (rev_rev _)) hy oy];omega
  ·have A:=L_ ol Z (O.sd _) ox cx;have B:=L_ ol hy (O.sd _) oy cy;have s1:=sub m;have s2:=sub (Ö m);by_cases v:LZ l x=0
   ·omega
   ·by_cases D:LZ l y=0
    ·omega
    ·have ⟨d,E,n⟩:=JA ol Z (O.sd _) ox v;have ⟨i,F,j⟩:=JA ol hy (O.sd _) oy D;rw [val_rev] at j;rw [jY] at n j;have q:Û m l≠0:=λh=>by rw [h] at n j;grind
     have G:Û m l*Ø m l=-jB m l:=by
      unfold Ø;grind
     have I:d<Ø m l/\Ø m l<i\/i<Ø m l/\Ø m l<d:=by rcases bW (Û m l) with ⟨g,_⟩|⟨g,_⟩|⟨g,_⟩;{exact Å g q};{right;have t1:Û m l*(d-Ø m l)>0:=χ;have t2:Û m l*(Ø m l-i)>0:=χ;exact ⟨by have:=(Qp2 g).1 t2;grind,by have:=(Qp2 g).1 t1;grind⟩};{left;have M:-Û m l>0:=χ;have t1:-Û m l*(Ø m l-d)>0:=χ;have t2:-Û m l*(i-Ø m l)>0:=χ;grind [Rat.mul_pos_iff_of_pos_left]}
     have N:aC m (cg l (Ø m l)) (cj l (Ø m l))=0:=by rw [jY,G];grind
     have r:0<P.countP λc=>decide (c=Ø m l):=Qr4.2 ⟨_,cm q,ψ⟩
     have H:=Yy (f:=λp=>decide (Ch C m (cg l p,cj l p))) (g:=λp=>decide (Ch C (Ö m) (cg l p,cj l p))) (h:=λc=>decide (c=Ø m l)) (k:=λp=>decide (C (cg l p,cj l p))) (λc=>by
      by_cases e:c=Ø m l
      ·subst e;have J:¬Ch C m (cg l (Ø m l),cj l (Ø m l)):=λh=>by{have:=h.2;dsimp only at this;grind};have K:¬Ch C (Ö m) (cg l (Ø m l),cj l (Ø m l)):=λh=>by{have:=h.2;dsimp only at this;rw [val_rev] at this;grind};simp [J,K,(O.line E F I)]
      ·by_cases a:Ch C m (cg l c,cj l c)
       ·have b:¬Ch C (Ö m) (cg l c,cj l c):=λh=>by{have s:=h.2;have L:=a.2;dsimp only at s L;rw [val_rev] at s;grind};simp [a,b,e,a.1]
       ·by_cases b:Ch C (Ö m) (cg l c,cj l c)
        ·simp [a,b,e,b.1]
        ·simp [a,b,e]) P
     omega
theorem T1 {α:Type}{f g:α->Nat}:∀{S:zA α},(∀x∈S,f x<=g x)->(S.map f).sum<=(S.map g).sum
 | [],_=>Ù _
 | x::S,h=>by
  have:=h x (č ..);have:=T1 (S:=S) λy a=>h y (Ă _ a);grind
theorem sum_add {α:Type}{f g:α->Nat}:∀S:zA α,(S.map λx=>f x+g x).sum=(S.map f).sum+(S.map g).sum
 | []=>rfl
 | x::S=>by simp only [Ķ,Wz6,sum_add S];omega
theorem FV {α:Type}{k:Nat}:∀S:zA α,(S.map λ_=>k).sum=S.length*k
 | []=>ψ
 | x::S=>by simp only [Ķ,Wz6,FV S,Ą,đ];omega
theorem Cm:∀{t:Tr},t.dJ (·∈ S)->t.size<=(S.map λl=>LZ l t).sum
 | .leaf _,_=>á _
 | .node m x y,⟨hm,u,z⟩=>by
  have A:=Cm u;have B:=Cm z
  have e:(S.map λl=>LZ l (.node m x y)).sum=(S.map λl=>if m=l\/m=Ö l then 1 else 0).sum+((S.map λl=>LZ l x).sum+(S.map λl=>LZ l y).sum):=by
   rw [<-sum_add,<-sum_add];rfl
  have one:1<=(S.map λl=>if m=l\/m=Ö l then 1 else 0).sum:=by
   clear A B e u z
   induction S<;>grind
  grind [Tr.size]
theorem Lu {t:Tr}(h:t.dJ (·∈ S)):Yc l (S.map λm=>Ø m l) t:=h.imp λm hm _=>ă.2 ⟨m,hm,rfl⟩
theorem TT {t:Tr}{C:Rat×Rat->Prop}(h:KU C t)(z:Qz C)(u:t.dJ (·∈ S))(y:∀l∈S,ch l=true):t.size<=S.length*(1+S.length):=by refine ü (Cm u) ?_;rw [<-FV (k:=1+S.length) S];exact T1 λl a=>ü (L_ (y l a) h z (u.imp λm hm=>y m hm) (Lu u)) (Nat.add_le_add_left (ü (List.countP_le_length ..) (by rw [ĉ];exact Ù _)) 1)
theorem KU.jn {C:Rat×Rat->Prop}{x y:Tr}(h:KU C (.node l x y)):KU C (Px l x y):=by unfold Px;split;{split;{trivial};{exact h}};{exact h}
theorem dJ.jn {q:L3->Prop}{x y:Tr}(h:(Tr.node l x y).dJ q):(Px l x y).dJ q:=by unfold Px;split;{split;{trivial};{exact h}};{exact h}
theorem YA {x y:Tr}:(Px l x y).depth<=(Tr.node l x y).depth:=by unfold Px;split;{split;{exact á _};{exact Ù _}};{exact Ù _}
theorem Vc (c:zA L3):Qz (aV.pos c):=by
 induction c with
 | nil=>exact λp q _ _ s _ _ m hm=>nomatch hm
 | cons l c u=>
  have e:aV.pos (l::c)=Ch (aV.pos c) l:=by funext q;refine propext ⟨λh=>⟨λm hm=>h m (Ă _ hm),h l (č ..)⟩,λh m hm=>?_⟩;rcases ê.1 hm with rfl|hm;{exact h.2};{exact h.1 m hm}
  rw [e];exact u.sd l
theorem G4 {q:Rat×Rat}:aV.pos (c++[l]) q↔Ch (aV.pos c) l q:=
 ⟨λh=>⟨λm hm=>h m (Ļ _ hm),h l ψ⟩,λh m hm=>(ø.1 hm).elim (h.1 m) λg=>by rw [ö.1 g];exact h.2⟩
theorem Cd:∀(r out:zA L3)(x:L3),x∈qL c r out↔x∈out\/x∈r/\(eF x c ã).isSome=true
 | [],out,x=>by simp [qL]
 | l::r,out,x=>by
  unfold qL;rw [Cd];split<;>grind [vt]
theorem N0 (u:∀m∈c,ch m=true)(y:ch l=true)(h:∃q,Ch (aV.pos c) l q):aV.pos (wE c l)=Ch (aV.pos c) l:=by have b:∀m∈c++[l],ch m=true:=χ;obtain ⟨q,a⟩:=h;have a:=G4.2 a;funext x;refine propext (Iff.trans ⟨λg=>aV.ess (YB b a) a λm hm e=>g m ((Cd _ _ _).2 (.inr ⟨hm,(Nw (iV (b m hm))).2 e⟩)),λg m hm=>?_⟩ G4);rcases (Cd _ _ _).1 hm with h|⟨h,-⟩;{cases h};{exact g m h}
theorem Vz {ls:zA L3}(u:∀m∈ls,ch m=true)(h:DU ls=true):∃q,aV.pos ls q:=by rcases Á h with rfl|⟨l,a,b⟩;{exact ⟨(0,0),λm hm=>nomatch hm⟩};{obtain ⟨p,c,d⟩:=(Nw (iV (u l a))).1 b;obtain ⟨q,e,-⟩:=aV.YE (nz_d (u l a)) c d [] (λm hm=>nomatch hm);exact ⟨q,e⟩}
theorem Wk (z:∀m∈c,ch m=true)(u:ch l=true)(ne:∃q,aV.pos c q)(y:B4 c l≠1)(D:B4 c l≠-1):(∃q,Ch (aV.pos c) l q)/\∃q,Ch (aV.pos c) (Ö l) q:=by have add:∀{m:L3},ch m=true->(DU (c++[m])=true->∃q,Ch (aV.pos c) m q):=λ{m} hm h=>by{have ⟨q,a⟩:=Vz (λx b=>(ø.1 b).elim (z x) λh=>by rw [ö.1 h];exact hm) h;exact ⟨q,G4.1 a⟩};unfold B4 at y D;split at y;{rename_i g;exact ⟨add u g.1,add (xD u) g.2⟩};grind
structure KV (q:L3->Prop) (d:Nat) (C:Rat×Rat->Prop) (t:Tr):Prop where
 prp:KU C t
 all:t.dJ q
 dep:t.depth<=d
theorem KV.node {q:L3->Prop}{d:Nat}{x y:Tr}(D:∀m∈c,ch m=true)(E:ch l=true)(F:q l)(ne:∃q,aV.pos c q)(M:B4 c l≠1)(N:B4 c l≠-1)(u:(∃q,aV.pos (wE c l) q)->KV q d (aV.pos (wE c l)) x)(z:(∃q,aV.pos (wE c (Ö l)) q)->KV q d (aV.pos (wE c (Ö l))) y):KV q (d+1) (aV.pos c) (Px l x y):=by have ⟨a,b⟩:=Wk D E ne M N;rw [N0 D E a] at u;rw [N0 D (xD E) b] at z;have u:=u a;have z:=z b;refine ⟨KU.jn ⟨a,b,u.prp,z.prp⟩,dJ.jn ⟨F,u.all,z.all⟩,ü YA ?_⟩<;>grind [u.dep,z.dep,Tr.depth]
theorem Ap (u:∀m∈c,ch m=true)(y:ch l=true):∀m∈wE c l,ch m=true:=λm hm=>by rcases He _ _ _ m hm with g|g<;>grind
theorem KV.s {q:L3->Prop}{d e:Nat}{C:Rat×Rat->Prop}{t:Tr}(h:KV q d C t)(u:d<=e):KV q e C t:=⟨h.prp,h.all,ü h.dep u⟩
theorem ug {q:L3->Prop}(u:∀l,q l->ch l=true):∀{t:Tr} {c:zA L3},t.dJ q->(∀m∈c,ch m=true)->(∃x,aV.pos c x)->KV q t.depth (aV.pos c) (uf t c)
 | .leaf i,c,_,_,_=>⟨trivial,trivial,Ù _⟩
 | .node l x y,c,⟨ql,qx,qy⟩,z,ne=>by
  have D:=u l ql;unfold uf;simp only [Tr.depth];split
  ·exact (ug u qx z ne).s ω
  ·split
   ·exact (ug u qy z ne).s ω
   ·rename_i a b;refine (KV.node (d:=max x.depth y.depth) z D ql ne a b (λg=>(ug u qx (Ap z D) g).s ω) (λg=>(ug u qy (Ap z (xD D)) g).s ω)).s ω
theorem KU.not:∀{t:Tr} {C:Rat×Rat->Prop},KU C t->KU C (GW t)
 | .leaf _,_,_=>trivial
 | .node _ _ _,_,⟨a,b,c,d⟩=>⟨a,b,KU.not c,KU.not d⟩
theorem dJ.not {q:L3->Prop}:∀{t:Tr},t.dJ q->(GW t).dJ q
 | .leaf _,_=>trivial
 | .node _ _ _,⟨a,b,c⟩=>⟨a,dJ.not b,dJ.not c⟩
theorem Gu:∀t:Tr,(GW t).depth=t.depth
 | .leaf _=>rfl
 | .node _ x y=>by simp only [GW,Tr.depth,Gu x,Gu y]
theorem KV.not {q:L3->Prop}{d:Nat}{C:Rat×Rat->Prop}{t:Tr}(h:KV q d C t):KV q d C (GW t):=⟨h.prp.not,dJ.not h.all,by rw [Gu];exact h.dep⟩
def qG (op:Int):Tr->Tr->List L3->Tr
 | .leaf i,b,c=>if op=1/\i=true then .leaf true else if (op=2\/op=3)/\i=false then .leaf false else if (op=3\/op=4)/\i=true then GW (uf b c) else uf b c
 | .node l x y,b,c=>if B4 c l=1 then qG op x b c else if B4 c l=-1 then qG op y b c else Px l (qG op x b (wE c l)) (qG op y b (wE c (Ö l)))
theorem BO {q:L3->Prop}(z:∀l,q l->ch l=true){op:Int}{b:Tr}(D:b.dJ q):∀{a:Tr} {c:zA L3},a.dJ q->(∀m∈c,ch m=true)->(∃x,aV.pos c x)->KV q (a.depth+b.depth) (aV.pos c) (qG op a b c)
 | .leaf i,c,_,u,ne=>by
  have R:KV q ((Tr.leaf i).depth+b.depth) (aV.pos c) (uf b c):=(ug z D u ne).s ω;unfold qG;split
  ·exact ⟨trivial,trivial,á _⟩
  ·split
   ·exact ⟨trivial,trivial,á _⟩
   grind [R.not]
 | .node l x y,c,⟨ql,qx,qy⟩,u,ne=>by
  have e:=z l ql;unfold qG;simp only [Tr.depth];split
  ·exact (BO z D qx u ne).s ω
  ·split
   ·exact (BO z D qy u ne).s ω
   ·rename_i f h;refine (KV.node (d:=max x.depth y.depth+b.depth) u e ql ne f h (λg=>(BO z D qx (Ap u e) g).s ω) (λg=>(BO z D qy (Ap u (xD e)) g).s ω)).s ω
theorem F5:∀t:Tr,t.dJ (·∈ t.di)
 | .leaf _=>trivial
 | .node l x y=>⟨č ..,(F5 x).imp λ_ h=>Ă _ (Ļ _ h),(F5 y).imp λ_ h=>Ă _ (Œ _ h)⟩
def pH (V:Ó)(v:Value)(x:L3×Sp):Prop:=zU V v x.1 x.2
theorem J0 {V:ut}{xs:zA un}{x:L3×Sp}(h:pH V (.agg xs.toArray) x):∀v∈xs,v.oneCell'=true:=by obtain ⟨_,_,_,_,_,_,_,_,_,_,_,_,_,_,_,ex,-,-⟩:=h;have ex:=Æ Array.toList (Value.agg.inj ex);subst ex;intro v a;simp only [ê,ę,Ì] at a;rcases a with rfl|rfl|rfl|rfl|rfl|rfl|rfl|rfl|rfl|rfl|rfl|rfl|rfl|rfl|rfl|rfl|rfl<;>rfl
def fV:L3×Sp:=((0,0,0),⟨0,0,false,false⟩)
def tI (a b:L3×Sp):Int:=iq a.1 b.1
theorem Td:Ō tI:=⟨λa b h=>Te.Yp a.1 b.1 h,λa b d h c=>Te.tr a.1 b.1 d.1 h c⟩
def Qo (V:Ó)(v:Value)(c:L3×Sp):Prop:=zU V v c.1 c.2/\iJ 10000 c.1
theorem Qo.le {V V':ut}{c:L3×Sp}(h:Qo V v c)(l:V.Le V'):Qo V' v c:=⟨h.1.le l,h.2⟩
theorem Qo.shape {c:L3×Sp}(h:Qo V v c):∃(x y:Int)(p:OA)(u z:Int)(D:OA)(xc E:Int)(F:OA)(M N:Int)(pd:OA)(O Z:Int)(pe:OA)(fa fb:md),v=qvK #[Ô .i64 x,Ô .i64 y,qyQ p,Ô .i64 u,Ô .i64 z,qyQ D,Ô .i64 xc,Ô .i64 E,qyQ F,Ô .i64 M,Ô .i64 N,qyQ pd,Ô .i64 O,Ô .i64 Z,qyQ pe,Õ fa,Õ fb]:=by obtain ⟨⟨_,_,_,_,_,_,_,_,_,_,_,_,_,_,_,e,-⟩,-⟩:=h;exact ⟨_,_,_,_,_,_,_,_,_,_,_,_,_,_,_,_,_,e⟩
theorem nZ {w:un}{a b:L3×Sp}(h:Qo V v a)(u:Qo V w b):À 167 #[v,w] V λr W=>r=Ô .i64 (tI a b):=by obtain ⟨⟨_,_,_,_,_,_,_,_,_,_,_,_,_,_,_,rfl,f,-⟩,c⟩:=h;obtain ⟨⟨_,_,_,_,_,_,_,_,_,_,_,_,_,_,_,rfl,g,-⟩,d⟩:=u;refine xN V _ λi e=>(wT (f.le e) (g.le e) c.1 c.2.1 c.2.2 d.1 d.2.1 d.2.2).s ?_;rintro r V2 j rfl;rw [JE];exact ⟨_,rfl,λk l=>rfl⟩
structure uE (V:Ó) (n:Nat) (vs:List Value) (l:List (L3×Sp)):Prop where
 row:é 17 Qo V vs l
 len:n=l.length
 kj:l.length<10000
theorem uE.le {V V':ut}{l:zA (L3×Sp)}(h:uE V n vs l)(e:V.Le V'):uE V' n vs l:=⟨h.row.le λ_ _ g=>Qo.le g e,h.len,h.kj⟩
theorem uE.get {l:zA (L3×Sp)}(h:uE V n vs l){k:Nat}(hk:k<l.length):∃(x y:Int)(p:OA)(u z:Int)(D:OA)(xc E:Int)(F:OA)(M N:Int)(pd:OA)(O Z:Int)(pe:OA)(fa fb:md),((0+k*17)+17<=vs.length/\(vs.drop (0+k*17)).take 17=[Ô .i64 x,Ô .i64 y,qyQ p,Ô .i64 u,Ô .i64 z,qyQ D,Ô .i64 xc,Ô .i64 E,qyQ F,Ô .i64 M,Ô .i64 N,qyQ pd,Ô .i64 O,Ô .i64 Z,qyQ pe,Õ fa,Õ fb])/\Qo V (qvK #[Ô .i64 x,Ô .i64 y,qyQ p,Ô .i64 u,Ô .i64 z,qyQ D,Ô .i64 xc,Ô .i64 E,qyQ F,Ô .i64 M,Ô .i64 N,qyQ pd,Ô .i64 O,Ô .i64 Z,qyQ pe,Õ fa,Õ fb]) (l.getD k fV):=by obtain ⟨xs,-,a,b,c⟩:=h.row.get (d:=fV) hk φ;obtain ⟨x,y,p,u,z,D,xc,E,F,M,N,pd,O,Z,pe,fa,fb,e⟩:=a.shape;have e:=Æ Array.toList (Value.agg.inj e);dsimp only at e;subst e;rw [Ĉ];exact ⟨x,y,p,u,z,D,xc,E,F,M,N,pd,O,Z,pe,fa,fb,⟨b,c⟩,a⟩
theorem uE.swap {l:zA (L3×Sp)}(h:uE V n vs l){i j:Nat}(hi:i<l.length)(hj:j<l.length){x y:Int}{xb yb:Int}{pb:OA}{xc yc:Int}{pc:OA}{xd yd:Int}{pd:OA}{xe ye:Int}{pe:OA}{fa fb:md}{x' y':Int}{p':OA}{u z:Int}{D:OA}{WU E:Int}{F:OA}{M N:Int}{O:OA}{Z ye':Int}{pe':OA}{fa' fb':md}(h1:Qo V (qvK #[Ô .i64 x,Ô .i64 y,qyQ p,Ô .i64 xb,Ô .i64 yb,qyQ pb,Ô .i64 xc,Ô .i64 yc,qyQ pc,Ô .i64 xd,Ô .i64 yd,qyQ pd,Ô .i64 xe,Ô .i64 ye,qyQ pe,Õ fa,Õ fb]) (l.getD i fV))(h2:Qo V (qvK #[Ô .i64 x',Ô .i64 y',qyQ p',Ô .i64 u,Ô .i64 z,qyQ D,Ô .i64 WU,Ô .i64 E,qyQ F,Ô .i64 M,Ô .i64 N,qyQ O,Ô .i64 Z,Ô .i64 ye',qyQ pe',Õ fa',Õ fb']) (l.getD j fV)):(0+i*17)+17<=vs.length/\(0+j*17)+17<=(bD vs (0+i*17) [Ô .i64 x',Ô .i64 y',qyQ p',Ô .i64 u,Ô .i64 z,qyQ D,Ô .i64 WU,Ô .i64 E,qyQ F,Ô .i64 M,Ô .i64 N,qyQ O,Ô .i64 Z,Ô .i64 ye',qyQ pe',Õ fa',Õ fb']).length/\uE V n (bD (bD vs (0+i*17) [Ô .i64 x',Ô .i64 y',qyQ p',Ô .i64 u,Ô .i64 z,qyQ D,Ô .i64 WU,Ô .i64 E,qyQ F,Ô .i64 M,Ô .i64 N,qyQ O,Ô .i64 Z,Ô .i64 ye',qyQ pe',Õ fa',Õ fb']) (0+j*17) [Ô .i64 x,Ô .i64 y,qyQ p,Ô .i64 xb,Ô .i64 yb,qyQ pb,Ô .i64 xc,Ô .i64 yc,qyQ pc,Ô .i64 xd,Ô .i64 yd,qyQ pd,Ô .i64 xe,Ô .i64 ye,qyQ pe,Õ fa,Õ fb]) (Hq fV l i j):=by obtain ⟨-,-,-,a,-⟩:=h.row.get (d:=fV) hi φ;obtain ⟨-,-,-,b,-⟩:=h.row.get (d:=fV) hj φ;rw [Ĉ,Ĉ];refine ⟨a,by rw [qR (by exact a)];exact b,h.row.swap hi hj φ rfl rfl h1 h2,by rw [Hr];exact h.len,by rw [Hr];exact h.kj⟩
def K1 (lb n:Nat)(l:List (L3×Sp))(a b:Nat)(V':Ó)(Q:List (L3×Sp)->Prop):Prop:=∃u l',V'.w.heap[lb]?=some (.cells u.toArray 99 (0,0))/\uE V' n u l'/\tG fV l l' a b/\Q l'
theorem nk {V:ut}{lb c:Nat}{l:zA (L3×Sp)}(hw:V.w.heap[lb]?=some (.cells vs.toArray 99 (0,0)))(hx:V.X lb)(h:uE V n vs l){a b:Nat}(hab:a<=b)(hb:b<=l.length:=by omega):À 282 #[dB (some ⟨lb,0,none⟩) n c,Ô .i64 a,Ô .i64 b,.func (.func 167) #[] #[]] V λr W=>r=æ #[]/\K1 lb n l a b W λl'=>oY tI fV l' a b:=by
 have kj:=h.kj;have len:=h.len;have wa:i64.wrap ((a:Int)+1)=((a+1:Nat):Int):=by rw [ao ω];omega
 refine iH lb n c vs a b V _ hw hx ⟨λz V'=>∃(i:Nat)(m:zA (L3×Sp)),z.1=(i:Int)/\a<i/\(i<=b\/i=a+1)/\uE V' n z.2 m/\tG fV l m a b/\oY tI fV m a i,λz=>(b-z.1).toNat,
  ⟨(_,vs),σ,a+1,l,wa,ω,.inr rfl,h,.refl _ _ _,.short ω⟩,?_⟩
 rintro ⟨z,us⟩ V1 l1 ⟨i,m,e,a0,q,g,d,o⟩;dsimp only at e g;subst e;dsimp only;have ml:=d.len;refine ⟨rfl,λf=>?_,λf V6 l6 Q=>⟨rfl,us,m,Q,ra,d,?_⟩⟩
 ·have f:=Á f;have w2:i64.wrap ((i:Int)+1)=((i+1:Nat):Int):=by rw [ao ω];omega
  rw [w2];refine ⟨λz V'=>∃(j:Nat)(k:zA (L3×Sp)),z.1=(j:Int)/\a<=j/\j<=i/\uE V' n z.2 k/\tG fV l k a b/\WX tI fV k a i j,λz=>z.1.toNat,⟨((i:Int),us),σ,i,m,rfl,ω,Ù _,g,d,.start o⟩,?_⟩;rintro ⟨z,ws⟩ V2 l2 ⟨j,k,e,a1,O,g,d,p⟩;dsimp only at e g;subst e;dsimp only;have kl:=d.len;refine ⟨rfl,λz V'=>V2.Le V'/\(z=true->a<j/\tI (k.getD j fV) (k.getD (j-1) fV)<0)/\(z=false->j<=a\/¬tI (k.getD j fV) (k.getD (j-1) fV)<0),⟨λs=>?_,λs=>?_⟩,?_⟩
  ·have s:=Á s;have R:i64.wrap ((j:Int)-1)=((j-1:Nat):Int):=by{rw [ao ω];omega};rw [R,Ü,Ü];obtain ⟨S,T,U,W,Y,Z,Uw,Ux,u,v,x,y,A,B,C,D,E,g1,r1⟩:=g.get (k:=j) ω;have ⟨x2,y2,p2,Ue,Ug,Tq,Z6,Z9,F,G,H,I,J,K,L,M,N,g2,r2⟩:=g.get (k:=j-1) ω;refine ⟨⟨ω,ω⟩,S,T,U,W,Y,Z,Uw,Ux,u,v,x,y,A,B,C,D,E,g1,⟨ω,ω⟩,x2,y2,p2,Ue,Ug,Tq,Z6,Z9,F,G,H,I,J,K,L,M,N,g2,λV3 l3=>(nZ ra ra).s λr V4 l4 rfl=>⟨_,rfl,_,σ,l3.m l4,λh=>⟨ω,Á h⟩,λh=>.inr (Â h)⟩⟩
  ·have s:=Â s;exact ⟨false,σ,Ó.Le.refl _,π,λ_=>.inl ω⟩
  ·rintro t V5 l5 ⟨lv,t1,t2⟩;refine ⟨rfl,λht=>?_,λht=>⟨(((i+1:Nat):Int),ws),ω,σ,i+1,k,rfl,ω,.inl ω,ra,d,p.done Td O (t2 ht)⟩⟩;have ⟨s,P⟩:=t1 ht;have R:i64.wrap ((j:Int)-1)=((j-1:Nat):Int):=by rw [ao ω];omega
   rw [R,Ü,Ü];obtain ⟨S,T,U,W,Y,Z,Uw,Ux,u,v,x,y,A,B,C,D,E,g1,r1⟩:=(g.le l5).get (k:=j) ω;obtain ⟨x2,y2,p2,Ue,Ug,Tq,Z6,Z9,F,G,H,I,J,K,L,M,N,g2,r2⟩:=(g.le l5).get (k:=j-1) ω;obtain ⟨s1,s2,s3⟩:=(g.le l5).swap (i:=j) (j:=j-1) ω ω r1 r2
   exact ⟨⟨ω,ω⟩,x2,y2,p2,Ue,Ug,Tq,Z6,Z9,F,G,H,I,J,K,L,M,N,g2,⟨ω,ω⟩,S,T,U,W,Y,Z,Uw,Ux,u,v,x,y,A,B,C,D,E,g1,⟨ω,ω⟩,s1,⟨ω,ω⟩,s2,(((j-1:Nat):Int),_),ω,σ,j-1,_,rfl,ω,ω,s3,
    d.m (tG.Hq ω ω ω ω),p.move Td s O ω P⟩
 ·have f:=Â f;rcases q with q|q;{rw [show b=i by omega];exact o};{exact .short ω}
end Go.Proofs.Tryz
namespace Go.Proofs.Tryz
section
variable {α:Type} {c:α->α->Int} {d:α}
structure Dp (d:α) (l l':List α) (s m e:Nat):Prop where
 pN:tG d l l' s e
 lo:∀k,s<=k->k+m<s+e->l'.getD k d=l.getD (k+m-s) d
 hi:∀k,s+e<=k+m->k<e->l'.getD k d=l.getD (k+m-e) d
theorem Dp.nil1 {l:zA α}{m e:Nat}:Dp d l l m m e:=⟨.refl _ _ _,λk _ _=>by rw [Qc8],λk h a=>ω⟩
theorem Dp.nil2 {l:zA α}{s m:Nat}:Dp d l l s m m:=⟨.refl _ _ _,λk h a=>ω,λk _ _=>by rw [Qc8]⟩
structure Un (d:α) (l l':List α) (a b n:Nat):Prop where
 pN:tG d l l' a (b+n)
 e1:∀k,k<n->l'.getD (a+k) d=l.getD (b+k) d
 e2:∀k,k<n->l'.getD (b+k) d=l.getD (a+k) d
 out:∀k,¬(a<=k/\k<a+n)->¬(b<=k/\k<b+n)->l'.getD k d=l.getD k d
theorem Un.nil {l:zA α}{a b:Nat}:Un d l l a b 0:=⟨.refl _ _ _,λk h=>ω,λk h=>ω,λ_ _ _=>rfl⟩
theorem Un.snoc {l m:zA α}{a b n:Nat}(h:Un d l m a b n)(u:a+n<b)(y:b+n<l.length):Un d l (Hq d m (a+n) (b+n)) a b (n+1):=by have len:=h.pN.len;have e:=λk=>xK (d:=d) (l:=m) (i:=a+n) (j:=b+n) (k:=k) ω;refine ⟨(h.pN.wide (Ù _) ω).m (tG.Hq ω ω ω ω),λk f=>?_,λk f=>?_,λk g o=>?_⟩;{rw [e,Ã ω];by_cases c:k=n;{subst c;rw [Ä rfl];exact h.out _ ω ω};{rw [Ã ω];exact h.e1 k ω}};{rw [e];by_cases c:k=n;{subst c;rw [Ä rfl];exact h.out _ ω ω};{rw [Ã ω,Ã ω];exact h.e2 k ω}};{rw [e,Ã ω,Ã ω];exact h.out _ ω ω}
theorem ZO {l l':zA α}{m i:Nat}(hi:i<=m)(h:Un d l l' (m-i) m i):Dp d l l' (m-i) m (m+i):=by refine ⟨h.pN,λk a b=>?_,λk a b=>?_⟩;{have:=h.e1 (k-(m-i)) ω;rwa [show m-i+(k-(m-i))=k by omega,show m+(k-(m-i))=k+m-(m-i) by omega] at this};{have:=h.e2 (k-m) ω;rwa [show m+(k-m)=k by omega,show m-i+(k-m)=k+m-(m+i) by omega] at this}
theorem ZP {l n l':zA α}{m i j:Nat}(hi:i<=m)(u:j<i)(h:Un d l n (m-i) m j)(g:Dp d n l' (m-(i-j)) m (m+j)):Dp d l l' (m-i) m (m+j):=by refine ⟨h.pN.m (g.pN.wide ω ω),λk b a=>?_,λk b a=>?_⟩;{have:=h.e1 (k-(m-i)) ω;rw [show m-i+(k-(m-i))=k by omega,show m+(k-(m-i))=k+m-(m-i) by omega] at this;rw [<-this];exact g.pN.out k ω};{by_cases c:k+m<m-(i-j)+(m+j);{rw [g.lo k ω c];have:=h.e2 (k+m-(m-(i-j))-m) ω;rw [show m+(k+m-(m-(i-j))-m)=k+m-(m-(i-j)) by omega] at this;rw [this];congr 1;omega};{rw [g.hi k ω a];exact h.out _ ω ω}}
theorem ZQ {l n l':zA α}{m i j:Nat}(hi:i<=m)(u:i<j)(h:Un d l n (m-i) (m+j-i) i)(g:Dp d n l' (m-i) m (m+(j-i))):Dp d l l' (m-i) m (m+j):=by have s:=h.pN;rw [show m+j-i+i=m+j by omega] at s;refine ⟨s.m (g.pN.wide ω ω),λk a b=>?_,λk a b=>?_⟩;{by_cases c:k+m<m-i+(m+(j-i));{rw [g.lo k a c];exact h.out _ ω ω};{by_cases e:k<m+(j-i);{rw [g.hi k ω e];have:=h.e1 (k+m-(m+(j-i))-(m-i)) ω;rw [show m-i+(k+m-(m+(j-i))-(m-i))=k+m-(m+(j-i)) by omega] at this;rw [this];congr 1;omega};{exfalso;omega}}};{rw [g.pN.out k ω];have:=h.e2 (k-(m+j-i)) ω;rw [show m+j-i+(k-(m+j-i))=k by omega] at this;rw [this];congr 1;omega}
theorem F_ {l l':zA α}{a s m e b:Nat}(E:a<=s)(F:s<=m)(M:m<=e)(N:e<=b)(r:Dp d l l' s m e)(u:oY c d l a m)(v:oY c d l m b)(z:∀x y,a<=x->x<s->e<=y->y<b->¬c (l.getD y d) (l.getD x d)<0)(D:∀x y,s<=x->x<m->m<=y->y<e->¬c (l.getD x d) (l.getD y d)<0):(∀p q,a<=p->p+m<s+e->s+e<=q+m->q<b->¬c (l'.getD q d) (l'.getD p d)<0)/\oY c d l' a s/\(∀p q,s<=p->p<q->q+m<s+e->¬c (l'.getD q d) (l'.getD p d)<0)/\(∀p q,s+e<=p+m->p<q->q<e->¬c (l'.getD q d) (l'.getD p d)<0)/\oY c d l' e b:=by have o:=λk (h:¬(s<=k/\k<e))=>r.pN.out k h;refine ⟨λp q f g n t=>?_,λp q f g i=>?_,λp q f g i=>?_,λp q f g i=>?_,λp q f g i=>?_⟩;{by_cases w:p<s;{rw [o p ω];by_cases j:q<e;{rw [r.hi q n j];exact u _ _ f ω ω};{rw [o q ω];exact z _ _ f w ω t}};{rw [r.lo p ω g];by_cases j:q<e;{rw [r.hi q n j];exact D _ _ ω ω ω ω};{rw [o q ω];exact v _ _ ω ω t}}};{rw [o p ω,o q ω];exact u _ _ f g ω};{rw [r.lo p f ω,r.lo q ω i];exact v _ _ ω ω ω};{rw [r.hi p f ω,r.hi q ω i];exact u _ _ ω ω ω};{rw [o p ω,o q ω];exact v _ _ ω g i}
theorem Yn {l l':zA α}{a e b:Nat}(z:a+1<=e)(D:e<=b)(r:Dp d l l' a (a+1) e)(v:oY c d l (a+1) b)(E:∀y,a+1<=y->y<e->c (l.getD y d) (l.getD a d)<0)(F:∀y,e<=y->y<b->¬c (l.getD y d) (l.getD a d)<0)(M:Ō c):oY c d l' a b:=by obtain ⟨t1,-,t2,t3,t4⟩:=F_ (a:=a) (Ù _) (Ww1 _) z D r (.short (Ù _)) v (λx y h o=>ω) λx y s t k m=>by{obtain rfl:x=a:=ω;exact M.Yp _ _ (E y k m)};intro p q g i f;by_cases u:p+1<e;{by_cases j:q+1<e;{exact t2 p q g i ω};{exact t1 p q g ω ω f}};{by_cases j:p<e;{have n:=r.hi p ω j;rw [n,show p+(a+1)-e=a by omega,r.pN.out q ω];exact F q ω f};{exact t4 p q ω i f}}
theorem QL {l l':zA α}{a s m:Nat}(z:a<=s)(D:s<=m)(r:Dp d l l' s m (m+1))(u:oY c d l a m)(E:∀x,s<=x->x<m->c (l.getD m d) (l.getD x d)<0)(F:∀x,a<=x->x<s->¬c (l.getD m d) (l.getD x d)<0)(M:Ō c):oY c d l' a (m+1):=by obtain ⟨t1,t2,-,t4,-⟩:=F_ (b:=m+1) z D (Ww1 _) (Ù _) r u (.short (Ù _)) (λx y _ _ h t=>ω) λx y j k v w=>by{obtain rfl:y=m:=ω;exact M.Yp _ _ (E x j k)};intro p q e f g;by_cases n:p<s;{by_cases i:q<s;{exact t2 p q e f i};{by_cases o:q=s;{subst o;rw [r.lo q (Ù _) ω,r.pN.out p ω,show q+m-q=m by omega];exact F p e n};{exact t1 p q e ω ω g}}};{by_cases i:p=s;{exact t1 p q e ω ω g};{exact t4 p q ω f ω}}
theorem Nh {l y z:zA α}{a m b:Nat}(h:∀p q,a<=p->p<m->m<=q->q<b->¬c (l.getD q d) (l.getD p d)<0)(s1:tG d l y a m)(u:oY c d y a m)(s2:tG d y z m b)(v:oY c d z m b):oY c d z a b:=by intro p q f g j;by_cases n:q<m;{rw [s2.out p ω,s2.out q ω];exact u p q f g n};{by_cases o:p<m;{have ⟨k,r,s,e⟩:=s2.mem q ω j;have ⟨i,i1,i2,t⟩:=s1.mem p f o;rw [e,s1.out k ω,s2.out p ω,t];exact h i k i1 i2 r s};{exact v p q ω g j}}
theorem oY.pN {l m:zA α}{a b x y:Nat}(h:oY c d l x y)(s:tG d l m a b)(o:y<=a\/b<=x):oY c d m x y:=λp q e f g=>by
 rw [s.out p ω,s.out q ω];exact h p q e f g
theorem oY.sub {l:zA α}{a b x y:Nat}(h:oY c d l a b)(u:a<=x)(z:y<=b):oY c d l x y:=λp q f e g=>h p q ω e ω
theorem ZR {l g:zA α}{a k:Nat}(h:Dp d l g a (a+1) (k+1))(hak:a<=k)(u:k+1<l.length:=by omega):Dp d l (Hq d g k (k+1)) a (a+1) (k+2):=by have len:=h.pN.len;have e:=λi=>xK (d:=d) (l:=g) (i:=k) (j:=k+1) (k:=i) ω;refine ⟨(h.pN.wide (Ù _) ω).m (tG.Hq ω ω ω ω),λi b f=>?_,λi b f=>?_⟩;{rw [e,Ã ω];by_cases c:i=k;{rw [Ä c,h.pN.out _ ω];congr 1;omega};{rw [Ã c];exact h.lo i b ω}};{rw [e,Ä ω,h.hi k ω ω];congr 1;omega}
theorem TG {l g:zA α}{k m:Nat}(h:Dp d l g k m (m+1))(u:0<k)(y:k<=m)(hm:m<l.length:=by omega):Dp d l (Hq d g k (k-1)) (k-1) m (m+1):=by have len:=h.pN.len;have e:=λi=>xK (d:=d) (l:=g) (i:=k) (j:=k-1) (k:=i) ω;refine ⟨(h.pN.wide ω (Ù _)).m (tG.Hq ω ω ω ω),λi c a=>?_,λi c a=>?_⟩;{rw [e,Ä ω,h.lo k ω ω];congr 1;omega};{rw [e,Ã ω];by_cases b:i=k;{rw [Ä b,h.pN.out _ ω];congr 1;omega};{rw [Ã b];exact h.hi i ω a}}
theorem oY.le {l:zA α}{a b:Nat}(h:oY c d l a b)(u:Ō c){x y:Nat}(z:a<=x)(E:x<=y)(D:y<b):¬c (l.getD y d) (l.getD x d)<0:=by by_cases e:x=y;{subst e;exact u.refl _};{exact h x y z ω D}
def Uj (c:α->α->Int)(d:α)(l:List α)(B q:Nat):Prop:=∀p,p<q->oY c d l (p*B) ((p+1)*B)
def Blk (c:α->α->Int)(d:α)(l:List α)(B n:Nat):Prop:=∀p,oY c d l (p*B) (min ((p+1)*B) n)
theorem Uj.pN {l m:zA α}{B q e:Nat}(h:Uj c d l B q)(s:tG d l m (q*B) e):Uj c d m B q:=λp a=>(h p a).pN s (.inl (Ā B a))
theorem Uj.snoc {l m:zA α}{B q e:Nat}(h:Uj c d l B q)(s:tG d l m (q*B) e)(a:oY c d m (q*B) (q*B+B)):Uj c d m B (q+1):=λp b=>by
 by_cases e:p=q
 ·subst e;rw [đ,Ŋ];exact a
 ·exact h.pN s p ω
theorem Uj.aW {l m:zA α}{B q n:Nat}(h:Uj c d l B q)(s:tG d l m (q*B) n)(a:oY c d m (q*B) n)(u:n<=q*B+B):Blk c d m B n:=λp=>by
 rcases Nat.lt_trichotomy p q with g|rfl|g
 ·exact (h.pN s p g).sub (Ù _) (Wj0 _ _)
 ·exact a.sub (Ù _) (Nat.min_le_right _ _)
 ·have:=Ā B g;rw [Ş] at this;exact .short ω
end
end Go.Proofs.Tryz
namespace Go.Proofs.Tryz
open Go.Eng Go.Big
variable{c lb n:Nat}{vs:List Value}{V:Ó}{v:Sp}
theorem oC {V:ut}{l:zA (L3×Sp)}(hw:V.w.heap[lb]?=some (.cells vs.toArray 99 (0,0)))(E:V.X lb)(h:uE V n vs l){a b k:Nat}(hab:a+k<=b)(M:b+k<=l.length:=by omega):À 320 #[dB (some ⟨lb,0,none⟩) n c,Ô .i64 a,Ô .i64 b,Ô .i64 k,.func (.func 167) #[] #[]] V λr W=>r=æ #[]/\∃F l',W.w.heap[lb]?=some (.cells F.toArray 99 (0,0))/\uE W n F l'/\Un fV l l' a b k:=by have kj:=h.kj;have len:=h.len;refine j7 lb n c vs a b k V _ hw E ⟨λz V'=>∃(i:Nat)(m:zA (L3×Sp)),z.1=(i:Int)/\i<=k/\uE V' n z.2 m/\Un fV l m a b i,λz=>(k-z.1).toNat,⟨(0,vs),σ,0,l,rfl,á _,h,.nil⟩,?_⟩;rintro ⟨z,us⟩ x y ⟨i,m,e,A,f,E⟩;dsimp only at e f;subst e;dsimp only;have B:=E.pN.len;refine ⟨rfl,λd=>?_,λd C D g=>⟨rfl,us,m,g,ra,?_⟩⟩;{have d:(i:Int)<k:=Á d;have o:i64.wrap ((a:Int)+i)=((a+i:Nat):Int):=by{rw [ao ω];omega};have p:i64.wrap ((b:Int)+i)=((b+i:Nat):Int):=by{rw [ao ω];omega};have q:i64.wrap ((i:Int)+1)=((i+1:Nat):Int):=by{rw [ao ω];omega};rw [o,p,q,Ü,Ü];have ⟨_,_,_,_,_,_,_,_,_,_,_,_,_,_,_,_,_,s,t⟩:=f.get (k:=b+i) ω;have ⟨_,_,_,_,_,_,_,_,_,_,_,_,_,_,_,_,_,u,v⟩:=f.get (k:=a+i) ω;obtain ⟨s1,s2,s3⟩:=f.swap (i:=a+i) (j:=b+i) ω ω v t;exact ⟨⟨ω,ω⟩,_,_,_,_,_,_,_,_,_,_,_,_,_,_,_,_,_,s,⟨ω,ω⟩,_,_,_,_,_,_,_,_,_,_,_,_,_,_,_,_,_,u,⟨ω,ω⟩,s1,⟨ω,ω⟩,s2,(((i+1:Nat):Int),_),ω,σ,i+1,_,rfl,ω,s3,E.snoc ω ω⟩};{have d:¬(i:Int)<k:=Â d;obtain rfl:i=k:=ω;exact E}
theorem O4 {V:ut}{l:zA (L3×Sp)}(hw:V.w.heap[lb]?=some (.cells vs.toArray 99 (0,0)))(hx:V.X lb)(h:uE V n vs l){a m b:Nat}(ham:a<m)(hmb:m<b)(hb:b<=l.length:=by omega):À 303 #[dB (some ⟨lb,0,none⟩) n c,Ô .i64 a,Ô .i64 m,Ô .i64 b,.func (.func 167) #[] #[]] V λr W=>r=æ #[]/\∃vs' l',W.w.heap[lb]?=some (.cells vs'.toArray 99 (0,0))/\uE W n vs' l'/\Dp fV l l' a m b:=by
 have kj:=h.kj;have len:=h.len;have L:i64.wrap ((m:Int)-a)=((m-a:Nat):Int):=by rw [ao ω];omega
 have M:i64.wrap ((b:Int)-m)=((b-m:Nat):Int):=by rw [ao ω];omega
 refine l_ lb n c vs a m b V _ hw hx ⟨λz V'=>∃(i j:Nat)(g:zA (L3×Sp)),z.1=(i:Int)/\z.2.1=(j:Int)/\0<i/\0<j/\a+i<=m/\m+j<=b/\uE V' n z.2.2 g/\g.length=l.length/\∀l',Dp fV g l' (m-i) m (m+j)->Dp fV l l' a m b,λz=>(z.1+z.2.1).toNat,
  ⟨(_,_,vs),σ,m-a,b-m,l,L,M,ω,ω,ω,ω,h,rfl,λl' h=>by rwa [show m-(m-a)=a by omega,show m+(b-m)=b by omega] at h⟩,?_⟩
 rintro ⟨T,U,us⟩ W Y ⟨i,j,g,G,H,N,O,y,A,x,I,B⟩;dsimp only at G H x;subst G H;dsimp only;have P:i64.wrap ((m:Int)-i)=((m-i:Nat):Int):=by rw [ao ω];omega
 have Q:i64.wrap ((m:Int)+j)=((m+j:Nat):Int):=by rw [ao ω];omega
 have R:i64.wrap (((m+j:Nat):Int)-i)=((m+j-i:Nat):Int):=by rw [ao ω];omega
 rw [P,Q,R];refine ⟨rfl,λC=>⟨λf V2 q s t u=>?_,λf V2 q s t u=>?_⟩,λheq V2 q s t u=>?_⟩
 ·have f:(i:Int)>j:=Á f;have D:i64.wrap ((i:Int)-j)=((i-j:Nat):Int):=by rw [ao ω];omega
  refine (oC (V:=V2.ar [s]) t ⟨ψ,u⟩ (x.le λb o h=>q b o h) (a:=m-i) (b:=m) (k:=j) ω).s λr J K ⟨rfl,ws,k,v,p,d⟩=>⟨rfl,ws,v,(((i-j:Nat):Int),(j:Int),ws),by dsimp only;omega,by and_intros<;>first|rfl|exact D,i-j,j,k,rfl,rfl,ω,O,ω,A,p.le λb o h=>h,d.pN.len.m I,λl' h=>B l' (ZP ω ω d h)⟩
 ·have f:¬(i:Int)>j:=Â f;have E:i≠j:=λe=>by subst e;simp at C
  have D:i64.wrap ((j:Int)-i)=((j-i:Nat):Int):=by rw [ao ω];omega
  refine (oC (V:=V2.ar [s]) t ⟨ψ,u⟩ (x.le λb o h=>q b o h) (a:=m-i) (b:=m+j-i) (k:=i) ω).s λr J K ⟨rfl,ws,k,v,p,d⟩=>⟨rfl,ws,v,((i:Int),((j-i:Nat):Int),ws),by dsimp only;omega,by and_intros<;>first|rfl|exact D,i,j-i,k,rfl,rfl,N,ω,y,ω,p.le λb o h=>h,d.pN.len.m I,λl' h=>B l' (ZQ ω ω d h)⟩
 ·have E:(i:Int)=j:=by{simpa using heq};obtain rfl:i=j:=ω;refine (oC (V:=V2.ar [s]) t ⟨ψ,u⟩ (x.le λb o h=>q b o h) (a:=m-i) (b:=m) (k:=i) ω).s λr J K ⟨rfl,ws,k,v,p,d⟩=>⟨rfl,ws,v,λZ S F=>⟨rfl,ws,k,F,p.le λb o h=>S b o h,B k (ZO ω d)⟩⟩
theorem GH {x y:Nat}(h:x+y<2^62:=by omega):i64.wrap ((u64.wrap (i64.wrap ((x:Int)+y))).fdiv (2^1))=(((x+y)/2:Nat):Int):=by have e:(x:Int)+y=((x+y:Nat):Int):=ω;rw [e,ao (x:=((x+y:Nat):Int)) ω,br ω,jH,ao ω]
set_option maxHeartbeats 4000000 in
theorem mj:∀(N:Nat) {V:ut} {lb n c:Nat} {vs:zA un} {l:zA (L3×Sp)},V.w.heap[lb]?=some (.cells vs.toArray 99 (0,0))->V.X lb->uE V n vs l->∀{a m b:Nat},b<=a+N->a<m->m<b->b<=l.length->oY tI fV l a m->oY tI fV l m b ->À 283 #[dB (some ⟨lb,0,none⟩) n c,Ô .i64 a,Ô .i64 m,Ô .i64 b,.func (.func 167) #[] #[]] V λr W=>r=æ #[]/\K1 lb n l a b W λl'=>oY tI fV l' a b
 | 0,_,_,_,_,_,_,_,_,_,a,m,b,h1,h2,h3,_,_,_=>ω
 | N+1,V,lb,n,c,vs,l,hw,hx,h,a,m,b,hN,ham,hmb,hb,ua,ub=>by
  have kj:=h.kj;have len:=h.len;have f:=Td;have a5:i64.wrap ((m:Int)-a)=((m-a:Nat):Int):=by rw [ao ω];omega
  have a6:i64.wrap ((b:Int)-m)=((b-m:Nat):Int):=by rw [ao ω];omega
  have Q:i64.wrap ((u64.wrap (i64.wrap ((a:Int)+b))).fdiv (2^1))=(((a+b)/2:Nat):Int):=GH;have hM:a<(a+b)/2/\(a+b)/2<b/\a+b<2*((a+b)/2)+2/\2*((a+b)/2)<a+b+1:=ω
  generalize (a+b)/2=mid at *;have wn:i64.wrap ((mid:Int)+m)=((mid+m:Nat):Int):=by rw [ao ω];omega
  have wp:i64.wrap (((mid+m:Nat):Int)-1)=((mid+m-1:Nat):Int):=by rw [ao ω];omega
  refine kG lb n c vs a m b V _ hw hx ?_;rw [a5,a6,Q,wn,wp];refine ⟨λc1=>?_,λc1=>⟨λc2=>?_,λc2=>⟨φ,?_⟩⟩⟩
  ·
   obtain rfl:m=a+1:=by have:=Ê c1;omega
   refine ⟨λz V'=>∃i j:Nat,z.1=(i:Int)/\z.2=(j:Int)/\a+1<=i/\i<=j/\j<=b/\(∀y,a+1<=y->y<i->tI (l.getD y fV) (l.getD a fV)<0)/\∀y,j<=y->y<b->¬tI (l.getD y fV) (l.getD a fV)<0,λz=>(z.2-z.1).toNat,
    ⟨(_,_),σ,a+1,b,rfl,rfl,Ù _,ω,Ù _,λy h1 h2=>ω,λy h1 h2=>ω⟩,?_⟩
   rintro ⟨R,z2⟩ V1 l1 ⟨i,j,u,F,H,S,I,J,v⟩;dsimp only at u F;subst u F;dsimp only;refine ⟨rfl,λd=>⟨φ,?_⟩,λd=>?_⟩
   ·have d:(i:Int)<j:=Á d;rw [GH];have hH:i<=(i+j)/2/\(i+j)/2<j:=ω
    generalize (i+j)/2=k at *;have T:i64.wrap ((k:Int)+1)=((k+1:Nat):Int):=by rw [ao ω];omega
    rw [T,Ü,Ü];have ⟨_,_,_,_,_,_,_,_,_,_,_,_,_,_,_,_,_,A,M⟩:=h.get (k:=k) ω;have ⟨_,_,_,_,_,_,_,_,_,_,_,_,_,_,_,_,_,t,O⟩:=h.get (k:=a) ω;refine ⟨⟨ω,ω⟩,_,_,_,_,_,_,_,_,_,_,_,_,_,_,_,_,_,A,⟨ω,ω⟩,_,_,_,_,_,_,_,_,_,_,_,_,_,_,_,_,_,t,λV2 l2=>(nZ ra ra).s ?_⟩;rintro r V3 l3 rfl;refine ⟨_,rfl,λp=>⟨(((k+1:Nat):Int),(j:Int)),ω,σ,k+1,j,rfl,rfl,ω,ω,I,λy h1 h2=>?_,v⟩,λp=>⟨((i:Int),(k:Int)),ω,σ,i,k,rfl,rfl,H,ω,ω,J,λy h1 h2=>?_⟩⟩
    ·have p:=Á p;exact Qj0 λg=>f.tr _ _ _ (ub.le f h1 (show y<=k by omega) ω) g p
    ·exact f.tr _ _ _ (ub.le f ω h1 h2) (Â p)
   ·have d:¬(i:Int)<j:=Â d;obtain rfl:i=j:=ω
    have w4:i64.wrap ((i:Int)-1)=((i-1:Nat):Int):=by rw [ao ω];omega
    rw [w4];refine ⟨λz V'=>∃(k:Nat)(g:zA (L3×Sp)),z.1=(k:Int)/\a<=k/\k+1<=i/\uE V' n z.2 g/\Dp fV l g a (a+1) (k+1),λz=>(i-z.1).toNat,⟨((a:Int),vs),σ,a,l,rfl,Ù _,H,ra,.nil2⟩,?_⟩;rintro ⟨R,us⟩ V4 l4 ⟨k,g,u,a7,b1,E,C⟩;dsimp only at u E;subst u;dsimp only;have gl:=C.pN.len;refine ⟨rfl,λd=>?_,λd V5 l5 P=>⟨rfl,us,g,P,ra,C.pN.wide (Ù _) ω,?_⟩⟩
    ·have d:(k:Int)<((i-1:Nat):Int):=Á d;have U:i64.wrap ((k:Int)+1)=((k+1:Nat):Int):=by rw [ao ω];omega
     rw [U,Ü,Ü];have ⟨_,_,_,_,_,_,_,_,_,_,_,_,_,_,_,_,_,A,M⟩:=E.get (k:=k+1) ω;have ⟨_,_,_,_,_,_,_,_,_,_,_,_,_,_,_,_,_,t,O⟩:=E.get (k:=k) ω;obtain ⟨s1,s2,s3⟩:=E.swap (i:=k) (j:=k+1) ω ω O M;exact ⟨⟨ω,ω⟩,_,_,_,_,_,_,_,_,_,_,_,_,_,_,_,_,_,A,⟨ω,ω⟩,_,_,_,_,_,_,_,_,_,_,_,_,_,_,_,_,_,t,⟨ω,ω⟩,s1,⟨ω,ω⟩,s2,(((k+1:Nat):Int),_),ω,σ,k+1,_,rfl,ω,ω,s3,ZR C a7⟩
    ·have d:¬(k:Int)<((i-1:Nat):Int):=Â d;obtain rfl:i=k+1:=ω
     exact Yn H I C ub J v f
  ·
   obtain rfl:b=m+1:=by have:=Ê c2;omega
   refine ⟨λz V'=>∃i j:Nat,z.1=(i:Int)/\z.2=(j:Int)/\a<=i/\i<=j/\j<=m/\(∀x,a<=x->x<i->¬tI (l.getD m fV) (l.getD x fV)<0)/\∀x,j<=x->x<m->tI (l.getD m fV) (l.getD x fV)<0,λz=>(z.2-z.1).toNat,
    ⟨(_,_),σ,a,m,rfl,rfl,Ù _,ω,Ù _,λy h1 h2=>ω,λy h1 h2=>ω⟩,?_⟩
   rintro ⟨R,z2⟩ V1 l1 ⟨i,j,u,F,H,S,I,J,v⟩;dsimp only at u F;subst u F;dsimp only;refine ⟨rfl,λd=>⟨φ,?_⟩,λd=>?_⟩
   ·have d:(i:Int)<j:=Á d;rw [GH];have hH:i<=(i+j)/2/\(i+j)/2<j:=ω
    generalize (i+j)/2=k at *;have T:i64.wrap ((k:Int)+1)=((k+1:Nat):Int):=by rw [ao ω];omega
    rw [T,Ü,Ü];have ⟨_,_,_,_,_,_,_,_,_,_,_,_,_,_,_,_,_,A,M⟩:=h.get (k:=m) ω;have ⟨_,_,_,_,_,_,_,_,_,_,_,_,_,_,_,_,_,t,O⟩:=h.get (k:=k) ω;refine ⟨⟨ω,ω⟩,_,_,_,_,_,_,_,_,_,_,_,_,_,_,_,_,_,A,⟨ω,ω⟩,_,_,_,_,_,_,_,_,_,_,_,_,_,_,_,_,_,t,λV2 l2=>(nZ ra ra).s ?_⟩;rintro r V3 l3 rfl;refine ⟨_,rfl,λp=>⟨(((k+1:Nat):Int),(j:Int)),ω,σ,k+1,j,rfl,rfl,ω,ω,I,λx h1 h2=>?_,v⟩,λp=>⟨((i:Int),(k:Int)),ω,σ,i,k,rfl,rfl,H,ω,ω,J,λx h1 h2=>?_⟩⟩
    ·have p:¬tI (l.getD m fV) (l.getD k fV)<0:=Â (by simpa using p);exact f.tr _ _ _ p (ua.le f h1 (show x<=k by omega) ω)
    ·have p:tI (l.getD m fV) (l.getD k fV)<0:=Á (by simpa using p);exact Qj0 λg=>f.tr _ _ _ g (ua.le f ω h1 h2) p
   ·have d:¬(i:Int)<j:=Â d;obtain rfl:i=j:=ω
    refine ⟨λz V'=>∃(k:Nat)(g:zA (L3×Sp)),z.1=(k:Int)/\i<=k/\k<=m/\uE V' n z.2 g/\Dp fV l g k m (m+1),λz=>z.1.toNat,⟨((m:Int),vs),σ,m,l,rfl,I,Ù _,h.le l1,.nil1⟩,?_⟩;rintro ⟨R,us⟩ V4 l4 ⟨k,g,u,b2,a8,E,C⟩;dsimp only at u E;subst u;dsimp only;have gl:=C.pN.len;refine ⟨rfl,λd=>?_,λd V5 l5 P=>⟨rfl,us,g,P,ra,C.pN.wide ω (Ù _),?_⟩⟩
    ·have d:(k:Int)>(i:Int):=Á d;have U:i64.wrap ((k:Int)-1)=((k-1:Nat):Int):=by rw [ao ω];omega
     rw [U,Ü,Ü];have ⟨_,_,_,_,_,_,_,_,_,_,_,_,_,_,_,_,_,A,M⟩:=E.get (k:=k-1) ω;have ⟨_,_,_,_,_,_,_,_,_,_,_,_,_,_,_,_,_,t,O⟩:=E.get (k:=k) ω;obtain ⟨s1,s2,s3⟩:=E.swap (i:=k) (j:=k-1) ω ω O M;exact ⟨⟨ω,ω⟩,_,_,_,_,_,_,_,_,_,_,_,_,_,_,_,_,_,A,⟨ω,ω⟩,_,_,_,_,_,_,_,_,_,_,_,_,_,_,_,_,_,t,⟨ω,ω⟩,s1,⟨ω,ω⟩,s2,(((k-1:Nat):Int),_),ω,σ,k-1,_,rfl,ω,ω,s3,TG C ω a8⟩
    ·have d:¬(k:Int)>(i:Int):=Â d;obtain rfl:i=k:=ω
     exact QL H I C ua v J f
  refine ⟨λz V'=>∃s r:Nat,z.1=(s:Int)/\z.2=(r:Int)/\a<=s/\s<=r/\r<=m/\r<=mid/\mid+m<=s+b/\(s=a\/s+b=mid+m)/\(r=m\/r=mid),⟨λB=>⟨(((mid+m-b:Nat):Int),(mid:Int)),?_,mid+m-b,mid,rfl,rfl,?_⟩,λB=>⟨((a:Int),(m:Int)),σ,a,m,rfl,rfl,?_⟩⟩,?_⟩
  ·have B:(m:Int)>mid:=Á B;have w:i64.wrap (((mid+m:Nat):Int)-b)=((mid+m-b:Nat):Int):=by rw [ao ω];omega
   and_intros<;>first|rfl|exact w
  ·have B:(m:Int)>mid:=Á B;omega
  ·have B:¬(m:Int)>mid:=Â B;omega
  rintro ⟨R,z2⟩ fg dy ⟨s0,r0,u,F,b3,a9,b4,rd0,b5,sa,ra⟩;dsimp only at u F;subst u F;dsimp only
  refine ⟨rfl,λz V'=>∃i j:Nat,z.1=(i:Int)/\z.2=(j:Int)/\s0<=i/\i<=j/\j<=r0/\(∀x,s0<=x->x<i->¬tI (l.getD (mid+m-1-x) fV) (l.getD x fV)<0)/\∀x,j<=x->x<r0->tI (l.getD (mid+m-1-x) fV) (l.getD x fV)<0,λz=>(z.2-z.1).toNat,
   ⟨(_,_),σ,s0,r0,rfl,rfl,Ù _,a9,Ù _,λy h1 h2=>ω,λy h1 h2=>ω⟩,?_⟩
  rintro ⟨R,z2⟩ gT dX ⟨i,j,u,F,H,S,I,J,v⟩;dsimp only at u F;subst u F;dsimp only;have VE:=dy.m dX;refine ⟨rfl,λd=>⟨φ,?_⟩,λd=>?_⟩
  ·have d:(i:Int)<j:=Á d;rw [GH];have hH:i<=(i+j)/2/\(i+j)/2<j:=ω
   generalize (i+j)/2=k at *;have T:i64.wrap ((k:Int)+1)=((k+1:Nat):Int):=by rw [ao ω];omega
   have w4:i64.wrap (((mid+m-1:Nat):Int)-k)=((mid+m-1-k:Nat):Int):=by rw [ao ω];omega
   rw [T,w4,Ü,Ü];have ⟨_,_,_,_,_,_,_,_,_,_,_,_,_,_,_,_,_,A,M⟩:=h.get (k:=mid+m-1-k) ω;have ⟨_,_,_,_,_,_,_,_,_,_,_,_,_,_,_,_,_,t,O⟩:=h.get (k:=k) ω;refine ⟨⟨ω,ω⟩,_,_,_,_,_,_,_,_,_,_,_,_,_,_,_,_,_,A,⟨ω,ω⟩,_,_,_,_,_,_,_,_,_,_,_,_,_,_,_,_,_,t,λiL dS=>(nZ (M.le au) (O.le au)).s ?_⟩;rintro r lR gj rfl;refine ⟨_,rfl,λp=>⟨(((k+1:Nat):Int),(j:Int)),ω,σ,k+1,j,rfl,rfl,ω,ω,I,λx h1 h2=>?_,v⟩,λp=>⟨((i:Int),(k:Int)),ω,σ,i,k,rfl,rfl,H,ω,ω,J,λx h1 h2=>?_⟩⟩
   ·have p:¬tI (l.getD (mid+m-1-k) fV) (l.getD k fV)<0:=Â (by simpa using p);exact f.tr _ _ _ (ub.le f ω (show mid+m-1-k<=mid+m-1-x by omega) ω) (f.tr _ _ _ p (ua.le f ω (show x<=k by omega) ω))
   ·have p:tI (l.getD (mid+m-1-k) fV) (l.getD k fV)<0:=Á (by simpa using p);exact Qj0 λg=>f.tr _ _ _ (ub.le f ω (show mid+m-1-x<=mid+m-1-k by omega) ω) (f.tr _ _ _ g (ua.le f ω h1 ω)) p
  have d:¬(i:Int)<j:=Â d;obtain rfl:i=j:=ω
  have U:i64.wrap (((mid+m:Nat):Int)-i)=((mid+m-i:Nat):Int):=by rw [ao ω];omega
  rw [U];obtain ⟨e,he⟩:∃e,e=mid+m-i:=⟨_,rfl⟩;rw [<-he]
  have hA:∀x y,a<=x->x<i->e<=y->y<b->¬tI (l.getD y fV) (l.getD x fV)<0:=λx y h1 h2 h3 h4=>by
   have q:=J (i-1) ω ω;rw [show mid+m-1-(i-1)=e by omega] at q;exact f.tr _ _ _ (ub.le f ω h3 h4) (f.tr _ _ _ q (ua.le f h1 (show x<=i-1 by omega) ω))
  have hB:∀x y,i<=x->x<m->m<=y->y<e->¬tI (l.getD x fV) (l.getD y fV)<0:=λx y h1 h2 h3 h4=>by
   have q:=f.Yp _ _ (v i (Ù _) ω);rw [show mid+m-1-i=e-1 by omega] at q;exact f.tr _ _ _ (ua.le f ω h1 h2) (f.tr _ _ _ q (ub.le f h3 (show y<=e-1 by omega) ω))
  refine ⟨λz V'=>z=decide (i<m/\m<e),⟨λg=>⟨_,σ,?_⟩,λg=>⟨_,σ,?_⟩⟩,?_⟩
  ·have g:(i:Int)<m:=Á g;exact É.2 ⟨λh=>⟨ω,ω⟩,λh=>ω⟩
  ·have g:¬(i:Int)<m:=Â g;exact (È λh=>ω).symm
  rintro z lS gC rfl;have K:=VE.m gC;refine ⟨rfl,λus V'=>∃g,uE V' n us g/\Dp fV l g i m e,⟨λg kH fy W Y h3=>?_,λg=>⟨_,σ,l,h.le K,?_⟩⟩,?_⟩
  ·have g:=Á g;refine (O4 (V:=kH.ar [W]) Y ⟨ψ,h3⟩ (h.le λb o h=>fy b o (K b o h)) g.1 g.2).s λr lT ij ⟨rfl,ws,k,Z,G,b0⟩=>⟨rfl,ws,Z,ws,σ,k,G.le λb o h=>h,b0⟩
  ·have g:=Â g;rcases Ē i m with A|A
   ·obtain rfl:m=e:=ω
    exact .nil2
   ·obtain rfl:i=m:=ω
    exact .nil1
  rintro us mZ hU ⟨g,E,C⟩;have gl:=C.pN.len;have ⟨t1,t2,t3,t4,t5⟩:=F_ (a:=a) (b:=b) ω ω ω ω C ua ub hA hB;refine ⟨rfl,λz V'=>z=decide (a<i/\i<mid),⟨λg=>⟨_,σ,?_⟩,λg=>⟨_,σ,?_⟩⟩,?_⟩
  ·have g:(a:Int)<i:=Á g;exact É.2 ⟨λh=>⟨ω,ω⟩,λh=>ω⟩
  ·have g:¬(a:Int)<i:=Â g;exact (È λh=>ω).symm
  rintro z pS jN rfl;refine ⟨rfl,λws V'=>∃t,uE V' n ws t/\tG fV g t a mid/\oY tI fV t a mid,⟨λq sC kt W Y h3=>?_,λq=>⟨_,σ,g,E.le jN,.refl _ _ _,?_⟩⟩,?_⟩
  ·have q:=Á q;refine (mj N (V:=sC.ar [W]) Y ⟨ψ,h3⟩ (E.le λb o h=>kt b o (jN b o h)) ω q.1 q.2 ω t2 λx y h1 h2 h3=>t3 x y h1 h2 ω).s λr sE qB ⟨rfl,ws,k,Z,G,sg,asc⟩=>⟨rfl,ws,Z,ws,σ,k,G.le λb o h=>h,sg,asc⟩
  ·have q:=Â q;rcases Ē a i with A|A
   ·obtain rfl:i=mid:=ω
    exact t2
   ·obtain rfl:a=i:=ω
    exact λx y h1 h2 h3=>t3 x y h1 h2 ω
  rintro ws sN nH ⟨t,a0,D,L⟩;have b6:=D.len;refine ⟨rfl,λz V'=>z=decide (mid<e/\e<b),⟨λg=>⟨_,σ,?_⟩,λg=>⟨_,σ,?_⟩⟩,?_⟩
  ·have g:(mid:Int)<e:=Á g;exact É.2 ⟨λh=>⟨ω,ω⟩,λh=>ω⟩
  ·have g:¬(mid:Int)<e:=Â g;exact (È λh=>ω).symm
  have a1:oY tI fV t mid e:=oY.pN (λx y h1 h2 h3=>t4 x y ω h2 h3) D (.inr (Ù _));have a2:oY tI fV t e b:=t5.pN D (.inr ω);have cr:∀x y,a<=x->x<mid->mid<=y->y<b->¬tI (g.getD y fV) (g.getD x fV)<0:=λx y h1 h2 h3 h4=>t1 x y h1 ω ω h4;have sl:tG fV l t a b:=(C.pN.wide ω ω).m (D.wide (Ù _) ω);rintro z uF pk rfl;refine ⟨rfl,λq Dx pM W Y h3=>?_,λq Dx pM a3=>⟨rfl,ws,t,a3,a0.le au,sl,?_⟩⟩
  ·have q:=Á q;refine (mj N (V:=Dx.ar [W]) Y ⟨ψ,h3⟩ (a0.le λb o h=>pM b o (pk b o h)) ω q.1 q.2 ω a1 a2).s λr HZ Bz ⟨rfl,xs,k,Z,G,sg,asc⟩=>⟨rfl,xs,Z,λNb Jl a4=>⟨rfl,xs,k,a4,G.le λb o h=>Jl b o h,sl.m (sg.wide ω (Ù _)),Nh cr D L sg asc⟩⟩
  ·have q:=Â q;refine Nh cr D L (.refl _ _ _) ?_;rcases Ē mid e with A|A
   ·obtain rfl:e=b:=ω
    exact a1
   ·obtain rfl:mid=e:=ω
    exact a2
set_option maxHeartbeats 1000000 in
theorem O5 {V:ut}{l:zA (L3×Sp)}(hw:V.w.heap[lb]?=some (.cells vs.toArray 99 (0,0)))(hx:V.X lb)(h:uE V n vs l):À 231 #[dB (some ⟨lb,0,none⟩) n c,Ô .i64 n,.func (.func 167) #[] #[]] V λr W=>r=æ #[]/\K1 lb n l 0 n W λl'=>oY tI fV l' 0 n:=by
 have len:=h.len;have kj:=h.kj;refine ma lb n c vs n V _ hw hx ⟨λz V'=>∃(q:Nat)(g:zA (L3×Sp)),z.1=((q*20:Nat):Int)/\z.2.1=((q*20+20:Nat):Int)/\q*20<=n/\uE V' n z.2.2 g/\tG fV l g 0 n/\Uj tI fV g 20 q,λz=>n-z.1.toNat,⟨(0,20,vs),σ,0,l,rfl,rfl,á _,h,.refl _ _ _,λp D=>ω⟩,?_⟩;rintro ⟨z1,z2,us⟩ V1 l1 ⟨q,g,H,I,Y,Z,J,fr⟩;subst H I;dsimp only;have gl:=J.len;refine ⟨rfl,λd V2 K t L M=>?_,λd V2 K t L M=>?_⟩
 ·have d:=Á d;have w:i64.wrap (((q*20+20:Nat):Int)+20)=(((q+1)*20+20:Nat):Int):=by{rw [ao ω];omega};refine (nk (V:=V2.ar [t]) L ⟨ψ,M⟩ (Z.le λb o h=>K b o h) (a:=q*20) (b:=q*20+20) ω).s λr V3 l3 ⟨rfl,ws,k,N,u,f,asc⟩=>⟨rfl,ws,N,(((q*20+20:Nat):Int),_,ws),ω,σ,q+1,k,ω,w,ω,u.le λb o h=>h,J.m (f.wide ω ω),fr.snoc f asc⟩
 have d:=Â d;refine (nk (V:=V2.ar [t]) L ⟨ψ,M⟩ (Z.le λb o h=>K b o h) (a:=q*20) (b:=n) Y).s ?_;rintro r V3 l3 ⟨rfl,ws,k,N,u,f,asc⟩;refine ⟨rfl,ws,N,λz V'=>∃(B:Nat)(g:zA (L3×Sp)),z.1=(B:Int)/\0<B/\B<=20000/\uE V' n z.2 g/\tG fV l g 0 n/\Blk tI fV g B n,λz=>n-z.1.toNat,⟨(20,ws),σ,20,k,rfl,ω,ω,u.le λb o h=>h,J.m (f.wide ω ω),fr.aW f asc ω⟩,?_⟩;rintro ⟨z,xs⟩ V6 l6 ⟨B,g2,e,B0,Bn,O,E,s⟩;subst e;refine ⟨rfl,λd=>?_,λd gT dX Vx=>⟨rfl,xs,g2,Vx,ra,E,?_⟩⟩;rotate_left
 ·have d:=Â d;have:=s 0;grind
 have d:=Á d;have w1:i64.wrap (2*(B:Int))=((2*B:Nat):Int):=by rw [ao ω];omega
 have w2:i64.wrap ((B:Int)*2)=((2*B:Nat):Int):=by rw [ao ω];omega
 rw [w1,w2]
 refine ⟨λz V'=>∃(q:Nat)(g:zA (L3×Sp)),z.1=((q*(2*B):Nat):Int)/\z.2.1=((q*(2*B)+2*B:Nat):Int)/\q*(2*B)<=n/\uE V' n z.2.2 g/\tG fV l g 0 n/\Uj tI fV g (2*B) q/\∀p,2*q<=p->oY tI fV g (p*B) (min ((p+1)*B) n),λz=>n-z.1.toNat,
  ⟨(0,((2*B:Nat):Int),xs),σ,0,g2,by rw [Ŗ];rfl,by rw [Ŗ,Ĉ],ω,O,E,λp D=>ω,λp _=>s p⟩,?_⟩
 rintro ⟨z1,z2,ys⟩ V7 l7 ⟨q,g3,H,I,Y,v,i,x,rest⟩;subst H I;dsimp only;have a0:=i.len;have G:=rest (2*q) (Ù _);have P:=rest (2*q+1) ω
 have Q:∀p,2*(q+1)<=p->q*(2*B)+2*B<=p*B:=λp D=>by have:=Ā B D;grind
 have q1:(q+1)*(2*B)=q*(2*B)+2*B:=χ
 rw [show 2*q*B=q*(2*B) by grind,show (2*q+1)*B=q*(2*B)+B by grind] at G;rw [show (2*q+1)*B=q*(2*B)+B by grind,show (2*q+1+1)*B=q*(2*B)+2*B by grind] at P;generalize hA:q*(2*B)=A at *;have w3:i64.wrap ((A:Int)+B)=((A+B:Nat):Int):=by rw [ao ω];omega
 rw [w3];refine ⟨rfl,λy R S t T U=>?_,λy=>⟨λhm R S t T U=>?_,λhm=>?_⟩⟩
 ·have y:=Á y;have w4:i64.wrap (((A+2*B:Nat):Int)+((2*B:Nat):Int))=((A+2*B+2*B:Nat):Int):=by rw [ao ω];omega
  refine (mj (2*B) (V:=R.ar [t]) T ⟨ψ,U⟩ (v.le λb o h=>S b o h) (a:=A) (m:=A+B) (b:=A+2*B) ω ω ω ω (G.sub (Ù _) ω) (P.sub (Ù _) ω)).s λr V9 l9 ⟨rfl,us,k,W,C,j,F⟩=>⟨rfl,us,W,(((A+2*B:Nat):Int),((A+2*B+2*B:Nat):Int),us),ω,by and_intros<;>first|rfl|exact w4,q+1,k,by rw [q1],by rw [q1],ω,C.le λb o h=>h,i.m (j.wide ω ω),?_,λp D=>(rest p ω).pN j (.inr (Q p D))⟩<;>grind [x.snoc]
 ·have y:=Â y;have hm:=Á hm;refine (mj (2*B) (V:=R.ar [t]) T ⟨ψ,U⟩ (v.le λb o h=>S b o h) (a:=A) (m:=A+B) (b:=n) ω ω ω ω (G.sub (Ù _) ω) (P.sub (Ù _) ω)).s λr V9 l9 ⟨rfl,us,k,W,C,j,F⟩=>⟨rfl,us,W,(((2*B:Nat):Int),us),ω,σ,2*B,k,rfl,ω,ω,C.le λb o h=>h,i.m (j.wide ω ω),?_⟩<;>grind [x.aW]
 ·have y:=Â y;have hm:=Â hm;refine ⟨(((2*B:Nat):Int),ys),ω,σ,2*B,g3,rfl,ω,ω,v,i,?_⟩;subst hA;exact x.aW (.refl _ _ _) (G.sub (Ù _) ω) ω
theorem Dz {V:ut}{lb n c:Nat}{vs:zA un}{l:zA (L3×Sp)}(hw:V.w.heap[lb]?=some (.cells vs.toArray 99 (0,0)))(E:V.X lb)(h:uE V n vs l):À 166 #[dB (some ⟨lb,0,none⟩) n c,.func (.func 167) #[] #[]] V λr W=>r=æ #[]/\∃D l',W.w.heap[lb]?=some (.cells D.toArray 99 (0,0))/\uE W n D l'/\l'.Perm l/\l'.Pairwise λx y=>¬iq y.1 x.1<0:=by have len:=h.len;refine lQ lb n c vs V _ hw E λf g k p q=>(O5 (V:=f.ar [k]) p ⟨ψ,q⟩ (h.le λb o h=>g b o h)).s λr V2 A ⟨rfl,ws,m,s,t,e,asc⟩=>⟨rfl,ws,s,λB u a=>⟨rfl,ws,m,a,t.le λb o h=>u b o h,e.perm,?_⟩⟩;have sl:=e.len;refine Qm2.2 λi j v z d=>?_;have:=asc i j ω d ω;rw [Ė,Ė,ñ v,ñ z] at this;exact this
theorem uK:À 166 #[dB none 0 0,.func (.func 167) #[] #[]] V λr W=>r=æ #[]:=by refine je V _ λb f=>?_;have st:À 231 #[dB none 0 0,Ô .i64 0,.func (.func 167) #[] #[]] b λr W=>r=æ #[]:=by{refine jK 0 b _ ⟨λz _=>z=(0,20),λ_=>0,⟨(0,20),σ,rfl⟩,?_⟩;rintro z V2 g rfl;refine ⟨rfl,λa=>Å (Á a) φ,λ_ c i=>?_⟩;have ins:À 282 #[dB none 0 0,Ô .i64 0,Ô .i64 0,.func (.func 167) #[] #[]] c λr W=>r=æ #[]:=by{(refine gF 0 0 c _ ⟨λz _=>z=1,λ_=>0,⟨1,by and_intros<;>first|rfl|exact ao ω,rfl⟩,?_⟩;rintro z d e rfl;exact ⟨rfl,λh=>Å (Á h) ω,λ_ j k=>rfl⟩)};refine ins.s ?_;rintro r d e rfl;refine ⟨rfl,λz _=>z=20,λ_=>0,⟨20,σ,rfl⟩,?_⟩<;>grind};grind
theorem Rb {p:OA}{fs:zA (L3×Sp)}(h:bo 17 pH V p n fs)(O:fs.length<=1000000)(N:fs=[]->p=none):À 165 #[dB p n c] V λr V'=>∃(M:Nat)(vs:zA un),(vs≠[]->V'.w.heap[M]?=some (.cells vs.toArray 99 (0,0)))/\(vs≠[]->V.w.heap.size<=M)/\∃e,r=dB (mA M e) fs.length e/\fs.length<=e/\(vs=[]↔e=0)/\(vs≠[]↔fs≠[])/\é 17 pH (V'.bz (vs≠[]) M) vs fs/\V.Le (V'.bz (vs≠[]) M):=by obtain rfl:=h.len;refine wC p _ c V _ ⟨λg C q=>?_,λg=>?_⟩;{have s:p=none:=by{simpa using g};have e:fs=[]:=by{rcases fs with-| ⟨x,r⟩;{rfl};{obtain ⟨D,e,-⟩:=h.at_ 0 (Nat.succ_pos _);rw [s] at e;cases e}};subst e;exact ⟨0,[],λh=>Å rfl h,λh=>Å rfl h,0,rfl,Ù _,⟨λ_=>rfl,λ_=>rfl⟩,⟨λh=>Å rfl h,λh=>Å rfl h⟩,é.nil,Pu q λh=>h rfl⟩};{have b:fs≠[]:=λe=>by{rw [N e] at g;cases g};have i:=Qh2.2 b;have ⟨xs,t,j,k⟩:=cV h φ;refine ⟨xs,t,j,ω,Ù _,Ù _,j,λv u=>?_,λE J sp y l F V2 d z A B=>?_⟩;{obtain ⟨m,hm,rfl⟩:=Qb5.1 u;exact eO k φ (λxs a g=>J0 g) (m:=m) ω (ñ hm)};rw [Ĉ] at l ⊢;have o:V.Le (V2.bz ((([]:zA un).take (0*17)++xs++sp)≠[]) d):=LH z;have f:(([]:zA un).take (0*17)++xs++sp)≠[]:=λe=>χ;exact ⟨d,_,λ_=>A,λ_=>B.elim id False.elim,y,by rw [mA,Ã ω],l,⟨λe=>Å e f,λe=>ω⟩,⟨λ_=>b,λ_=>f⟩,(d_ (vs:=[]) (sp:=sp) é.nil k φ).le λ_ _ g=>zU.le g o,o⟩}
def î (l m:L3):List Sp:=if Ý l m=0 then (if 0<aC m (cg l 0) (cj l 0) then [ã] else []) else if 0<Û m l then [⟨Ø m l,0,false,true⟩] else [⟨0,Ø m l,true,false⟩]
theorem xo (l m:L3):î l m=[]\/∃u,î l m=[u]/\u.can:=by unfold î;split;{grind [gZ.1]};{split;{exact .inr ⟨_,rfl,⟨Ū,λ_=>rfl⟩⟩};{exact .inr ⟨_,rfl,⟨λ_=>rfl,Ū⟩⟩}}
theorem comb_nil (a:zA Sp):Ú 2 a []=[]:=by (cases e:Ú 2 a [] with|nil=>rfl|cons s r=>{exfalso;have d:=comb_reg 2 a [];rw [e] at d;have ⟨g,i,b,c⟩:=R8 (d.1 s (č ..));have ⟨t,t1,t2,t3⟩:=QN (à (a++[])) b;have f:=comb_inB 2 a [] (t:=t) (λh=>t3 t h rfl);rw [e] at f;have j:í (s::r) t=true:=kq.2 ⟨s,č ..,c t t1 t2⟩;have k:í [] t=false:=rfl;have l:Ğ 2 (í a t) false=(í a t&&false):=rfl;grind})
theorem PF (u:v.can):v.meet ã=v:=by obtain ⟨c,d,a,b⟩:=v;unfold Sp.can at u;unfold Sp.meet ã;grind
theorem Pn (u:v.can):ã.meet v=v:=by obtain ⟨c,d,a,b⟩:=v;unfold Sp.meet ã;cases a<;>cases b<;>simp at u⊢<;>simp
theorem BT {u:Sp}(hu:u.good):Ú 2 [ã] [u]=[u]:=by rw [u_ gZ.1 hu.1,Pn hu.1,Ã (by rw [hu.2];exact Š)]
theorem P8 {l m:L3}(y:v.good):Ú 2 [v] (Ú 2 [ã] (î l m))=if cS l v m=true then [bC l v m] else []:=by unfold î;by_cases a:Ý l m=0;{have b:Û m l=0:=by{rw [cross_dot] at a;grind};have d:bC l v m=v:=by{unfold bC;rw [b];rfl};have c:cS l v m=decide ((jB m l).num.sign>0):=by{unfold cS;rw [b];rfl};rw [Ä a,d,c];by_cases g:0<aC m (cg l 0) (cj l 0);{rw [Ä g,BT gZ,u_ y.1 gZ.1,PF y.1,Ã (by rw [y.2];exact Š),Ä (Ç (show (jB m l).num.sign>0 from aV.Oi.2 g))]};{rw [Ã g,comb_nil,comb_nil,Ã (by rw [Ñ];exact λh=>g (aV.Oi.1 h))]}};{have b:Û m l≠0:=λe=>a (by rw [cross_dot,e];grind);have c:cS l v m=!(bC l v m).emp:=by{unfold cS;grind [bW]};have fin:∀{u:Sp},u.good->v.meet u=bC l v m->Ú 2 [v] (Ú 2 [ã] [u])=if cS l v m=true then [bC l v m] else []:=λ{u} hu e=>by{rw [BT hu,u_ y.1 hu.1,e,c];grind};rw [Ã a];rcases bW (Û m l) with ⟨h,e⟩|⟨h,e⟩|⟨h,e⟩;{exact Å h b};{rw [Ä h];refine fin ⟨⟨Ū,λ_=>rfl⟩,Sp.iu.2 (.inr (.inl rfl))⟩ ?_;unfold bC;rw [e];rfl};{rw [Ã χ];refine fin ⟨⟨λ_=>rfl,Ū⟩,Sp.iu.2 (.inl rfl)⟩ ?_;unfold bC;rw [e];rfl}}
def ò (m:L3)(k:Int):L3:=if k=1 then m else Ö m
theorem J4 {q:Rat}{k:Int}(u:k=1\/k=-1):(q.num.sign==k)=decide (0<(if k=1 then q else -q)):=by rcases bW q with ⟨h,e⟩|⟨h,e⟩|⟨h,e⟩<;>rcases u with rfl|rfl<;>rw [e]<;>simp<;>grind
theorem Ka (m:L3)(k:Int)(x y:Rat):aC (ò m k) x y=if k=1 then aC m x y else -aC m x y:=by unfold ò;split;{rfl};{exact val_rev ..}
theorem J_ (m l:L3)(k:Int):Û (ò m k) l=if k=1 then Û m l else -Û m l:=by unfold ò;split;{rfl};{exact dot_rev ..}
theorem side_cross (m l:L3)(k:Int):Ý l (ò m k)=0↔Ý l m=0:=by rw [cross_dot,cross_dot,J_];split<;>grind
theorem TS {m l:L3}(k:Int)(h:Û m l≠0):Ø (ò m k) l=Ø m l:=by unfold ò;split;{rfl};{exact cutP_rev h}
def onP (l m:L3):Bool:=decide (Ý l m=0/\aC m (cg l 0) (cj l 0)=0)
theorem uS {v w:un}{l m:L3}{k:Int}(hk:k=1\/k=-1)(hl:bP V v l)(hm:bP V w m)(nz:Nz l)(bl:Bd l)(bm:Bd m):À 263 #[v,w,Ô .i64 k] V λr W=>∃q n c,r=æ #[dB q n c,Õ (onP l m)]/\bo 8 mb W q n (î l (ò m k)):=by have i:=hl;have j:=hm;obtain ⟨_,_,_,_,_,_,_,_,_,_,_,_,rfl⟩:=bG hl;obtain ⟨_,_,_,_,_,_,_,_,_,_,_,_,rfl⟩:=bG hm;have sl:=bl.e_;have sm:=bm.e_;refine EC V _ λV1 p=>(Mk (bP.le i p) (bP.le j p) sl sm).s ?_;rintro r V2 L ⟨u,rfl,M,N⟩;have ⟨s1,s2⟩:=Hu sl sm;have x:=p.m L;by_cases f:Ý l m=0;{have y:=M f;unfold M9 at y;subst y;refine ⟨_,_,_,_,_,_,_,_,_,_,_,_,_,_,_,rfl,λ_ V3 l3=>(N9 (bP.le i au) nz bl).s ?_,λh=>by simp [f] at h⟩;rintro r V4 l4 z;obtain ⟨_,_,_,_,_,_,_,_,_,_,_,_,rfl,-⟩:=id z;have O:=x.m au;refine qxZ ⟨rfl,λV5 P=>(Cc (bP.le j au) (z.le P) (sm.up (K:=30000) ω) (Hs bl).1 (Hs bl).2).s ?_⟩;rintro r V6 l6 rfl;have Q:=O.m au;have a:((aC m (cg l 0) (cj l 0)).num.sign==(0:Int))=onP l m:=by{unfold onP;rcases bW (aC m (cg l 0) (cj l 0)) with ⟨h,e⟩|⟨h,e⟩|⟨h,e⟩<;>rw [e]<;>simp [f]<;>grind};have b:î l (ò m k)=if ((aC m (cg l 0) (cj l 0)).num.sign==k)=true then [ã] else []:=by{unfold î;rw [Ä ((side_cross m l k).2 f),J4 hk,Ka];by_cases g:0<(if k=1 then aC m (cg l 0) (cj l 0) else -aC m (cg l 0) (cj l 0));{rw [Ä g,Ä (Ç g)]};{rw [Ã g,Ã (by rw [È g];exact Š)]}};refine ⟨_,rfl,λh V7 l7=>uR.s ?_,λh fo R=>⟨_,_,_,by rw [a],?_⟩⟩;{rintro r V8 l8 A;obtain ⟨_,_,_,_,_,_,_,_,_,_,_,_,_,_,rfl,-⟩:=id A;refine ⟨_,_,_,_,_,_,_,_,_,_,_,_,_,_,_,_,rfl,λS T B d=>⟨_,_,_,by rw [a],?_⟩⟩;rw [b,Ä h];exact bo.eN (V:=S) d (row_one rfl (A.le T))};{rw [b,Ã (by rw [h];exact Š)];exact bo.nil}};have C:Û m l≠0:=λh=>f (by rw [cross_dot,h];grind);have D:=N f;obtain ⟨_,_,_,_,_,_,_,_,_,_,_,_,rfl,-⟩:=id D;have a:onP l m=false:=by{unfold onP;rw [È λh=>f h.1]};refine ⟨_,_,_,_,_,_,_,_,_,_,_,_,_,_,_,rfl,λh=>by simp [f] at h,λ_ fg U=>(vF (bP.le i au) (D.le U) nz (sl.up (K:=30000) ω) (s1.s ω) (s2.s ω)).s ?_⟩;rintro r W dX gt;have o:RQ W r (oP l m):=gt;rw [BX nz f] at o;clear gt;obtain ⟨_,_,_,_,_,_,rfl⟩:=o.shape;have st:Sz 70000 (Ø m l):=(kv sl sm).s ω;refine qxW ⟨rfl,λiL X=>(dO 1 ω).s ?_⟩;rintro r lR Y Z;obtain ⟨_,_,_,_,_,_,rfl⟩:=Z.shape;have E:=X.m Y;refine qxW ⟨rfl,λlS F=>(dV ra ra st jA ω).s ?_⟩;rintro r kH G gs;obtain ⟨_,_,_,_,_,_,rfl⟩:=gs.shape;have Zi:=(x.m au).m (E.m (F.m G));have s:Sz 80000 (Ø m l+((1:Int):Rat)):=(st.add jA).s ω;refine qxW ⟨rfl,λlT H=>(PX (bP.le i au) (gs.le H) nz (sl.up (K:=80000) ω) s).s ?_⟩;rintro r mZ hU I;obtain ⟨_,_,_,_,_,_,_,_,_,_,_,_,rfl,-⟩:=id I;have VF:=Zi.m au;refine qxZ ⟨rfl,λpS jN=>(Cc (k:=10000000) (bP.le j au) (I.le jN) (sm.up ω) ((qU (sl.up (K:=80000) ω) s).s ω) ((qV (sl.up (K:=80000) ω) s).s ω)).s ?_⟩;rintro r sC kt rfl;have J:=VF.m au;have ev:aC m (cg l (Ø m l+((1:Int):Rat))) (cj l (Ø m l+((1:Int):Rat)))=Û m l:=by{rw [jY];have hi:=Ŧ _ C;unfold Ø;have e1:((1:Int):Rat)=1:=rfl;rw [e1];grind};rw [ev];have t:=E.m (F.m (G.m (H.m au)));have b:î l (ò m k)=if ((Û m l).num.sign==k)=true then [⟨Ø m l,0,false,true⟩] else [⟨0,Ø m l,true,false⟩]:=by{unfold î;rw [Ã (λh=>f ((side_cross m l k).1 h)),J4 hk,J_,TS k C];by_cases g:0<(if k=1 then Û m l else -Û m l);{rw [Ä g,Ä (Ç g)]};{rw [Ã g,Ã (by rw [È g];exact Š)]}};refine ⟨_,rfl,λh sE qB B d=>⟨_,_,_,by rw [a],?_⟩,λh sN nH B d=>⟨_,_,_,by rw [a],?_⟩⟩;{rw [b,Ä h];exact bo.eN (V:=sE) d (row_one rfl (qxZ ⟨rfl,ra,rq0 _⟩))};{rw [b,Ã (by rw [h];exact Š)];exact bo.eN (V:=sN) d (row_one rfl (qxZ ⟨rfl,rq0 _,o.le au⟩))}
def QD (V:Ó)(v:Value)(p:Rat×Rat):Prop:=RP V v p.1 p.2
theorem QD.le {V V':ut}{v:un}{p:Rat×Rat}(h:QD V v p)(l:V.Le V'):QD V' v p:=RP.le h l
theorem S9 {b:md}{p n c u y z}{d:md}{q m e D E F}:∀v∈([Õ b,dB p n c,dB u y z,Õ d,dB q m e,dB D E F]:zA un),v.oneCell'=true:=by intro v hm;simp only [ê,ę,Ì] at hm;rcases hm with rfl|rfl|rfl|rfl|rfl|rfl<;>rfl
theorem Gl {v:un}{l:L3}{s:Sp}(h:RF V v l s)(hz:Nz l){k:Nat}(sl:iJ k l)(hs:s.sz k)(hk:20*k+20<2^38:=by omega):À 51 #[v] V λr W=>∃p n c,r=dB p n c/\bo 6 QD W p n (RM l s):=by have h0:=h;obtain ⟨t,u,a,b⟩:=s;obtain ⟨_,_,_,_,_,_,_,_,_,_,_,_,_,_,_,_,_,_,_,_,_,_,_,_,_,_,rfl,y,_,_,_,_,_,_,_,_,_,_,_,_,_,_,D,E,z⟩:=h;simp only [Value.agg.injEq,ş,ł,Value.bool.injEq,Value.slice.injEq,Î,Í] at D;obtain ⟨rfl,⟨rfl,rfl,rfl⟩,⟨rfl,rfl,rfl⟩,rfl,⟨rfl,rfl,rfl⟩,⟨rfl,rfl,rfl⟩⟩:=D;dsimp only at E z;unfold RM;dsimp only;refine Ew V _ ⟨λw V1 x=>?_,λw=>⟨λe V7 F=>?_,λe fo N=>?_⟩⟩;{obtain rfl:a=false:=by{simpa using w};refine (PX (y.le x) (E.le x) hz sl hs.1).s ?_;rintro r V2 G g;have H:=g;obtain ⟨_,_,_,_,_,_,_,_,_,_,_,_,_,_,rfl⟩:=gO g;refine qxZ ⟨rfl,[],λi v A=>by simp at A,rfl,Ù _,λ_=>rfl,φ,φ,rfl,S9,λB c9 I O=>⟨λe V3 C=>?_,λe P Q J d=>?_⟩⟩;{obtain rfl:b=false:=by{simpa using e};refine (PX (y.le (x.m (G.m C))) (z.le (x.m (G.m C))) hz sl hs.2).s ?_;rintro r V4 S j;have f:=j;obtain ⟨_,_,_,_,_,_,_,_,_,_,_,_,_,_,rfl⟩:=gO j;refine qxZ ⟨rfl,φ,I,?_,rfl,S9,λK T m U W X Y L K8 d=>⟨_,_,_,rfl,?_⟩⟩;{simp only [Ŏ,ë,Ą,İ];omega};{have o:=(row_one (sz:=6) (R:=QD) (V:=Y) (xs:=[_,_,_,_,_,_]) (a:=(cg l t,cj l t)) rfl (QD.le H (C.m (S.m L))));have Z:=o.snoc (xs:=[_,_,_,_,_,_]) (sp:=m) (a:=(cg l u,cj l u)) rfl (QD.le f L) φ;exact bo.eN d (by simpa using Z)}};{obtain rfl:b=true:=by{simpa using e};refine ⟨_,_,_,rfl,?_⟩;have o:=(é.nil (R:=QD) (V:=P) (vs:=[]) (sz:=6)).snoc (xs:=[_,_,_,_,_,_]) (sp:=B) (a:=(cg l t,cj l t)) rfl (QD.le H Q) φ;exact bo.eN d (by simpa using o)}};{obtain rfl:a=true:=by{simpa using w};obtain rfl:b=false:=by{simpa using e};refine (PX (y.le F) (z.le F) hz sl hs.2).s ?_;rintro r V8 l8 j;have f:=j;obtain ⟨_,_,_,_,_,_,_,_,_,_,_,_,_,_,rfl⟩:=gO j;refine qxZ ⟨rfl,[],λi v A=>by simp at A,rfl,Ù _,λ_=>rfl,φ,φ,rfl,S9,λq a0 I O V9 l9 M d=>⟨_,_,_,rfl,?_⟩⟩;have o:=(é.nil (R:=QD) (V:=V9) (vs:=[]) (sz:=6)).snoc (xs:=[_,_,_,_,_,_]) (sp:=q) (a:=(cg l u,cj l u)) rfl (QD.le f l9) φ;exact bo.eN d (by simpa using o)};{obtain rfl:a=true:=by{simpa using w};obtain rfl:b=true:=by{simpa using e};exact ⟨_,_,_,rfl,bo.nil⟩}
theorem NW {u:Nat}{xs:zA un}{ty:TypeId}{m:Nat×Nat}{s:Sp}(y:V.aW u (.cells xs.toArray ty m))(h:mb V (.agg xs.toArray) s):Na V (some ⟨u,0,none⟩) 1 [s]:=
 rQ (bo.eN y (row_one (by obtain ⟨_,_,_,_,_,_,_,_,_,_,_,_,_,_,e,-⟩:=vN h;rw [e];rfl) h))
end Go.Proofs.Tryz
