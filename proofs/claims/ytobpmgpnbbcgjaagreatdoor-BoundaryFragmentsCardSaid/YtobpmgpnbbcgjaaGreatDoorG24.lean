import Derived.Test.YtobpmgpnbbcgjaaGreatDoorG23
set_option linter.all false
open Go.IntKind (i64 u64 u32)
namespace Go.Proofs.Tryz
open Go.Eng Go.Big
open Go.Value renaming slice→dB,agg→qvK,bool→Õ,pointer→qyQ,int→Ô
variable{V:Ó}{p:OA}{c n:Nat}
def PB (L:List (List (Rat×Rat))):List L3:=(L.flatMap mL).map Prod.fst
abbrev Ul (S:List L3)(d:Nat)(t:Tr):Prop:=KV (λl=>jO l/\l∈S) d (aV.pos []) t
theorem G5:∃x,aV.pos [] x:=⟨(0,0),λ_ h=>nomatch h⟩
theorem Fc {L:zA (zA (Rat×Rat))}(u:∀l∈L,Pg l):(L.flatMap mL).length<=6*L.length:=by
 induction L with
 | nil=>simp
 | cons l L y=>
  have:=y λl h=>u l (Ă _ h);have:=(u l (č ..)).len;have:=nD l;rw [ē,ë,Ą];omega
theorem sW {p2:OA}{n2 c2:Nat}{fill:Int}{L:zA (zA (Rat×Rat))}(h:bo 1 Dw V p n L)(hn:L.length<=2)(hL:∀l∈L,Pg l):À 80 #[qvK #[dB p n c,Ô .i64 fill,dB p2 n2 c2]] V λr W=>∃o t,r=qyQ o/\RW W o t/\Ul (PB L) 12 t:=by obtain rfl:=h.len;have J:Pgs L:=⟨ω,λl u=>⟨by have:=(hL l u).len;omega,λx C=>⟨((hL l u).sm x C).1.s ω,((hL l u).sm x C).2.s ω⟩⟩⟩;refine Di V _ ⟨λz V'=>∃j:Nat,z.2.2.2=(j:Int)/\j<=L.length/\GR 14 iI V' z.1 z.2.1 z.2.2.1 ((L.take j).flatMap mL),λz=>L.length-z.2.2.2.toNat,⟨(0,0,[],0),σ,0,rfl,á _,GR.nil⟩,?_⟩;rintro ⟨K,z2,vs,z4⟩ V1 D ⟨j,E,qA,b⟩;dsimp only at E b;subst E;have zl:=b.len;have el:=Fc (L:=L.take j) λl h=>hL l (Qr2 _ _ h);rw [è] at el;dsimp only;rw [Ü];refine ⟨rfl,λa=>?_,λa V4 M bk N=>?_⟩;{have a:=Á a;have i:j<L.length:=ω;have w:i64.wrap ((j:Int)+1)=((j+1:Nat):Int):=by{rw [ao ω];rfl};rw [w];obtain ⟨O,P,Q,R,v,g⟩:=GQ (h.le D λ_ _ k=>Dw.le k D) i;have k:=hL _ (ó i);have k6:=k.len;refine ⟨O,⟨ω,ω⟩,P,Q,R,v,λV2 l2=>(sU ra k).s ?_⟩;rintro r V3 l3 ⟨S,m2,T,rfl,F⟩;obtain rfl:=F.len;have ej:=nD L[j];have ⟨xs,U,s,G⟩:=cV F φ;refine ⟨S,_,T,rfl,xs,U,s,ω,b.le,b.cap,s,Hg G s,λsp W y A=>⟨(K+_,W,_,((j+1:Nat):Int)),by dsimp only;omega,σ,j+1,rfl,i,?_⟩⟩;have e:(L.take (j+1)).flatMap mL=(L.take j).flatMap mL++mL L[j]:=by{rw [Ĭ,ñ i];show List.flatMap _ (_++[L[j]])=_;rw [ŧ,ē,Wq5,þ]};rw [e];exact (b.s λ_ _ g=>iI.le g au).app G s φ y A};{have a:=Â a;obtain rfl:j=L.length:=ω;rw [ď] at b;obtain rfl:=b.len;have B:∀f∈L.flatMap mL,WW f:=λf d=>by{have ⟨l,y,A⟩:=ĕ.1 d;exact (hL l y).Xf f A};refine (II (q:=λl=>jO l/\l∈PB L) 12 (c:=[]) ω (bo.bq N (b.row.le λ_ _ g=>iI.le g M) φ b.le) B (λf d=>⟨⟨(B f d).ok,(B f d).bd⟩,ă.2 ⟨f,d,rfl⟩⟩) (bo.nil (p:=none)) (λm h=>nomatch h) φ ra J).s ?_;rintro r V5 l5 ⟨o,t,rfl,w,H,X⟩;refine ⟨o,rfl,λV6 Y=>(kX t (w.le Y) (H.imp λ_ h=>h.1)).s ?_⟩;rintro r V7 l7 ⟨I,rfl,Z⟩;exact ⟨I,rfl,λV8 l8=>⟨I,_,rfl,Z.le l8,(ug (λ_ h=>h.1.1) H Ū G5).s X⟩⟩}
theorem gI {op:Int}{b:Tr}(kb:b.dJ jO):∀(a:Tr) {V:ut} {p pb cp:OA} {cn cc:Nat} {c:zA L3},RW V p a->RW V pb b->a.dJ jO->bo 6 bP V cp cn c->(∀m∈c,jO m)->c.length+a.depth+b.depth<=980 ->À 23 #[Ô .i64 op,qyQ p,qyQ pb,dB cp cn cc] V λr W=>∃q,r=qyQ q/\RW W q (qG op a b c)
 | .leaf i,V,p,pb,cp,cn,cc,c,h,hb,_,hc,kc,hd=>by
  have ⟨s,e0,e1⟩:=ku h;simp only [Tr.depth] at hd;have C:∀{W:ut},V.Le W->∃a,ae p 1=some a/\W.at a (Õ i):=λg=>(ku (h.le g)).2.2;have eq:∀k:Int,(op==k)=true->op=k:=λk h=>by simpa using h
  have ne:∀k:Int,(op==k)=false->op≠k:=λk h=>by simpa using h
  refine rB V _ ⟨s,s,_,e0,λ_ V1 Q=>(dw b (hb.le Q) kb (hc.le Q λ_ _ k=>bP.le k Q) kc ω).s ?_,π⟩;rintro r V2 N ⟨q,rfl,g⟩
  have w:∀{c:md} {P:Prop} [Decidable P],(c=true->P)->(c=false->¬P)->c=decide P:=λ{c P _} a b=>by
   cases c
   ·exact (È (b rfl)).symm
   ·exact (Ç (a rfl)).symm
  have fin:∀{W:ut} (t:Tr),qG op (.leaf i) b c=t->∀{o:OA},RW W o t->∃q,Value.pointer o=qyQ q/\RW W q (qG op (.leaf i) b c):=λ{W} t e {o} k=>⟨o,rfl,by rw [e];exact k⟩;refine ⟨q,rfl,λz _=>z=decide (op=1/\i=true),⟨λj=>⟨s,s,i,C au,_,σ,w (λh=>⟨eq 1 j,h⟩) λh g=>by rw [h] at g;exact nomatch g.2⟩,λj=>⟨false,σ,w π λ_ g=>ne 1 j g.1⟩⟩,?_⟩;rintro z Y Z rfl;refine ⟨rfl,λu V4 l4=>(cO true).s ?_,λu=>?_⟩
  ·have u:=Á u;rintro r V5 l5 ⟨o,rfl,k⟩;exact ⟨o,rfl,λV6 D=>fin _ (by unfold qG;rw [Ä u]) (k.le D)⟩
  have u:=Â u;refine ⟨λz _=>z=decide ((op=2\/op=3)/\i=false),⟨λj=>⟨s,s,i,C au,_,σ,w (λh=>⟨.inl (eq 2 j),by simpa using h⟩) λh g=>by rw [g.2] at h;exact nomatch h⟩,λj=>⟨λv=>⟨s,s,i,C au,_,σ,w (λh=>⟨.inr (eq 3 v),by simpa using h⟩) λh g=>by rw [g.2] at h;exact nomatch h⟩,λv=>⟨false,σ,w π λ_ g=>g.1.elim (ne 2 j) (ne 3 v)⟩⟩⟩,?_⟩;rintro z V7 l7 rfl;refine ⟨rfl,λd V8 l8=>(cO false).s ?_,λd=>?_⟩
  ·have d:=Á d;rintro r V9 l9 ⟨o,rfl,k⟩;exact ⟨o,rfl,λfo E=>fin _ (by unfold qG;rw [Ã u,Ä d]) (k.le E)⟩
  have d:=Â d;refine ⟨λz _=>z=decide ((op=3\/op=4)/\i=true),⟨λj=>⟨s,s,i,C au,_,σ,w (λh=>⟨.inl (eq 3 j),h⟩) λh g=>by rw [h] at g;exact nomatch g.2⟩,λj=>⟨λv=>⟨s,s,i,C au,_,σ,w (λh=>⟨.inr (eq 4 v),h⟩) λh g=>by rw [h] at g;exact nomatch g.2⟩,λv=>⟨false,σ,w π λ_ g=>g.1.elim (ne 3 j) (ne 4 v)⟩⟩⟩,?_⟩;rintro z fg dy rfl;refine ⟨rfl,λf gT R=>(mi _ (g.le au)).s ?_,λf lS gC=>?_⟩
  ·have f:=Á f;rintro r iL dS ⟨o,rfl,k⟩;exact ⟨o,rfl,λlR gj=>fin _ (by unfold qG;rw [Ã u,Ã d,Ä f]) (k.le gj)⟩
  ·have f:=Â f;exact fin _ (by unfold qG;rw [Ã u,Ã d,Ã f]) (g.le au)
 | .node l x y,V,p,pb,cp,cn,cc,c,h,hb,ha,hc,kc,hd=>by
  obtain ⟨B,kx,ky⟩:=ha;simp only [Tr.depth] at hd;have ⟨b1,p1,n1,c1,b2,p2,n2,c2,b3,p3,n3,c3,pl,pr,a,s,O,H⟩:=Oh h;obtain ⟨z,⟨F,G,I,J,K,L⟩,S,T,-,-,-⟩:=H V (Ó.Le.refl V);have M:∀{W:ut},V.Le W->bo 6 bP W cp cn c:=λg=>hc.le g λ_ _ k=>bP.le k g;refine rB V _ ⟨s,s,_,z,π,λ_=>⟨s,s,_,_,_,_,_,_,_,_,_,_,_,_,a,O,F,G,I,J,K,L,λV2 N=>(sT (M N) (λm h=>(kc m h).2) (λm h=>(kc m h).1) ω (H V2 N).2.2.2.2.1 B.2 B.1).s ?_⟩⟩;rintro r Y Z rfl;have L3:=N.m Z;obtain ⟨-,⟨F,G,I,J,K,L⟩,S,T,-,-,-⟩:=H Y au;refine ⟨_,rfl,λn=>⟨s,s,pl,S,λV4 l4=>(gI kb x (H V4 au).2.2.2.2.2.1 (hb.le au) kx (M au) kc ω).s ?_⟩,λn=>⟨λA=>⟨s,s,pr,T,λV7 l7=>(gI kb y (H V7 au).2.2.2.2.2.2 (hb.le au) ky (M au) kc ω).s ?_⟩,λA=>?_⟩⟩
  ·have n:B4 c l=1:=by simpa using n
   rintro r V5 l5 ⟨q,rfl,g⟩;exact ⟨q,rfl,λV6 D=>⟨q,rfl,by unfold qG;rw [Ä n];exact g.le D⟩⟩
  ·have n:¬B4 c l=1:=by simpa using n
   have A:B4 c l=-1:=by simpa using A
   rintro r V5 l5 ⟨q,rfl,g⟩;exact ⟨q,rfl,λV6 D=>⟨q,rfl,by unfold qG;rw [Ã n,Ä A];exact g.le D⟩⟩
  ·have n:¬B4 c l=1:=by simpa using n
   have A:¬B4 c l=-1:=by simpa using A
   have ⟨w1,w2⟩:=Ao kc B;have ⟨w3,w4⟩:=Ao kc (mz B);refine ⟨s,s,_,_,_,_,_,_,_,_,_,_,_,_,a,O,F,G,I,J,K,L,s,s,pl,S,s,s,_,_,_,_,_,_,_,_,_,_,_,_,a,O,F,G,I,J,K,L,s,s,pr,T,s,s,_,_,_,_,_,_,_,_,_,_,_,_,a,O,F,G,I,J,K,L,λfo E=>(ke (M au) kc ω (H fo au).2.2.2.2.1 B).s ?_⟩;rintro r fg dy ⟨q1,m1,d1,rfl,h1⟩;refine ⟨q1,m1,d1,rfl,λgT R=>(gI kb x (H gT au).2.2.2.2.2.1 (hb.le au) kx (h1.le R λ_ _ k=>bP.le k R) w1 ω).s ?_⟩;rintro r iL dS ⟨j,rfl,t1⟩;have Z_:=L3.m au;refine ⟨j,rfl,λlR gj=>(gX (H lR au).2.2.2.2.1).s ?_⟩;rintro r lS gC gr;have H3:bP lS r (Ö l):=gr;obtain ⟨_,_,_,_,_,_,_,_,_,_,_,_,rfl⟩:=bG H3;have U:=Z_.m au;refine wqQ ⟨rfl,λkH fy=>(ke (M au) kc ω ra (mz B)).s ?_⟩;rintro r lT ij ⟨q2,m2,d2,rfl,h2⟩;have X:=U.m au;refine ⟨q2,m2,d2,rfl,λmZ hU=>(gI kb y (H mZ au).2.2.2.2.2.2 (hb.le au) ky (h2.le hU λ_ _ k=>bP.le k hU) w3 ω).s ?_⟩;rintro r pS jN ⟨v,rfl,t2⟩;refine ⟨v,rfl,λsC kt=>(uV (H sC ((X.m au).m kt)).2.2.2.2.1 (t1.le au) (t2.le kt)).s ?_⟩;rintro r sE qB ⟨o3,rfl,t3⟩;exact ⟨o3,rfl,λsN nH=>⟨o3,rfl,by unfold qG;rw [Ã n,Ã A];exact t3.le nH⟩⟩
theorem Hy {A B:ut}{u:zA Nat}(h:(A.ar u).Le B):A.Le B:=λb o g=>h b o g
theorem mU {B C:ut}(h:B.shut.Le C):B.Le C:=λb o g=>h b o g
theorem lH {α:Type}{sz:Nat}{R:ut->un->α->Prop}{vs xs:zA un}{ls ms:zA α}(h:é sz R V vs ls)(u:é sz R V xs ms)(z:vs.length=ls.length*sz)(y:0<sz):é sz R V (vs++xs) (ls++ms):=by have:=d_ (sp:=[]) h u y;grind
def Qn (p q:Rat×Rat):Prop:=¬(p.1=q.1/\p.2=q.2)
theorem pg3 {a b c:Rat×Rat}(h:Um 10 [a,b,c])(u:Qn a b)(y:Qn b c)(z:Qn c a):Pg [a,b,c]:=⟨by show 3<=6;omega,h,λi d=>by
 match i,d with
 | 0,_=>exact u
 | 1,_=>exact y
 | 2,_=>rw [show (2+1)% [a,b,c].length=0 by simp];exact z
 | i+3,d=>simp only [Ą,İ] at d;omega⟩
theorem pg4 {a b c d:Rat×Rat}(h:Um 10 [a,b,c,d])(u:Qn a b)(y:Qn b c)(z:Qn c d)(D:Qn d a):Pg [a,b,c,d]:=⟨by show 4<=6;omega,h,λi e=>by
 match i,e with
 | 0,_=>exact u
 | 1,_=>exact y
 | 2,_=>exact z
 | 3,_=>rw [show (3+1)% [a,b,c,d].length=0 by simp];exact D
 | i+4,e=>simp only [Ą,İ] at e;omega⟩
theorem jy {k:Nat}{p:Rat×Rat}{l:zA (Rat×Rat)}(h:Sz k p.1/\Sz k p.2)(g:Um k l):Um k (p::l):=λx a=>(ê.1 a).elim (λe=>e▸h) (g x)
theorem Hk {k:Nat}:Um k []:=λ_ h=>by cases h
theorem L7 {x u y z:Int}(h:x≠u:=by omega):Qn ((x:Rat),(y:Rat)) ((u:Rat),(z:Rat)):=λ⟨e,_⟩=>h (Qg8.1 e)
theorem PK {x z y u:Int}(h:y≠u):Qn ((x:Rat),(y:Rat)) ((z:Rat),(u:Rat)):=λ⟨_,e⟩=>h (Qg8.1 e)
theorem Ri {V:ut}{tb:Nat}{at_:Int}(hr:K0 V p n)(hn:n<=400)(hw:ka V tb p n c at_)(hx:V.X tb)(h0:0<=at_):À 79 #[qyQ (some ⟨tb,0,none⟩)] V λr W=>∃(q:OA)(m e:Nat)(l:zA (Rat×Rat))(at':Int),r=dB q m e/\bo 6 cP W q m l/\Pg l/\0<=at'/\ka W tb p n c at':=by
 refine uA tb p n c at_ V _ hw hx λV1 l1 d6 e1 h1=>(fC (V:=V1.ar [d6]) 4 (hr.le l1) hn e1 ⟨ψ,h1⟩ h0 ω).s ?_;rintro r V2 l2 ⟨x,Io,rfl,x0,x1,t1,d7⟩;have L2:=l1.m (Hy l2);have wr:∀z:Int,-100<=z->z<=100->i64.wrap z=z:=λz _ _=>ao ω;have Ns:∀x u:Int,(x:Rat)+((1:Int):Rat)*(u:Rat)=((x+u:Int):Rat):=λx u=>by rw [<-Qf2,<-Qs4,Wz4]
 refine ⟨x,rfl,p,n,c,Io,d7,λz V'=>z.1=p/\z.2.1=n/\z.2.2.1=c/\0<=z.2.2.2/\V.Le V',⟨λ_ V3 l3 UN e3 h3=>(fC (V:=V3.ar [UN]) 5 (hr.le au) hn e3 ⟨ψ,h3⟩ t1 ω).s ?_,λ_=>⟨λ_ sC kt K8 d8 d9=>(c_P (V:=sC.ar [K8]) (hr.le au) hn d8 ⟨ψ,d9⟩ t1).s ?_,λ_=>⟨(p,n,c,Io),σ,rfl,rfl,rfl,t1,λb o h=>L2 b o h⟩⟩⟩,?_⟩
 ·rintro r V4 l4 ⟨a,v,rfl,a0,a1,t2,C⟩;have L4:=L2.m ((mU l3).m (Hy l4));refine ⟨a,rfl,p,n,c,v,C,λV5 l5 UO e5 h5=>(fC (V:=V5.ar [UO]) 5 (hr.le au) hn e5 ⟨ψ,h5⟩ t2 ω).s ?_⟩;rintro r V6 l6 ⟨b,f,rfl,b0,b1,t3,D⟩;have L6:=L4.m ((mU l5).m (Hy l6));refine ⟨b,rfl,p,n,c,f,D,λV7 l7 e0 e7 h7=>(fC (V:=V7.ar [e0]) 4 (hr.le au) hn e7 ⟨ψ,h7⟩ t3 ω).s ?_⟩;rintro r V8 l8 ⟨u,E,rfl,u0,u1,t4,O⟩;refine ⟨u,rfl,p,n,c,E,O,λV9 l9 Yt e9 h9=>(fC (V:=V9.ar [Yt]) 4 (hr.le ((L6.m ((mU l7).m au)).m au)) hn e9 ⟨ψ,h9⟩ t4 ω).s ?_⟩;rintro r fo k4 ⟨w,a6,rfl,w0,w1,t5,e4⟩;refine ⟨w,rfl,p,n,c,a6,e4,?_⟩;have ea:i64.wrap (a-4)=a-4:=wr _ ω ω;have eb:i64.wrap (b-4)=b-4:=wr _ ω ω;have ec:i64.wrap (i64.wrap (i64.wrap (a-4)+1)+u)=a-4+1+u:=by{rw [ea,wr (a-4+1) ω ω,wr _ ω ω]};have ed:i64.wrap (i64.wrap (i64.wrap (b-4)+1)+w)=b-4+1+w:=by{rw [eb,wr (b-4+1) ω ω,wr _ ω ω]};rw [ec,ed,ea,eb];intro fg dy;refine (dE (a-4) (b-4) ω ω ω).s ?_;rintro r gT dX I;have I:cP gT r (((a-4:Int):Rat),((b-4:Int):Rat)):=I;obtain ⟨_,_,_,_,_,_,_,_,_,_,_,_,_,_,rfl⟩:=I.shape;refine qxZ ⟨rfl,λiL dS=>(dE (a-4+1+u) (b-4) ω ω ω).s ?_⟩;rintro r lR gj J;have J:cP lR r (((a-4+1+u:Int):Rat),((b-4:Int):Rat)):=J;obtain ⟨_,_,_,_,_,_,_,_,_,_,_,_,_,_,rfl⟩:=J.shape;refine qxZ ⟨rfl,λlS gC=>(dE (a-4+1+u) (b-4+1+w) ω ω ω).s ?_⟩;rintro r kH fy K;have K:cP kH r (((a-4+1+u:Int):Rat),((b-4+1+w:Int):Rat)):=K;obtain ⟨_,_,_,_,_,_,_,_,_,_,_,_,_,_,rfl⟩:=K.shape;refine qxZ ⟨rfl,λlT ij=>(dE (a-4) (b-4+1+w) ω ω ω).s ?_⟩;rintro r mZ hU g4;have g4:cP mZ r (((a-4:Int):Rat),((b-4+1+w:Int):Rat)):=g4;obtain ⟨_,_,_,_,_,_,_,_,_,_,_,_,_,_,rfl⟩:=g4.shape;refine qxZ ⟨rfl,λpS jN bk t F=>⟨_,_,_,_,a6,rfl,bo.eN F (lH (sz:=6) (row_one rfl (cP.le I au)) (lH (sz:=6) (row_one rfl (cP.le J au)) (lH (sz:=6) (row_one rfl (cP.le K au)) (row_one rfl (cP.le g4 jN)) rfl φ) rfl φ) rfl φ),?_,t5,t⟩⟩;have s:∀z:Int,-40<=z->z<=40->Sz 10 (z:Rat):=λz h h'=>FW ⟨h,h'⟩;exact pg4 (jy ⟨s _ ω ω,s _ ω ω⟩ (jy ⟨s _ ω ω,s _ ω ω⟩ (jy ⟨s _ ω ω,s _ ω ω⟩ (jy ⟨s _ ω ω,s _ ω ω⟩ Hk)))) (L7) (PK ω) (L7) (PK ω)
 ·rintro r sE qB ⟨x,y,v,A,e8,f0,t2,C⟩;have A:cP sE r ((x:Rat),(y:Rat)):=A;obtain ⟨_,_,_,_,_,_,_,_,_,_,_,_,_,_,rfl⟩:=A.shape;have a7:=L2.m ((mU kt).m (Hy qB));refine qxZ ⟨rfl,p,n,c,v,C,λsN nH a8 f5 f6=>(c_V (V:=sN.ar [a8]) (hr.le au) hn f5 ⟨ψ,f6⟩ t2).s ?_⟩;rintro r uF pk ⟨x1,y1,f,gu,k5,k6,a9,t3,D⟩;have gu:cP uF r ((x1:Rat),(y1:Rat)):=gu;obtain ⟨_,_,_,_,_,_,_,_,_,_,_,_,_,_,rfl⟩:=gu.shape;refine qxZ ⟨rfl,p,n,c,f,D,λDx pM UM f7 f8=>(c_V (V:=Dx.ar [UM]) (hr.le ((a7.m ((mU nH).m au)).m au)) hn f7 ⟨ψ,f8⟩ t3).s ?_⟩;rintro r HZ Bz ⟨x2,P,E,gv,k7,k8,b3,t4,O⟩;have gv:cP HZ r ((x2:Rat),(P:Rat)):=gv;obtain ⟨_,_,_,_,_,_,_,_,_,_,_,_,_,_,rfl⟩:=gv.shape;have s:∀z:Int,-40<=z/\z<=40->Sz 10 (z:Rat):=λz h=>FW h;have XF:=(mU pM).m (Hy Bz);have XD:=((mU nH).m au).m XF;refine qxZ ⟨rfl,p,n,c,E,O,λNb Jl=>(gH (k:=10) (cP.le gu au) (cP.le gv au) (s _ ω) (s _ ω) (s _ ω) (s _ ω)).s ?_⟩;rintro r UB GN ⟨p',n',d',k9,l0,m0,rfl,k1,k2⟩;refine qxW ⟨rfl,λUC H4=>(rG _ (k1.le H4)).s ?_⟩;rintro r W3 NI rfl;have NH:=(mU Jl).m (GN.m (H4.m NI));refine ⟨_,rfl,λG QF H5=>(dO 1 ω).s ?_,λG=>⟨(p,n,c,E),σ,rfl,rfl,rfl,t4,(a7.m XD).m NH⟩⟩;have G:((x1:Rat)*(P:Rat)-(y1:Rat)*(x2:Rat))≠0:=λe=>by{rw [e] at G;exact Å G φ};rintro r Yi GO q1;obtain ⟨_,_,_,_,_,_,rfl⟩:=q1.shape;have XE:=XD.m (NH.m (H5.m GO));refine qxW ⟨rfl,λYj H6=>(fG (cP.le A au) (q1.le H6) (cP.le gu ((XF.m (NH.m (H5.m GO))).m H6)) (k:=10) (m:=10) (s _ ω) (s _ ω) (s _ ω) (s _ ω) (s _ ω) ω).s ?_⟩;rintro r UD Ds ga;rw [Ns,Ns] at ga;have ga:cP UD r (((x+x1:Int):Rat),((y+y1:Int):Rat)):=ga;obtain ⟨_,_,_,_,_,_,_,_,_,_,_,_,_,_,rfl⟩:=ga.shape;refine qxZ ⟨rfl,λm5 LU=>(dO 1 ω).s ?_⟩;rintro r m6 H7 q2;obtain ⟨_,_,_,_,_,_,rfl⟩:=q2.shape;have So:=H6.m (Ds.m (LU.m H7));refine qxW ⟨rfl,λm7 Py=>(fG (cP.le A (XE.m (So.m Py))) (q2.le Py) (cP.le gv ((NH.m (H5.m GO)).m (So.m Py))) (k:=10) (m:=10) (s _ ω) (s _ ω) (s _ ω) (s _ ω) (s _ ω) ω).s ?_⟩;rintro r f9 Sq gb;rw [Ns,Ns] at gb;have gb:cP f9 r (((x+x2:Int):Rat),((y+P:Int):Rat)):=gb;obtain ⟨_,_,_,_,_,_,_,_,_,_,_,_,_,_,rfl⟩:=gb.shape;refine qxZ ⟨rfl,λm8 Sr bk t F=>⟨_,_,_,_,E,rfl,bo.eN F (lH (sz:=6) (row_one rfl (cP.le A (XE.m (So.m (Py.m (Sq.m Sr)))))) (lH (sz:=6) (row_one rfl (cP.le ga (LU.m (H7.m (Py.m (Sq.m Sr)))))) (row_one rfl (cP.le gb Sr)) rfl φ) rfl φ),?_,t4,t⟩⟩;refine pg3 (jy ⟨s _ ω,s _ ω⟩ (jy ⟨s _ ω,s _ ω⟩ (jy ⟨s _ ω,s _ ω⟩ Hk))) ?_ ?_ ?_;{by_cases h:x1=0;{exact PK λe=>a9 ⟨h,ω⟩};{exact L7}};{by_cases h:x1=x2;{refine PK λe=>G ?_;rw [h,show y1=P by omega,Rat.mul_comm];grind};{exact L7}};{by_cases h:x2=0;{exact PK λe=>b3 ⟨h,ω⟩};{exact L7}}
 rintro ⟨zp,zn,zc,za⟩ m9 XG ⟨b4,b5,b6,ha,b7⟩;dsimp only at b4 b5 b6 ha;subst b4 b5 b6;dsimp only;refine ⟨rfl,λg0 Zk b8 g5 g6=>(fC (V:=g0.ar [b8]) 4 (hr.le (b7.m Zk)) hn g5 ⟨ψ,g6⟩ ha ω).s ?_⟩;rintro r n0 Zl ⟨k,v,rfl,k0,k1,t2,C⟩
 refine ⟨k,rfl,zp,zn,zc,v,C,λz V'=>∃o:zA (Rat×Rat),GR 6 cP V' z.1 z.2.1 z.2.2.1 o/\z.2.2.2.2.1=zp/\z.2.2.2.2.2.1=zn/\z.2.2.2.2.2.2.1=zc/\0<=z.2.2.2.2.2.2.2/\0<=z.2.2.2.1/\(o.length:Int)+z.2.2.2.1<=6/\Um 10 o/\(∀i,i+1<o.length->Qn (o.getD i (0,0)) (o.getD (i+1) (0,0)))/\V.Le V',λz=>z.2.2.2.1.toNat,
  ⟨(0,0,[],i64.wrap (3+k),zp,zn,zc,v),σ,[],GR.nil,rfl,rfl,rfl,t2,by rw [ao ω];dsimp only;omega,by rw [ao ω];simp;omega,Hk,λi h=>by simp at h,(b7.m (Zk.m (Hy Zl)))⟩,?_⟩
 rintro ⟨H,z2,vs,i,Q,R,S,b9⟩ g7 n5 ⟨o,B,e5,e6,e7,L,g8,g9,T,hd,U⟩;dsimp only at B e5 e6 e7 L g8 g9;subst e5 e6 e7;have zl:=B.len;dsimp only;refine ⟨rfl,λW h4 Zm c0 h6 h8=>(c_P (V:=h4.ar [c0]) (hr.le (U.m Zm)) hn h6 ⟨ψ,h8⟩ L).s ?_,λW=>?_⟩
 ·have W:=Á W;have w1:i64.wrap (i-1)=i-1:=ao ω;rw [w1];rintro r c5 i2 ⟨x,y,f,A,e8,f0,t3,D⟩;have A:cP c5 r ((x:Rat),(y:Rat)):=A;obtain ⟨_,_,_,_,_,_,_,_,_,_,_,_,_,_,rfl⟩:=A.shape;have XH:=Zm.m (Hy i2);have sx:Sz 10 (x:Rat):=FW;have sy:Sz 10 (y:Rat):=FW;refine qxZ ⟨rfl,Q,R,S,f,D,λz V'=>c5.Le V'/\(z=true->∀h:0<o.length,Qn (o.getD (o.length-1) (0,0)) ((x:Rat),(y:Rat))),⟨λh=>⟨true,σ,λb o h=>h,λ_ g=>?_⟩,λh=>?_⟩,?_⟩;{have:(H:Int)=0:=by{simpa using h};omega};{have h:¬(H:Int)=0:=by{simpa using h};have w2:i64.wrap ((H:Int)-1)=((H-1:Nat):Int):=by{rw [ao ω];omega};rw [w2,Ü];have Y:H-1<o.length:=ω;have ⟨b1,p1,n1,c1,p2,n2,c2,b2,p3,n3,c3,p4,n4,c4,c6,Z,g⟩:=Mt cP.shape B.row Y;have so:=T _ (ó Y);refine ⟨⟨ω,ω⟩,B.le,b1,p1,n1,c1,p2,n2,c2,b2,p3,n3,c3,p4,n4,c4,⟨c6,Z⟩,λn6 XI=>(oB (cP.le g (XH.m (mU XI))) (cP.le A (mU XI)) so.1 so.2 sx sy).s ?_⟩;rintro r n7 i3 rfl;refine ⟨_,rfl,_,σ,(mU XI).m i3,λG _=>?_⟩;have G:decide (o[H-1].1=(x:Rat)/\o[H-1].2=(y:Rat))=false:=by{rwa [Ľ] at G};rw [<-zl,gJ Y];exact Â G};rintro z n8 n9 ⟨c7,G⟩;have NJ:=XH.m c7;refine ⟨rfl,λF=>⟨ω,B.le,B.cap,rfl,NV,λsp c' h1 h2=>⟨(H+1,c',_,i-1,Q,R,S,f),by dsimp only;omega,σ,o++[((x:Rat),(y:Rat))],(B.s λ_ _ g=>cP.le g NJ).snoc rfl (cP.le A c7) φ h1 h2,rfl,rfl,rfl,t3,by dsimp only;omega,by simp;omega,λq M=>?_,λj hj=>?_,U.m NJ⟩⟩,λ_=>⟨(H,z2,vs,i-1,Q,R,S,f),by dsimp only;omega,σ,o,B.s λ_ _ g=>cP.le g NJ,rfl,rfl,rfl,t3,by dsimp only;omega,by dsimp only;omega,T,hd,U.m NJ⟩⟩;{rcases ø.1 M with M|M;{exact T q M};{rw [ö.1 M];exact ⟨sx,sy⟩}};{rw [ë,Qc4] at hj;have gl:∀{k:Nat},k<o.length->(o++[((x:Rat),(y:Rat))]).getD k (0,0)=o.getD k (0,0):=λ{k} h=>by{rw [Ė,į h,<-Ė]};by_cases e:j+1<o.length;{rw [gl e,gl ω];exact hd j e};{have e:j=o.length-1:=ω;subst e;have e2:(o++[((x:Rat),(y:Rat))]).getD (o.length-1+1) (0,0)=((x:Rat),(y:Rat)):=by{rw [Ė,Ň ω,show o.length-1+1-o.length=0 by omega];rfl};rw [e2,gl ω];exact G F ω}}
 ·have ot:∀{m:Nat},m<=o.length->∀{k:Nat},k<m->(o.take m).getD k (0,0)=o.getD k (0,0):=λ{m} hm {k} hk=>by
   rw [Ė,List.getElem?_take_of_lt hk,<-Ė]
  refine ⟨λz V'=>∃m:Nat,z.1=m/\m<=o.length/\z.2.1=z2/\z.2.2=vs/\g7.Le V',λz=>z.1,⟨(H,z2,vs),σ,H,rfl,ω,rfl,rfl,Ó.Le.refl _⟩,?_⟩;rintro ⟨d,P,ys⟩ i4 Zn ⟨m,em,hm,ey,es,N⟩;dsimp only at em ey es;subst em ey es;have j6:=B.le;dsimp only;refine ⟨rfl,λz V'=>i4.Le V'/\(z=true->1<d)/\(z=false->1<d->Qn (o.getD 0 (0,0)) (o.getD (d-1) (0,0))),⟨λh=>?_,λh=>⟨false,σ,Ó.Le.refl _,π,λ_ g=>Å (Â h) ω⟩⟩,?_⟩
  ·have h:=Á h;have w2:i64.wrap ((d:Int)-1)=((d-1:Nat):Int):=by{rw [ao ω];omega};rw [w2,Ü];have i0:0<o.length:=ω;have i1:d-1<o.length:=ω;have ⟨b1,p1,n1,c1,p2,n2,c2,b2,p3,n3,c3,p4,n4,c4,c6,Z,g⟩:=Mt cP.shape B.row i0;have ⟨d1,q1,m1,f1,q2,m2,f2,d2,q3,m3,f3,q4,m4,f4,i5,i6,g'⟩:=Mt cP.shape B.row i1;have s0:=T _ (ó i0);have s1:=T _ (ó i1);refine ⟨⟨ω,ω⟩,ω,b1,p1,n1,c1,p2,n2,c2,b2,p3,n3,c3,p4,n4,c4,⟨ω,Z⟩,⟨ω,ω⟩,ω,d1,q1,m1,f1,q2,m2,f2,d2,q3,m3,f3,q4,m4,f4,⟨i5,i6⟩,λo0 XJ=>(oB (cP.le g (N.m XJ)) (cP.le g' (N.m XJ)) s0.1 s0.2 s1.1 s1.2).s ?_⟩;rintro r o1 i7 rfl;exact ⟨_,rfl,_,σ,XJ.m i7,λ_=>ω,λh _=>by rw [gJ i0,gJ i1];exact Â h⟩
  rintro z o2 o3 ⟨c8,i8,i9⟩;refine ⟨rfl,λF=>?_,λF j0 j1 k3 c9=>?_⟩
  ·have h:=i8 F;have w2:i64.wrap ((d:Int)-1)=((d-1:Nat):Int):=by{rw [ao ω];omega};rw [w2,Ü];exact ⟨⟨ω,ω⟩,(d-1,P,ys),by dsimp only;omega,σ,d-1,rfl,ω,rfl,rfl,N.m c8⟩
  ·have j2:=N.m (c8.m j1);have tl:(o.take d).length=d:=by rw [è];omega
   have hl:=bo.bq (V:=j0) (al:=o.take d) (c:=P) c9 ⟨λi hi=>by
    rw [tl] at hi;obtain ⟨xs,a1,a2,a3⟩:=(B.row.le λ_ _ g=>cP.le g j2).at_ i ω;exact ⟨xs,a1,by rw [Qt2];exact a2,a3⟩⟩ φ ω
   rw [tl] at hl;refine (pZ hl ω (k:=10) (λq M=>T q (Qr2 _ _ M))).s ?_;rintro r o4 d0 ⟨q,m,e,rfl,gs⟩;refine ⟨q,m,e,rfl,λ_=>⟨λa4 o5 o6=>(dE 0 0 ω ω ω).s ?_,λa4 o7 d3 t=>⟨_,_,_,o.take d,b9,rfl,hl.le (d0.m d3) λ_ _ g=>cP.le g (d0.m d3),⟨ω,λq M=>T q (Qr2 _ _ M),λj hj=>?_⟩,L,t⟩⟩⟩
   ·rintro r j3 o8 I;have I:cP j3 r (((0:Int):Rat),((0:Int):Rat)):=I;obtain ⟨_,_,_,_,_,_,_,_,_,_,_,_,_,_,rfl⟩:=I.shape;refine qxZ ⟨rfl,λo9 Qv=>(dE 2 0 ω ω ω).s ?_⟩;rintro r j4 XK J;have J:cP j4 r (((2:Int):Rat),((0:Int):Rat)):=J;obtain ⟨_,_,_,_,_,_,_,_,_,_,_,_,_,_,rfl⟩:=J.shape;refine qxZ ⟨rfl,λp0 d4=>(dE 0 2 ω ω ω).s ?_⟩;rintro r j5 d5 K;have K:cP j5 r (((0:Int):Rat),((2:Int):Rat)):=K;obtain ⟨_,_,_,_,_,_,_,_,_,_,_,_,_,_,rfl⟩:=K.shape;refine qxZ ⟨rfl,λp5 a5 bk t F=>⟨_,_,_,_,b9,rfl,bo.eN F (lH (sz:=6) (row_one rfl (cP.le I (Qv.m (XK.m (d4.m (d5.m a5)))))) (lH (sz:=6) (row_one rfl (cP.le J (d4.m (d5.m a5)))) (row_one rfl (cP.le K a5)) rfl φ) rfl φ),?_,L,t⟩⟩;have s:∀z:Int,-40<=z/\z<=40->Sz 10 (z:Rat):=λz h=>FW h;exact pg3 (jy ⟨s _ ω,s _ ω⟩ (jy ⟨s _ ω,s _ ω⟩ (jy ⟨s _ ω,s _ ω⟩ Hk))) (L7) (L7) (PK ω)
   ·have a4:=Â a4;have sl:=gs.len;have:=yE (o.take d);rw [tl] at hj ⊢;by_cases e:j+1<d;{rw [Ģ e,ot hm hj,ot hm e];exact hd j ω};{have e:j=d-1:=ω;subst e;rw [show d-1+1=d by omega,Nat.mod_self,ot hm hj,ot hm (show 0<d by omega)];have:=i9 F ω;exact λh=>this ⟨h.1.symm,h.2.symm⟩}
theorem OR {V:ut}{tb:Nat}{at_:Int}(hr:K0 V p n)(hn:n<=400)(hw:ka V tb p n c at_)(hx:V.X tb)(h0:0<=at_):À 28 #[qyQ (some ⟨tb,0,none⟩)] V λr W=>∃(q:OA)(S:zA L3)(t:Tr)(at':Int),r=qyQ q/\RW W q t/\S.length<=12/\Ul S 12 t/\0<=at'/\ka W tb p n c at':=by
 have sl:∀{L:zA (zA (Rat×Rat))},(∀l∈L,Pg l)->L.length<=2->(PB L).length<=12:=λh h2=>by have:=Fc h;unfold PB;rw [ĉ];omega
 refine pK tb p n c at_ V _ hw hx λV1 l1 D e1 h1=>(Ri (V:=V1.ar [D]) (hr.le l1) hn e1 ⟨ψ,h1⟩ h0).s ?_;rintro r V2 l2 ⟨z,C,d1,A,Io,rfl,gA,pA,t1,E⟩;have L2:V.Le V2:=l1.m (Hy l2);refine ⟨z,C,d1,rfl,p,n,c,Io,E,λV3 l3 UN e3 h3=>(fC (V:=V3.ar [UN]) 3 (hr.le (L2.m (mU l3))) hn e3 ⟨ψ,h3⟩ t1 ω).s ?_⟩;rintro r V4 l4 ⟨x,F,rfl,x0,x1,t2,G⟩;have e:=(mU l3).m (Hy l4);have H:=L2.m e;refine ⟨x,rfl,p,n,c,F,G,λ_ V5 l5 UO e5 h5=>(Ri (V:=V5.ar [UO]) (hr.le (H.m (mU l5))) hn e5 ⟨ψ,h5⟩ t2).s ?_,λ_ kH I ON j=>?_⟩
 ·rintro r V6 l6 ⟨J,K,d2,B,M,rfl,gB,pB,t3,N⟩;have f:=(mU l5).m (Hy l6);have L6:=H.m f
  have b:∀l∈[A,B],Pg l:=λl m=>by rcases ê.1 m with rfl|m;{exact pA};{rw [ö.1 m];exact pB}
  refine ⟨J,K,d2,rfl,p,n,c,M,N,ω,ω,ψ,rfl,ZD,λa1 a3 s a4 u1 u2 V7 u a2 v=>?_⟩
  have O:é 1 Dw V7 (([dB z C d1]:zA un).take (1*1)++([dB J K d2]:zA un)++s) ([A]++[B]):=
   d_ (ls:=[A]) (row_one rfl ⟨z,C,d1,rfl,gA.le (e.m (f.m (mU u))) λ_ _ k=>cP.le k (e.m (f.m (mU u)))⟩) (row_one rfl ⟨J,K,d2,rfl,gB.le (mU u) λ_ _ k=>cP.le k (mU u)⟩) φ
  refine (yi (L:=[A,B]) (bo.eN v O) (by show 2<=1000;omega) b).s ?_;rintro r V8 l8 ⟨P,Q,d3,rfl,T⟩;have L8:=L6.m ((mU u).m l8);refine ⟨P,Q,d3,rfl,λ_ V9 l9 U W Y=>(fC (V:=V9.ar [U]) 2 (hr.le (L8.m l9)) hn W ⟨ψ,Y⟩ t3 ω).s ?_⟩;rintro r fo Z ⟨y,a,rfl,y0,y1,t4,g⟩;have BA:=l9.m (Hy Z);refine ⟨y,rfl,p,n,c,a,g,λfg dy=>(uU _ (T.le (BA.m (mU dy)) λ_ _ k=>M_.s k (λ_ _ k=>eI.le k (BA.m (mU dy))) (BA.m (mU dy))) (by show 2<=1000;omega) b).s ?_⟩;rintro r gT dX ⟨q4,m4,d4,q5,m5,d5,rfl,gM⟩;refine ⟨q4,m4,d4,_,q5,m5,d5,rfl,λiL dS=>(sW (gM.le dS λ_ _ k=>Dw.le k dS) (by show 2<=2;omega) b).s ?_⟩;rintro r lR gj ⟨o,t,rfl,w,R⟩;exact ⟨o,rfl,λlS gC i=>⟨o,PB [A,B],t,a,rfl,w.le gC,sl b (by show 2<=2;omega),R,t4,i⟩⟩
 ·have d:∀l∈[A],Pg l:=λl m=>by{rw [ö.1 m];exact pA};refine (yi (L:=[A]) (bo.eN j (row_one rfl ⟨z,C,d1,rfl,gA.le (e.m (mU I)) λ_ _ k=>cP.le k (e.m (mU I))⟩)) (by show 1<=1000;omega) d).s ?_;rintro r lT ij ⟨P,Q,d3,rfl,T⟩;have a0:=H.m ((mU I).m ij);refine ⟨P,Q,d3,rfl,λ_ mZ hU U W Y=>(fC (V:=mZ.ar [U]) 2 (hr.le (a0.m hU)) hn W ⟨ψ,Y⟩ t2 ω).s ?_⟩;rintro r pS jN ⟨y,a,rfl,y0,y1,t4,g⟩;have Sm:=hU.m (Hy jN);refine ⟨y,rfl,p,n,c,a,g,λsC kt=>(uU _ (T.le (Sm.m (mU kt)) λ_ _ k=>M_.s k (λ_ _ k=>eI.le k (Sm.m (mU kt))) (Sm.m (mU kt))) (by show 1<=1000;omega) d).s ?_⟩;rintro r sE qB ⟨q4,m4,d4,q5,m5,d5,rfl,gM⟩;refine ⟨q4,m4,d4,_,q5,m5,d5,rfl,λsN nH=>(sW (gM.le nH λ_ _ k=>Dw.le k nH) (by show 1<=2;omega) d).s ?_⟩;rintro r uF pk ⟨o,t,rfl,w,R⟩;exact ⟨o,rfl,λDx e i=>⟨o,PB [A],t,a,rfl,w.le e,sl d (by show 1<=2;omega),R,t4,i⟩⟩
theorem dJ.both {p q:L3->Prop}:∀{t:Tr},t.dJ p->t.dJ q->t.dJ λl=>p l/\q l
 | .leaf _,_,_=>trivial
 | .node _ _ _,⟨a,b,c⟩,⟨d,e,f⟩=>⟨⟨a,d⟩,dJ.both b e,dJ.both c f⟩
theorem Oc {t:Tr}(h:t.dJ jO)(u:t.size<=12:=by omega):Ul t.di 12 (uf t [])/\t.di.length<=12:=
 ⟨(ug (λ_ h=>h.1.1) (dJ.both h (F5 t)) Ū G5).s (ü (kZ t) u),by rw [jv];exact u⟩
theorem Rh:∀(k:Nat) {V:ut} {tb:Nat} {p:OA} {n c:Nat} {at_:Int},k<=1->K0 V p n->n<=400->ka V tb p n c at_->V.X tb->0<=at_ ->À 6 #[qyQ (some ⟨tb,0,none⟩),Ô .i64 (k:Int)] V λr W=>∃(q:OA)(S:zA L3)(t:Tr)(at':Int),r=qyQ q/\RW W q t/\S.length<=12*(k+1)/\Ul S (12*(k+1)) t/\0<=at'/\ka W tb p n c at':=by
 intro k
 have base:∀(k:Nat) {V:ut} {tb:Nat} {p:OA} {n c:Nat} {at_:Int},(k=0\/∀{V:ut} {tb:Nat} {p:OA} {n c:Nat} {at_:Int},K0 V p n->n<=400->ka V tb p n c at_->V.X tb->0<=at_ ->
   À 6 #[qyQ (some ⟨tb,0,none⟩),Ô .i64 ((k-1:Nat):Int)] V λr W=>∃(q:OA)(S:zA L3)(t:Tr)(at':Int),r=qyQ q/\RW W q t/\S.length<=12*k/\Ul S (12*k) t/\0<=at'/\ka W tb p n c at')->k<=1->K0 V p n->n<=400->ka V tb p n c at_->V.X tb->0<=at_ ->
   À 6 #[qyQ (some ⟨tb,0,none⟩),Ô .i64 (k:Int)] V λr W=>∃(q:OA)(S:zA L3)(t:Tr)(at':Int),r=qyQ q/\RW W q t/\S.length<=12*(k+1)/\Ul S (12*(k+1)) t/\0<=at'/\ka W tb p n c at':=by
  intro k V tb p n c at_ ih hk i j hw G s;refine rE tb p n c at_ k V _ hw G λV1 l1 I e1 h1=>(fC (V:=V1.ar [I]) 6 (i.le l1) j e1 ⟨ψ,h1⟩ s ω).s ?_;rintro r V2 l2 ⟨x,Io,rfl,x0,x1,t1,J⟩;have L2:V.Le V2:=l1.m (Hy l2);refine ⟨x,rfl,p,n,c,Io,J,λz V'=>V2.Le V'/\(z=true->0<k),⟨λ_=>⟨_,σ,λb o h=>h,λh=>by have:=Á h;omega⟩,λ_=>⟨false,σ,λb o h=>h,π⟩⟩,?_⟩;rintro z V3 l3 ⟨pk,hz⟩;have u:=L2.m pk;have UP:∀{W W':ut} {m:Nat},V3.Le W->ka W m p n c Io->W.H m->À 28 #[qyQ (some ⟨m,0,none⟩)] (W.ar [m]) λr W=>∃(q:OA)(S:zA L3)(t:Tr)(at':Int),r=qyQ q/\RW W q t/\S.length<=12/\Ul S 12 t/\0<=at'/\ka W m p n c at':=λ{W W' m} l e h=>OR (V:=W.ar [m]) (i.le (u.m l)) j e ⟨ψ,h⟩ t1;have fin:∀{W:ut} {q:OA} {S:zA L3} {t:Tr} {a:Int},RW W q t->S.length<=12->Ul S 12 t->0<=a->ka W tb p n c a->∃(q':OA)(S:zA L3)(t:Tr)(at':Int),Value.pointer q=qyQ q'/\RW W q' t/\S.length<=12*(k+1)/\Ul S (12*(k+1)) t/\0<=at'/\ka W tb p n c at':=λ{W q S t a} w hS R s hT=>⟨q,S,t,a,rfl,w,ω,R.s ω,s,hT⟩;refine ⟨rfl,λK=>?_,λ_=>⟨λ_ lR gj UL L Ur=>(c_L (V:=lR.ar [UL]) (i.le (u.m gj)) j L ⟨ψ,Ur⟩ t1).s ?_,λ_=>⟨λ_ uF v A M N=>(Rj 3 (V:=uF.ar [A]) ω (i.le (u.m v)) j M ⟨ψ,N⟩ t1).s ?_,λ_=>⟨λ_ UC H4 a4 O P=>(UP (W':=UC) H4 O P).s ?_,λ_ UD Ds a5 Q U=>(UP (W':=UD) Ds Q U).s ?_⟩⟩⟩⟩
  ·have a6:=hz K;have ww:i64.wrap ((k:Int)-1)=((k-1:Nat):Int):=by{rw [ao ω];omega};rcases ih with e0|B;{omega};rw [ww];intro V4 l4 QS e4 h4;refine (B (V:=V4.ar [QS]) (i.le (u.m l4)) j e4 ⟨ψ,h4⟩ t1).s ?_;rintro r V5 l5 ⟨q1,S1,u1,d,rfl,w1,s1,E,t2,f⟩;have L5:=u.m (l4.m (Hy l5));refine ⟨q1,rfl,p,n,c,d,f,λV6 l6 Y e6 h6=>(fC (V:=V6.ar [Y]) 4 (i.le (L5.m (mU l6))) j e6 ⟨ψ,h6⟩ t2 ω).s ?_⟩;rintro r V7 l7 ⟨y,Z,rfl,y0,y1,t3,a0⟩;have XK:=(mU l6).m (Hy l7);refine ⟨y,rfl,p,n,c,Z,a0,λV8 l8 Nj e8 h8=>(B (V:=V8.ar [Nj]) (i.le (L5.m (XK.m (mU l8)))) j e8 ⟨ψ,h8⟩ t3).s ?_⟩;rintro r V9 l9 ⟨q2,S2,u2,C,rfl,w2,s2,F,t4,a1⟩;have a2:=(mU l8).m (Hy l9);refine ⟨q2,rfl,p,n,c,C,a1,λfo D=>(gI (cp:=none) (cn:=0) (cc:=0) (c:=[]) (F.all.imp λ_ h=>h.1) u1 (w1.le (XK.m (a2.m (mU D)))) (w2.le (mU D)) (E.all.imp λ_ h=>h.1) bo.nil Ū (by have:=E.dep;have:=F.dep;simp;omega)).s ?_⟩;rintro r fg dy ⟨o,rfl,w⟩;have R:=BO (q:=λl=>jO l/\l∈S1++S2) (λ_ h=>h.1.1) (op:=i64.wrap (1+y)) (b:=u2) (F.all.imp λ_ h=>⟨h.1,Œ _ h.2⟩) (a:=u1) (c:=[]) (E.all.imp λ_ h=>⟨h.1,Ļ _ h.2⟩) Ū G5;exact ⟨o,rfl,λgT dX g=>⟨o,S1++S2,_,C,rfl,w.le dX,by rw [ë];omega,R.s (by have:=E.dep;have:=F.dep;omega),t4,g⟩⟩
  ·rintro r lS gC ⟨l,d,gl,ok,bd,t2,f⟩;have a3:=gl;obtain ⟨_,_,_,_,_,_,_,_,_,_,_,_,rfl⟩:=bG gl;refine wqQ ⟨rfl,p,n,c,d,f,λkH fy=>(cO true).s ?_⟩;rintro r lT ij ⟨o1,rfl,k1⟩;refine ⟨o1,rfl,λmZ hU=>(cO false).s ?_⟩;rintro r pS jN ⟨o2,rfl,k2⟩;refine ⟨o2,rfl,λsC kt m hb=>?_⟩;have T:(Tr.node l (.leaf true) (.leaf false)).dJ jO:=⟨⟨ok,bd⟩,trivial,trivial⟩;refine (kX (.node l (.leaf true) (.leaf false)) (Og hb (bP.le a3 ((mU fy).m (ij.m (hU.m (jN.m kt))))) (k1.le (hU.m (jN.m kt))) (k2.le kt)) T (by show 1+0<=990;omega)).s ?_;rintro r sE qB ⟨o3,rfl,k3⟩;have ⟨R,sl⟩:=Oc T (by show 1+0+0<=12;omega);exact ⟨o3,rfl,λ_ sN nH g=>fin (k3.le nH) sl R t2 g⟩
  ·rintro r Dx pM ⟨q,t,d,rfl,w,ta,ts,t2,f⟩;refine ⟨q,rfl,p,n,c,d,f,λHZ Bz=>(kX t (w.le (mU Bz)) ta (by have:=kZ t;omega)).s ?_⟩;rintro r Nb Jl ⟨o,rfl,w'⟩;have ⟨R,sl⟩:=Oc ta;exact ⟨o,rfl,λUB GN g=>fin (w'.le GN) sl R t2 g⟩
  ·rintro r W3 NI ⟨q,S,t,d,rfl,w,sl,R,t2,f⟩;refine ⟨q,rfl,p,n,c,d,f,λQF H5=>(mi t (w.le (mU H5))).s ?_⟩;rintro r Yi GO ⟨o,rfl,w'⟩;exact ⟨o,rfl,λYj H6 g=>fin (w'.le H6) sl R.not t2 g⟩
  ·rintro r a7 LU ⟨q,S,t,d,rfl,w,sl,R,t2,f⟩;exact ⟨q,rfl,p,n,c,d,f,λa8 H7 g=>fin (w.le (mU H7)) sl R t2 g⟩
 intro V tb p n c at_ hk
 exact base k (by
  by_cases h:k=0
  ·exact .inl h
  ·obtain rfl:k=1:=ω
   exact .inr λi j hw G s=>base 0 (.inl rfl) ω i j hw G s) hk
open Classical in
theorem Ww {S:zA L3}{d:Nat}{t:Tr}(h:Ul S d t)(y:S.length<=24):∃u:zA L3,u.length<=24/\(∀l∈u,jO l)/\(t.dJ λl=>Bd l/\l∈u)/\t.dJ jO/\t.size<=600/\t.depth<=d:=by have b:∀l∈S.filter (λl=>decide (jO l)),jO l:=λl a=>by{simpa using (Ł.1 a).2};have c:t.dJ λl=>l∈S.filter λl=>decide (jO l):=h.all.imp λl g=>Ł.2 ⟨g.2,by simpa using g.1⟩;have a:(S.filter λl=>decide (jO l)).length<=24:=ü (Qp3 ..) y;refine ⟨S.filter λl=>decide (jO l),a,b,c.imp λl g=>⟨(b l g).2,g⟩,h.all.imp λ_ g=>g.1,?_,h.dep⟩;refine ü (TT h.prp (Vc []) c λl g=>(b l g).1) ?_;exact ü (Qg0 a (Nat.add_le_add_left a 1)) φ
theorem Zs {u V2 y:ut}{z:Nat}(D:u.Le V2)(F:u.w.heap.size<=z)(E:(V2.Sc z).Le y):u.Le y:=λb o h=>E b o ⟨λc=>c.elim (D b o h).1 λe=>by
  have d:b<u.w.heap.size:=by
   rcases Ē b u.w.heap.size with a|a
   ·exact a
   ·have:=h.2;rw [Qh5 a] at this;cases this
  have:=e.1;omega,(D b o h).2⟩
theorem few_T {t:Tr}(h:t.dJ jO)(u:t.size<=25:=by omega):wH t.di t:=
 ⟨h,Tr.nf λl a=>⟨(ju h l a).2,a⟩,by rw [jv];exact u,λl a=>(ju h l a).2,ω,by have:=kZ t;omega⟩
set_option maxHeartbeats 2000000 in
theorem lU {y z:un}(hy:pQ V 0 y)(hz:pQ V 1 z){lp:OA}{ln lc:Nat}(hr:K0 V lp ln)(hc:ln<=lc):À 3 #[dB lp ln lc] V λr W=>r=Õ true:=by refine lO V _ λV1 l1=>(IJ hc).s ?_;rintro r V2 l2 ⟨w,rfl,p,hb⟩;refine ⟨w,_,_,_,_,rfl,p,hb,λV3 l3 QS M h4=>?_⟩;have a:min ln 400<=400:=Nat.min_le_right _ _;have hr:K0 V lp (min ln 400):=λi hi=>hr i (ĺ hi (Wj0 _ _));generalize min ln 400=n at *;have s:=l1.m (Zs l2 p l3);refine (Rh 1 (V:=V3.ar [QS]) ω (hr.le s) a M ⟨ψ,h4⟩ (Wx3 0)).s ?_;rintro r V4 l4 ⟨q,S,t,Io,rfl,N,sl,R,t1,u⟩;obtain ⟨S',a0,sk,sa,ok,sz,dp⟩:=Ww R sl;have A:=s.m (Hy l4);refine ⟨q,rfl,lp,n,lc,Io,u,λV5 O Nj P h8=>(fC (V:=V5.ar [Nj]) 3 (hr.le (A.m (mU O))) a P ⟨ψ,h8⟩ t1 ω).s ?_⟩;rintro r V6 l6 ⟨x,B,rfl,x0,x1,t2,v⟩;have d:=(mU O).m (Hy l6);refine ⟨x,rfl,lp,n,lc,B,v,λz V'=>V4.Le V'/\∃S t,RW V' z t/\wH S t,⟨λ_ V7 Q UK C D=>(Rj 4 (V:=V7.ar [UK]) ω (hr.le ((A.m d).m (mU Q))) a C ⟨ψ,D⟩ t2).s ?_,λ_=>⟨q,σ,λb o g=>d b o g,S',t,RW.le (V':=V6.shut) (λb o g=>d b o g) N,ok,sa,ω,λl hl=>(sk l hl).2,ω,ω⟩⟩,?_⟩;{rintro r T l8 ⟨U,t',E,rfl,G,H,a1,t3,I⟩;exact ⟨U,rfl,lp,n,lc,E,I,U,σ,λb o g=>(d.m ((mU Q).m (Hy l8))) b o g,_,t',RW.le (V:=T) (V':=T.shut) (λb o g=>g) G,few_T H⟩};rintro q2 V9 l9 ⟨XJ,S2,t2,e,c⟩;have a2:=A.m XJ;have J:=c.oks;have FL:=c.len;have jl:=xw (kn t2 (aY t2.di));have j:=vx λf k=>(c.qk f k).2;have a3:=c.size;clear N R u v M P;refine ⟨rfl,λfo K=>(mI (e.le K) c.ok).s ?_⟩;rintro r fg dy W;obtain ⟨pa,na,ca,rfl,-⟩:=id W;refine ⟨_,pa,na,ca,rfl,λgT dX=>(UW c (W.le dX) (hy.le au) (hz.le au)).s ?_⟩;rintro r iL dS ⟨p1,n1,c1,rfl,gf⟩;refine ⟨p1,n1,c1,.nilIface,rfl,λlR gj=>(mI (e.le au) c.ok).s ?_⟩;rintro r lS gC X;obtain ⟨pb,nb,cb,rfl,-⟩:=id X;refine ⟨_,pb,nb,cb,rfl,λkH fy=>(Lc c (X.le fy) (hy.le au) (hz.le au)).s ?_⟩;rintro r lT ij ⟨pv,nv,cv,m,rfl,Y,pm,pw⟩;rw [WT pm pw] at Y;refine ⟨pv,nv,cv,.nilIface,rfl,λmZ hU=>(wX c (e.le au)).s ?_⟩;rintro r pS jN ⟨p2,n2,c2,rfl,Z⟩;have a4:=nF (dh (kn t2 (aY t2.di)));have vl:=yE ((dh (kn t2 (aY t2.di))).flatMap eG);have vz:∀x∈(dh (kn t2 (aY t2.di))).flatMap eG,Sz 100000000 x.1/\Sz 100000000 x.2:=λx=>YC c;have vs:∀x∈jz ((dh (kn t2 (aY t2.di))).flatMap eG),Sz 100000000 x.1/\Sz 100000000 x.2:=λx hx=>vz x ((Cq _).2 x |>.1 hx);have L:∀f∈dh (kn t2 (aY t2.di)),ch f.1=true:=λf k=>F_ok J k;generalize dh (kn t2 (aY t2.di))=F at *;refine ⟨p2,n2,c2,rfl,λsC kt=>(OW VC (Rq _) (hy.le au) (hz.le au)).s ?_⟩;rintro r sE qB rfl;refine ⟨_,rfl,λ_=>⟨.inl rfl,λ_=>⟨.inl rfl,λ_ sN nH=>(yO (Z.le au λ_ _ g=>iI.le g au) ω j).s ?_,π⟩,π⟩,π⟩;rintro r uF pk ⟨p3,n3,c3,rfl,g3⟩;refine ⟨p3,n3,c3,rfl,λDx pM=>(Dy (gf.le au) ((Wu g3).le pM) j ω).s ?_⟩;rintro r HZ Bz rfl;refine ⟨_,rfl,λ_ Nb Jl=>(wY (Z.le au λ_ _ g=>iI.le g au) ω (λf k=>⟨L f k,j f k⟩) vz).s ?_,π⟩;rintro r UB GN ⟨p5,n5,c5,rfl,g5⟩;refine ⟨p5,n5,c5,rfl,λUC H4=>(uO (g5.le H4 λ_ _ g=>cP.le g H4) ω vs).s ?_⟩;rintro r W3 NI ⟨p6,n6,c6,rfl,g6⟩;refine ⟨p6,n6,c6,rfl,λQF H5=>(AR (Y.le au λ_ _ g=>eI.le g au) (g6.le H5 λ_ _ g=>eI.le g H5) ω vs).s ?_⟩;rintro r Yi GO rfl;exact ⟨_,rfl,λYj H6=>rfl⟩
end Go.Proofs.Tryz
namespace Go.Proofs.YtobpmgpnbbcgjaaGreatDoor.bV
open Go.ChangeShapes Go.WideShapes Go.ChangeAt Go.RowKit Go.Eng
section
abbrev Up (b:Program->FuncId->Func->ChangeSpec->OpenClaim->Bool):Prop:=b Tryz.pinned.checked.prog 3 Tryz.f3 (OpenSpec.ofChange Rows.boundaryFragmentsSpec).bare Rows.boundaryFragmentsRow=true
def VO {b:Program->FuncId->Func->ChangeSpec->OpenClaim->md}(h:b Tryz.pinned.checked.prog 3 Tryz.f3 (OpenSpec.ofChange Rows.boundaryFragmentsSpec).bare Rows.boundaryFragmentsRow=true:=by kernel_rfl):Up b:=h
def fact0:Up λP f fn s c=>c.wf (OpenSpec.ofChange s):=VO
def fact1:Up λP f fn s c=>laidOutB P:=VO
def fact2:Up λP f fn s c=>mapsRowed P:=VO
def fact3:Up λP f fn s c=>fn.params.all (P.readableRec ·):=VO
def fact4:Up λP f fn s c=>namedTie P c.named s.vars:=VO
def fact5:Up λP f fn s c=>(c.stops==[]):=VO
def fact6:Up λP f fn s c=>(P.stops==[]):=VO
def fact7:Up λP f fn s c=>(c.knobs==[]):=VO
def fact8:Up λP f fn s c=>(P.stopKnobs==[]):=VO
abbrev fk2 (b:Program->FuncId->Func->ChangeSpec->OpenClaim->Bool):Prop:=b Tryz.pinned.checked.prog 3 Tryz.f3 (OpenSpec.ofChange Rows.boundaryFragmentsSpec).bare Rows.boundaryFragmentsRow=true
def mk2 {b:Program->FuncId->Func->ChangeSpec->OpenClaim->md}(h:b Tryz.pinned.checked.prog 3 Tryz.f3 (OpenSpec.ofChange Rows.boundaryFragmentsSpec).bare Rows.boundaryFragmentsRow=true:=by kernel_rfl):fk2 b:=h
def fact9:fk2 λP f fn s c=>(c.inPlace==P.inPlace f):=mk2
def YG:fk2 λP f fn s c=>(c.unfollowed==P.unfollowed f):=mk2
def YH:fk2 λP f fn s c=>(c.recurses==P.recurses f):=mk2
abbrev Pj (b:Program->FuncId->Func->ChangeSpec->OpenClaim->Bool):Prop:=b Tryz.pinned.checked.prog 3 Tryz.f3 (OpenSpec.ofChange Rows.boundaryFragmentsSpec).bare Rows.boundaryFragmentsRow=true
def Qw {b:Program->FuncId->Func->ChangeSpec->OpenClaim->md}(h:b Tryz.pinned.checked.prog 3 Tryz.f3 (OpenSpec.ofChange Rows.boundaryFragmentsSpec).bare Rows.boundaryFragmentsRow=true:=by kernel_rfl):Pj b:=h
def YI:Pj λP f fn s c=>(c.named==P.varsNamed f):=Qw
def YJ:Pj λP f fn s c=>(c.maps==(fn.params.toList++s.plain.varTypes P).any (P.mapsRec ·)):=Qw
def YK:Pj λP f fn s c=>(c.ifaces==(fn.params.toList++s.plain.varTypes P).any (P.ifacesRec ·)):=Qw
def YL:Pj λP f fn s c=>(c.mapsOut==P.mapsAmong fn.resultTypes.toList):=Qw
def YM:Pj λP f fn s c=>(c.loops==(fn.params.toList++s.plain.varTypes P).any (P.loopsFrom ·)):=Qw
def YN:Pj λP f fn s c=>(c.wideKeys==(fn.params.toList++s.plain.varTypes P++fn.resultTypes.toList).any (P.wideKeysFrom ·)):=Qw
def YO:Pj λP f fn s c=>s.vars.all (P.varReadable ·):=Qw
def YP:Pj λP f fn s c=>fn.resultTypes.all (λt=>P.readableRec t&&decide (t<P.types.size)):=Qw
def YQ:Pj λP f fn s c=>(c.ifacesOut==fn.resultTypes.toList.any (P.ifacesRec ·)):=Qw
def YR:Pj λP f fn s c=>(c.loopsOut==fn.resultTypes.toList.any (P.loopsFrom ·)):=Qw
def YS:Pj λP f fn s c=>(c.plainKeys==P.plainKeys):=Qw
def YT:Pj λP f fn s c=>c.shortTexts.isNone:=Qw
abbrev Vh (b:Program->FuncId->Func->ChangeSpec->OpenClaim->Bool):Prop:=b Tryz.pinned.checked.prog 3 Tryz.f3 (OpenSpec.ofChange Rows.boundaryFragmentsSpec).bare Rows.boundaryFragmentsRow=true
def XN {b:Program->FuncId->Func->ChangeSpec->OpenClaim->md}(h:b Tryz.pinned.checked.prog 3 Tryz.f3 (OpenSpec.ofChange Rows.boundaryFragmentsSpec).bare Rows.boundaryFragmentsRow=true:=by kernel_rfl):Vh b:=h
def YU:Vh λP f fn s c=>P.stopsHeard:=XN
def YV:Vh λP f fn s c=>P.mayEnter:=XN
def YW:Vh λP f fn s c=>(c.lifted==P.liftsFinal):=XN
def YX:Vh λP f fn s c=>(P.make==some c.make):=XN
def YY:Vh λP f fn s c=>(c.kinds==(if c.domain.isEmpty then [] else fn.params.toList.map λt=>match P.underlying t with|some (.int k)=>some k|_=>none)):=XN
def YZ:Vh λP f fn s c=>(c.pinned==c.pinnedBy):=XN
def Y0:Vh λP f fn s c=>(c.veiled==(fn.params.toList++s.plain.varTypes P++fn.resultTypes.toList).any (P.veiledRec ·)):=XN
def Y1:Vh λP f fn s c=>c.veiledFits P fn.params.toList (fn.params.toList++s.plain.varTypes P++fn.resultTypes.toList):=XN
end
section
def goes:false=Rows.boundaryFragmentsRow.goesBy Tryz.pinned.checked.prog:=ζ
end
end Go.Proofs.YtobpmgpnbbcgjaaGreatDoor.bV
