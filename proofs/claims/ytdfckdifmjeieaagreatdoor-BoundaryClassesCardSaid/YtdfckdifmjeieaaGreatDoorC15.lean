import Derived.Test.YtdfckdifmjeieaaGreatDoorC14
set_option linter.all false
open Go.IntKind (i64 u64 u32)
open Go.IntKind renaming i64→Ŵ
open Go.Value renaming slice→yG,agg→hF,bool→dB,pointer→qvJ,int→Ô,tuple→å
namespace Go.Proofs.Tryz
open Go.Eng Go.Big
theorem _root_.Ŷ {A B C D E F:Type}{p:A->B->C->D->E->F->Prop}:(∃a b c d e f,p a b c d e f)->∃t:A×B×C×D×E×F,p t.1 t.2.1 t.2.2.1 t.2.2.2.1 t.2.2.2.2.1 t.2.2.2.2.2:=λ⟨a,b,c,d,e,f,h⟩=>⟨(a,b,c,d,e,f),h⟩
theorem _root_.ŷ {A B C D E F G I J:Type}{p:A->B->C->D->E->F->G->I->J->Prop}:(∃a b c d e f g i j,p a b c d e f g i j)->∃t:A×B×C×D×E×F×G×I×J,p t.1 t.2.1 t.2.2.1 t.2.2.2.1 t.2.2.2.2.1 t.2.2.2.2.2.1 t.2.2.2.2.2.2.1 t.2.2.2.2.2.2.2.1 t.2.2.2.2.2.2.2.2:=λ⟨a,b,c,d,e,f,g,i,j,h⟩=>⟨(a,b,c,d,e,f,g,i,j),h⟩
theorem _root_.Ÿ {A B C D E F G I J K L M:Type}{p:A->B->C->D->E->F->G->I->J->K->L->M->Prop}:(∃a b c d e f g i j k l m,p a b c d e f g i j k l m)->∃t:A×B×C×D×E×F×G×I×J×K×L×M,p t.1 t.2.1 t.2.2.1 t.2.2.2.1 t.2.2.2.2.1 t.2.2.2.2.2.1 t.2.2.2.2.2.2.1 t.2.2.2.2.2.2.2.1 t.2.2.2.2.2.2.2.2.1 t.2.2.2.2.2.2.2.2.2.1 t.2.2.2.2.2.2.2.2.2.2.1 t.2.2.2.2.2.2.2.2.2.2.2:=λ⟨a,b,c,d,e,f,g,i,j,k,l,m,h⟩=>⟨(a,b,c,d,e,f,g,i,j,k,l,m),h⟩
theorem _root_.Ź {A B C D E F G I J K L M N O:Type}{p:A->B->C->D->E->F->G->I->J->K->L->M->N->O->Prop}:(∃a b c d e f g i j k l m n o,p a b c d e f g i j k l m n o)->∃t:A×B×C×D×E×F×G×I×J×K×L×M×N×O,p t.1 t.2.1 t.2.2.1 t.2.2.2.1 t.2.2.2.2.1 t.2.2.2.2.2.1 t.2.2.2.2.2.2.1 t.2.2.2.2.2.2.2.1 t.2.2.2.2.2.2.2.2.1 t.2.2.2.2.2.2.2.2.2.1 t.2.2.2.2.2.2.2.2.2.2.1 t.2.2.2.2.2.2.2.2.2.2.2.1 t.2.2.2.2.2.2.2.2.2.2.2.2.1 t.2.2.2.2.2.2.2.2.2.2.2.2.2:=λ⟨a,b,c,d,e,f,g,i,j,k,l,m,n,o,h⟩=>⟨(a,b,c,d,e,f,g,i,j,k,l,m,n,o),h⟩
variable{V:Ó}{v:Value}{q x y:Rat}{k m:Nat}
def mkRat_one (z:Int):mkRat z 1=(z:Rat):=by apply Rat.ext;{rw [Qs8];simp};rw [Ww3];simp
theorem RD.one {E:Nat}{ty:TypeId}{m:Nat×Nat}(h:V.bo E (.cells #[Ô .u32 1] ty m)):RD V (some ⟨E,0,none⟩) 1 1 [1]:=
 RD.bo (ds:=[1]) h (by simp [cP]) rfl (Ù _)
def pE (b:ut){p:OA}{n c:Nat}{ds:zA Nat}(h:RD V p n c ds)(hm:ds.length<=2^40):À 173 #[hF #[dB b,yG p n c]] V λr W=>RR W r (bO b ds:Rat):=by refine Fq V _ λi j k f=>(dD b ra (RD.one f) hm ψ).s ?_;rintro r V2 l a;have e:mkRat (bO b ds) (val [1])=(bO b ds:Rat):=mkRat_one _;rw [e] at a;obtain ⟨n,d,p,rfl⟩:=a.shape;exact ⟨_,_,_,rfl,λ_ m g=>a.le g⟩
def CK {z:Int}(h:z.natAbs<4611686018427387904):Wd (z:Rat):=⟨h,by show (1:Nat)<_;decide⟩
theorem pD (n:Int)(Z:-9223372036854775808<=n)(h1:n<=9223372036854775807:=by omega):À 157 #[Ô Ŵ n] V λr W=>RR W r (n:Rat):=by have big:∀a:un,V.Le a->À 206 #[Ô Ŵ n] a λd V2=>∃E:ut,∃(F:OA)(M N:Nat),d=hF #[dB E,yG F M N]/\(∀b:un,V2.Le b->∀bk3_:Nat,b.bo bk3_ (.cells #[Ô .u32 1] 245 (0,0))->À 171 #[hF #[dB E,yG F M N],yG (some ⟨bk3_,0,none⟩) 1 1] b λf h=>∃x4_:Int,∃x5_:Int,∃p6_:OA,f=hF #[Ô Ŵ x4_,Ô Ŵ x5_,qvJ p6_]/\∀J7_:C->um,(∀O:un,h.Le O->RR O (hF #[Ô Ŵ x4_,Ô Ŵ x5_,qvJ p6_]) (n:Rat))):=by{intro a j;refine (mK n Z h1).s ?_;rintro r V2 s ⟨p,m,c,rfl,g⟩;refine qyK ⟨rfl,λb t u l=>(dD _ ra (RD.one l) (ÿ (ah (k:=64)) ω) ψ).s ?_⟩;rintro r h v i;have e:mkRat (bO (decide (n<0)) (ai n.natAbs)) (val [1])=(n:Rat):=by{rw [aM];exact mkRat_one _};grind [i.shape,i.le]};refine Mr V _ ⟨λ_=>big,λo=>⟨λ_=>big,λq a j=>.inl ⟨rfl,CK ?_⟩⟩⟩;rw [Ò] at o q;omega
theorem eO (h:RR V v q)(E:Sz k q)(F:k<=2^40:=by omega):À 159 #[v] V λr W=>r=Ô Ŵ q.num.sign:=by rcases h with ⟨rfl,hw⟩|⟨a,b,p,n,c,j,l,m,rfl,o,s,t,i,u,hw⟩;{refine sN V _ ⟨π,λ_=>⟨λh e f=>?_,λh=>⟨λg e f=>?_,λg e f=>?_⟩⟩⟩;{rw [Qd1 (by simpa using h)]};{rw [Qg2 (by simpa using g)]};{have:q.num=0:=by{rw [Ò] at h g;omega};rw [this];rfl}};obtain ⟨rfl,w⟩:=i.inv;refine sN V _ ⟨λ_=>⟨rfl,rfl,decide (q.num<0),p,n,c,a.add 0,rfl,?_,?_,λe f=>(qX _ ra (ÿ (ah E.1) F)).s ?_⟩,π⟩<;>grind [Addr.add,aM]
theorem Kl (h:RR V v q):À 174 #[v] V λr W=>r=dB (decide (q=0)):=by rcases h with ⟨rfl,hw⟩|⟨a,b,p,n,c,f,g,i,rfl,j,k,l,m,o,hw⟩;{grind [sO,Rat.num_eq_zero]};refine sO _ _ _ V _ ⟨π,λ_ s t=>?_⟩;congr 1;symm;rw [Ò];intro e;subst e;exact hw ⟨φ,φ⟩
def pz (h:RR V v q){k:Nat}(M:Sz k q)(N:k<=2^40):À 137 #[v] V λr W=>RR W r (-q):=by rcases h with ⟨rfl,hw⟩|⟨a,b,p,n,c,f,i,j,rfl,m,o,s,t,u,hw⟩;{have:=hw.1;refine uG V _ ⟨π,λ_ w x=>.inl ⟨?_,by unfold Wd;rw [Qp6,Wv6,Ũ];exact hw⟩⟩;rw [ay ω,Qp6,Wv6,Int.zero_sub]};obtain ⟨rfl,D⟩:=t.inv;refine uG V _ ⟨λ_=>⟨rfl,rfl,decide (q.num<0),p,n,c,a.add 0,rfl,?_,?_,rfl,rfl,f,i,j,⟨_,rfl,s⟩,λw x=>(EU _ ra (ÿ (ah M.1) N)).s ?_⟩,π⟩;{exact m};{simpa [Addr.add] using o};rintro r V2 E l;rw [aM] at l;obtain ⟨y,z,A,rfl,g⟩:=l;refine qyK ⟨rfl,λF B C e=>.inr ⟨⟨C,0,none⟩,decide (-q.num<0),y,z,A,f,i,j,rfl,?_,?_,?_,?_,?_,?_⟩⟩;{rw [add_zero'];exact dM (xs:=[_,_,_]) e rfl};{rw [add_zero'];exact dM (xs:=[_,_,_]) e rfl};{rw [add_zero'];exact dM (xs:=[_,_,_]) e rfl};{exact ⟨_,_,_,rfl,g.le B⟩};{exact u.le aA};unfold Wd;rw [Qp6,Wv6,Ũ];exact hw
theorem _root_.Go.Eng.Sz.neg (h:Sz k q):Sz k (-q):=by unfold Sz;rw [Qp6,Wv6,Ũ];exact h
def C7 (z:Int)(g:Nat)(h:(g:Int)∣z):(z/g).natAbs<=z.natAbs:=by rw [Qt7 h,ĩ];exact Qc8 _ _
theorem _root_.Go.Eng.Sz.mkRat {k:Nat}{z:Int}{d:Nat}(E:z.natAbs<2^k)(F:d<2^k)(M:0<k):Sz k (mkRat z d):=by have a:1<2^k:=Qf0 ω;unfold Sz;rw [Qs8,Ww3];split;{exact ⟨ĵ k,a⟩};refine ⟨ş (C7 _ _ (Int.ofNat_dvd_left.2 (Ţ _ _))) E,ş (Qc8 _ _) F⟩
def cD {a b:Nat}(E:a<2^k)(F:b<2^m):a*b<2^(k+m):=by rw [Ė];exact Wq7 E F
def BI (E:Sz k x)(F:Sz m y):(x.num*y.den).natAbs<2^(k+m)/\(y.num*x.den).natAbs<2^(k+m)/\(x.num*y.den+y.num*x.den).natAbs<2^(k+m+1)/\x.den*y.den<2^(k+m):=by have a:(x.num*y.den).natAbs<2^(k+m):=by{rw [Ń,ĩ];exact cD E.1 F.2};have b:(y.num*x.den).natAbs<2^(k+m):=by{rw [Ń,ĩ,Wy5];exact cD F.1 E.2};refine ⟨a,b,?_,cD E.2 F.2⟩;rw [Ĩ];omega
theorem _root_.Go.Eng.Sz.add (E:Sz k x)(F:Sz m y):Sz (k+m+1) (x+y):=by obtain ⟨-,-,a,b⟩:=BI E F;rw [Rat.add_def'];grind [Go.Eng.Sz.mkRat]
theorem _root_.Go.Eng.Sz.sub (E:Sz k x)(F:Sz m y):Sz (k+m+1) (x-y):=by rw [Qs9];exact E.add F.neg
theorem _root_.Go.Eng.Sz.mul (E:Sz k x)(F:Sz m y):Sz (k+m+1) (x*y):=by rw [Wj9];refine (Go.Eng.Sz.mkRat (k:=k+m+1) ?_ ?_ ω);{rw [Ń];exact Ľ (cD E.1 F.1) (ķ ω ω)};exact Ľ (cD E.2 F.2) (ķ ω ω)
def H0 {w:um}(hx:RR V v x)(hy:RR V w y){k m:Nat}(hk:Sz k x)(hm:Sz m y)(hkm:k+m<2^40):À 210 #[v,w] V λr W=>RR W r (x+y):=by
 obtain ⟨M,N,O,rfl⟩:=hx.shape;obtain ⟨P,s1,s2,rfl⟩:=hy.shape;have f:=Rat.add_def' x y;obtain ⟨b1,b2,b3,b4⟩:=BI hk hm
 have gen:(∀V46:un,V.Le V46->À 190 #[hF #[Ô Ŵ M,Ô Ŵ N,qvJ O]] V46 λl Q=>∃b53_:ut,∃(VX:OA)(Vy T4:Nat),l=hF #[dB b53_,yG VX Vy T4]/\(∀V48:un,Q.Le V48->À 226 #[hF #[Ô Ŵ P,Ô Ŵ s1,qvJ s2]] V48 λo R=>∃(p55_:OA)(n55_ c55_:Nat),o=yG p55_ n55_ c55_/\(∀V50:un,R.Le V50->À 258 #[hF #[dB b53_,yG VX Vy T4],hF #[dB false,yG p55_ n55_ c55_]] V50 λq S=>∃b56_:ut,∃(VY:OA)(Vz T5:Nat),q=hF #[dB b56_,yG VY Vz T5]/\(∀V52:un,S.Le V52->À 190 #[hF #[Ô Ŵ P,Ô Ŵ s1,qvJ s2]] V52 λs T=>∃b58_:ut,∃(p59_:OA)(n59_ c59_:Nat),s=hF #[dB b58_,yG p59_ n59_ c59_]/\(∀V54:un,T.Le V54->À 226 #[hF #[Ô Ŵ M,Ô Ŵ N,qvJ O]] V54 λt U=>∃(VZ:OA)(VA T6:Nat),t=yG VZ VA T6/\(∀V56:un,U.Le V56->À 258 #[hF #[dB b58_,yG p59_ n59_ c59_],hF #[dB false,yG VZ VA T6]] V56 λu W=>∃b61_:ut,∃(V_:OA)(VB T7:Nat),u=hF #[dB b61_,yG V_ VB T7]/\(∀V58:un,W.Le V58->À 259 #[hF #[dB b56_,yG VY Vz T5],hF #[dB b61_,yG V_ VB T7]] V58 λz X=>∃b63_:ut,∃(p64_:OA)(n64_ c64_:Nat),z=hF #[dB b63_,yG p64_ n64_ c64_]/\(∀V60:un,X.Le V60->À 226 #[hF #[Ô Ŵ M,Ô Ŵ N,qvJ O]] V60 λA Y=>∃(p65_:OA)(n65_ c65_:Nat),A=yG p65_ n65_ c65_/\(∀V62:un,Y.Le V62->À 226 #[hF #[Ô Ŵ P,Ô Ŵ s1,qvJ s2]] V62 λB Z=>∃(Wa:OA)(n66_ c66_:Nat),B=yG Wa n66_ c66_/\(∀V64:un,Z.Le V64->À 225 #[yG p65_ n65_ c65_,yG Wa n66_ c66_] V64 λC a0=>∃(p67_:OA)(n67_ c67_:Nat),C=yG p67_ n67_ c67_/\(∀V66:un,a0.Le V66->À 171 #[hF #[dB b63_,yG p64_ n64_ c64_],yG p67_ n67_ c67_] V66 λD a1=>∃x68_:Int,∃x69_:Int,∃p70_:OA,D=hF #[Ô Ŵ x68_,Ô Ŵ x69_,qvJ p70_]/\(∀V68:un,a1.Le V68->RR V68 (hF #[Ô Ŵ x68_,Ô Ŵ x69_,qvJ p70_]) (x+y))))))))))))):=by intro j l1;refine (il ra hk).s ?_;rintro r V2 l2 ⟨p1,n1,c1,rfl,H⟩;refine qyK ⟨rfl,λV3 I=>(gC ra hm).s ?_⟩;rintro r V4 l4 ⟨p2,n2,c2,rfl,J⟩;have q1:=ah hk.1;have q2:=ah hk.2;have q3:=ah hm.1;have q4:=ah hm.2;refine ⟨_,_,_,rfl,λV5 l5=>(jK _ false ra ra).s ?_⟩;rintro r V6 l6 h6;rw [aM,vi,ag] at h6;obtain ⟨p3,n3,c3,rfl,E⟩:=h6;refine qyK ⟨rfl,λV7 l7=>(il ra hm).s ?_⟩;rintro r V8 l8 ⟨p4,n4,c4,rfl,g4⟩;refine qyK ⟨rfl,λV9 l9=>(gC ra hk).s ?_⟩;rintro r fD a2 ⟨p5,n5,c5,rfl,g5⟩;refine ⟨_,_,_,rfl,λeX dq=>(jK _ false ra ra).s ?_⟩;rintro r gQ eJ F;rw [aM,vi,ag] at F;obtain ⟨p6,n6,c6,rfl,g6⟩:=F;have q5:=ah b1;have q6:=ah b2;refine qyK ⟨rfl,λji fk=>(ET _ _ ra ra ω).s ?_⟩;rintro r lH iL Xs;rw [aM,aM] at Xs;obtain ⟨p7,n7,c7,rfl,g7⟩:=Xs;refine qyK ⟨rfl,λmJ iE=>(gC ra hk).s ?_⟩;rintro r ko gV ⟨p8,n8,c8,rfl,g8⟩;refine ⟨_,_,_,rfl,λnk kf=>(gC ra hm).s ?_⟩;rintro r nq iF ⟨p9,n9,c9,rfl,g9⟩;refine ⟨_,_,_,rfl,λqM lD=>(jv ra ra).s ?_⟩;rintro r uJ kN ⟨a9,b0,b5,rfl,a3⟩;rw [ag,ag] at a3;have q7:=ah b3;have q8:=ah b4;refine ⟨_,_,_,rfl,λtM rI=>(dD _ ra ra ω).s ?_⟩;rintro r vO oX g;rw [aM,ag,<-f] at g;obtain ⟨n,d,p,rfl⟩:=g.shape;exact ⟨_,_,_,rfl,λvP oY=>g.le oY⟩
 have lift:∀j:un,V.Le j->∀V2:un,j.Le V2->V.Le V2:=λ_ h _ h'=>h.m h';rcases hx with ⟨ex,wx⟩|⟨a,b,p,n,c,p',n',c',ex,-,-,-,-,-,wx⟩
 ·rcases hy with ⟨G,wy⟩|⟨a,b,p,n,c,p',n',c',G,-,-,-,-,-,wy⟩
  ·simp only [Value.agg.injEq] at ex G;obtain ⟨rfl,rfl,rfl⟩:=ex;obtain ⟨rfl,rfl,rfl⟩:=G;obtain ⟨a4,b6⟩:=wx;obtain ⟨a5,b7⟩:=wy;have e1:Ŵ.wrap ((x.den:Int)-1+1)=x.den:=by rw [ay ω];omega
   have e2:Ŵ.wrap ((y.den:Int)-1+1)=y.den:=by rw [ay ω];omega
   refine nR V _ ⟨λ_=>⟨λ_ _=>True,⟨λ_=>⟨λK=>⟨λL j l1=>?_,λL=>?_⟩,λK=>?_⟩,π⟩,λ_ j l1 _=>⟨θ,λV2 l2=>gen V2 aA⟩⟩,π⟩
   ·have K:x.den=1:=by{rw [Ë] at K;omega};have L:y.den=1:=by{rw [Ë] at L;omega};rw [ay ω];refine (pD _ ω).s ?_;rintro r V2 l2 i;have e:((x.num+y.num:Int):Rat)=x+y:=by{rw [f,K,L];simp only [Int.natCast_one,Int.mul_one];exact (mkRat_one _).symm};rw [e] at i;obtain ⟨n,d,p,rfl⟩:=i.shape;exact ⟨_,_,_,rfl,λV3 I=>i.le I⟩
   all_goals
    rw [e1,e2];refine λV4 l4=>(iT _ _ a4).s ?_;rintro r V5 l5 ⟨z1,rfl,a6⟩;refine ⟨_,_,rfl,λV6 l6=>(iT _ _ a5).s ?_⟩;rintro r V7 l7 ⟨z2,rfl,a7⟩;refine ⟨_,_,rfl,λV8 l8=>(iT _ _ ω).s ?_⟩;rintro r V9 l9 ⟨z3,rfl,a8⟩;refine ⟨_,_,rfl,λH=>⟨λJ=>⟨λE=>⟨λg4=>⟨λg5 fD a2=>?_,λ_=>⟨(),σ,trivial⟩⟩,λ_=>⟨(),σ,trivial⟩⟩,λ_=>⟨(),σ,trivial⟩⟩,λ_=>⟨(),σ,trivial⟩⟩,λ_=>⟨(),σ,trivial⟩⟩;rw [Ñ] at H J E g4 g5;have k1:=a6 H;have k2:=a7 J;have k3:=a8 E;rw [<-k1] at H;rw [<-k2] at J;rw [<-Ś,ĩ] at E;rw [<-Ś] at k3;rw [ay ω] at g4 g5 ⊢;rw [k3];refine (ue _ _ ω E (ō x.den_nz y.den_nz)).s ?_;rintro r eX dq i;rw [k1,k2,<-f] at i;obtain ⟨n,d,p,rfl⟩:=i.shape;exact ⟨_,_,_,rfl,λV3 I=>i.le I⟩
  ·simp only [Value.agg.injEq] at ex G;obtain ⟨rfl,rfl,rfl⟩:=ex;obtain ⟨rfl,rfl,rfl⟩:=G;exact nR V _ ⟨λ_=>⟨λ_ _=>True,⟨π,λ_=>⟨(),σ,trivial⟩⟩,λ_ j l1 _=>⟨θ,λV2 l2=>gen V2 aA⟩⟩,π⟩
 ·simp only [Value.agg.injEq] at ex;obtain ⟨rfl,rfl,rfl⟩:=ex;exact nR V _ ⟨π,λ_=>gen⟩
end Go.Proofs.Tryz
namespace Go.Big
variable{x y:Rat}
def dw (x y:Rat):Int:=(x-y).num.sign
def eW (x y:Rat):Rat:=mkRat (Nat.gcd (x.num.natAbs*y.den) (y.num.natAbs*x.den):Nat) (x.den*y.den)
def Ln {q:Rat}:q.num<0↔q<0:=by have:=@Wz1 q;rw [<-Rat.not_le,<-this];omega
def Lo {q:Rat}:0<q.num↔0<q:=by rw [Rat.lt_iff_le_and_ne,<-(@Wz1 q)];constructor;{intro h;exact ⟨ω,λe=>by rw [<-e] at h;simp at h⟩};rintro ⟨h,a⟩;have:q.num≠0:=λe=>a ((@š q).1 e).symm;omega
def Bf:x<y↔dw x y=-1:=by unfold dw;rw [Wx4,Ln,Rat.lt_iff_sub_pos x y,<-Rat.neg_sub y x];constructor;{intro h;have:=Rat.neg_lt_neg h;simpa using this};intro h;have:=Rat.neg_lt_neg h;rw [Rat.neg_neg] at this;simpa using this
def Ig:y<x↔dw x y=1:=by unfold dw;rw [Int.sign_eq_one_iff_pos,Lo,Rat.lt_iff_sub_pos y x]
def iW:x=y↔dw x y=0:=by unfold dw;rw [Qm8,š];constructor;{intro h;subst h;exact Rat.sub_self};intro h;have:=Æ (·+ y) h;simpa [Rat.sub_add_cancel,Rat.zero_add] using this
end Go.Big
namespace Go.Proofs.Tryz
open Go.Eng Go.Big
variable{V:Ó}{v w:Value}{x y:Rat}{k m:Nat}
def PV (E:RR V v x)(F:RR V w y){k m:Nat}(M:Sz k x)(hm:Sz m y)(hkm:k+m<2^40):À 208 #[v,w] V λr W=>RR W r (x-y):=by obtain ⟨e,f,g,rfl⟩:=E.shape;obtain ⟨h,s1,s2,rfl⟩:=F.shape;refine Fp V _ λi j=>(pz ra hm ω).s λr V2 l b=>RR.ex b λ_ b=>λo q=>(H0 ra ra M hm.neg hkm).s ?_;rintro r s t a;rw [<-Qs9] at a;obtain ⟨n,d,p,rfl⟩:=a.shape;exact ⟨_,_,_,rfl,λu c=>a.le c⟩
def iS (Z:RR V v x)(hy:RR V w y)(hk:Sz k x)(hm:Sz m y)(hkm:k+m<2^40:=by omega):À 180 #[v,w] V λr W=>r=Ô Ŵ (dw x y):=by obtain ⟨u,z,A,rfl⟩:=Z.shape;obtain ⟨B,s1,s2,rfl⟩:=hy.shape;have gen:∀lH:un,V.Le lH->À 208 #[hF #[Ô Ŵ u,Ô Ŵ z,qvJ A],hF #[Ô Ŵ B,Ô Ŵ s1,qvJ s2]] lH λd C=>∃x9_:Int,∃x10_:Int,∃p11_:OA,d=hF #[Ô Ŵ x9_,Ô Ŵ x10_,qvJ p11_]/\(∀ko:un,C.Le ko->À 159 #[hF #[Ô Ŵ x9_,Ô Ŵ x10_,qvJ p11_]] ko λf D=>∃x12_:Int,f=Ô Ŵ x12_/\(∀nq:un,D.Le nq->Value.int Ŵ x12_=Ô Ŵ (dw x y))):=by{intro i j;refine (PV ra ra hk hm hkm).s λr V2 M s=>RR.ex s λ_ s=>λN O=>(eO ra (hk.sub hm)).s ?_;rintro r P Q rfl;exact ⟨_,rfl,λ_ _=>rfl⟩};rcases Z with ⟨ex,E⟩|⟨a,b,p,n,c,F,G,H,ex,-,-,-,-,-,E⟩;{rcases hy with ⟨g,I⟩|⟨a,b,p,n,c,F,G,H,g,-,-,-,-,-,I⟩;{simp only [Value.agg.injEq,Qf8,œ,Value.int.injEq,Value.pointer.injEq,Î,Í] at ex g;obtain ⟨rfl,rfl,rfl⟩:=ex;obtain ⟨rfl,rfl,rfl⟩:=g;have l:x.den=y.den->((x<y↔x.num<y.num)/\(y<x↔y.num<x.num)/\(x=y↔x.num=y.num)):=by{intro e;have t:(0:Int)<y.den:=by{have:=y.den_nz;omega};refine ⟨?_,?_,λh=>by rw [h],λh=>Rat.ext h e⟩;{rw [Rat.lt_iff,e];exact ⟨λh=>Wy2 h ω,λh=>Wx5 h t⟩};rw [Rat.lt_iff,e];exact ⟨λh=>Wy2 h ω,λh=>Wx5 h t⟩};refine nS V _ ⟨λ_=>⟨λ_=>⟨λo=>?_,λ_=>gen⟩,π⟩,π⟩;have o:x.den=y.den:=by{rw [Ë] at o;omega};have ⟨J,K,L⟩:=l o;refine ⟨λh i j=>?_,λh=>⟨λq i j=>?_,λq i j=>?_⟩⟩;{rw [Bf.1 (J.2 (by simpa using h))]};{rw [Ig.1 (K.2 (by simpa using q))]};rw [iW.1 (L.2 (by rw [Ò] at h q;omega))]};simp only [Value.agg.injEq,Qf8,œ,Value.int.injEq,Value.pointer.injEq,Î,Í] at ex g;obtain ⟨rfl,rfl,rfl⟩:=ex;obtain ⟨rfl,rfl,rfl⟩:=g;exact nS V _ ⟨λ_=>⟨π,λ_=>gen⟩,π⟩};simp only [Value.agg.injEq,Qf8,œ,Value.int.injEq,Value.pointer.injEq,Î,Í] at ex;obtain ⟨rfl,rfl,rfl⟩:=ex;exact nS V _ ⟨π,λ_=>gen⟩
def yg (E:RR V v x)(F:RR V w y)(M:Sz k x)(hm:Sz m y)(hkm:k+m<2^40:=by omega):À 176 #[v,w] V λr W=>r=dB (decide (x=y)):=by obtain ⟨a,b,c,rfl⟩:=E.shape;obtain ⟨d,s1,s2,rfl⟩:=F.shape;refine AB V _ λe f=>(iS ra ra M hm hkm).s λr V2 g rfl=>⟨_,rfl,λh i=>?_⟩;congr 1;rw [ģ,Ë,Ñ,iW]
def KU (E:Sz k x)(F:Sz m y):x.num.natAbs*y.den<2^(k+m)/\y.num.natAbs*x.den<2^(k+m)/\Nat.gcd (x.num.natAbs*y.den) (y.num.natAbs*x.den)<2^(k+m)/\x.den*y.den<2^(k+m):=by have a:=cD E.1 F.2;have b:y.num.natAbs*x.den<2^(k+m):=by{rw [Wy5];exact cD F.1 E.2};refine ⟨a,b,?_,cD E.2 F.2⟩;rcases ĺ (x.num.natAbs*y.den) with e|e;{rw [e,Qr2];exact b};exact ş (Ww4 e (Ņ _ _)) a
def ik (E:Sz k x)(F:Sz m y):Sz (k+m+1) (eW x y):=by obtain ⟨-,-,a,b⟩:=KU E F;have c:2^(k+m)<=2^(k+m+1):=ķ ω ω;exact Go.Eng.Sz.mkRat (by rw [ĩ];omega) ω ω
def lK (hx:RR V v x)(hy:RR V w y)(hk:Sz k x)(hm:Sz m y)(hkm:k+m<2^40:=by omega):À 175 #[v,w] V λr W=>RR W r (eW x y):=by obtain ⟨C,D,E,rfl⟩:=hx.shape;obtain ⟨F,s1,s2,rfl⟩:=hy.shape;obtain ⟨b1,b2,b3,b4⟩:=KU hk hm;have q1:=ah hk.1;have q2:=ah hk.2;have q3:=ah hm.1;have q4:=ah hm.2;have q5:=ah b1;have q6:=ah b2;have q7:=ah b3;have q8:=ah b4;have gen:(∀V78:un,V.Le V78->À 226 #[hF #[Ô Ŵ C,Ô Ŵ D,qvJ E]] V78 λg G=>∃(p52_:OA)(n52_ c52_:Nat),g=yG p52_ n52_ c52_/\(∀V80:un,G.Le V80->À 226 #[hF #[Ô Ŵ F,Ô Ŵ s1,qvJ s2]] V80 λi H=>∃(p53_:OA)(n53_ c53_:Nat),i=yG p53_ n53_ c53_/\(∀V82:un,H.Le V82->À 225 #[yG p52_ n52_ c52_,yG p53_ n53_ c53_] V82 λj I=>∃(VX:OA)(Vy T4:Nat),j=yG VX Vy T4/\(∀V84:un,I.Le V84->À 190 #[hF #[Ô Ŵ C,Ô Ŵ D,qvJ E]] V84 λl J=>∃b55_:ut,∃(p56_:OA)(n56_ c56_:Nat),l=hF #[dB b55_,yG p56_ n56_ c56_]/\(∀V86:un,J.Le V86->À 226 #[hF #[Ô Ŵ F,Ô Ŵ s1,qvJ s2]] V86 λo K=>∃(VY:OA)(Vz T5:Nat),o=yG VY Vz T5/\(∀V88:un,K.Le V88->À 225 #[yG p56_ n56_ c56_,yG VY Vz T5] V88 λq L=>∃(p58_:OA)(n58_ c58_:Nat),q=yG p58_ n58_ c58_/\(∀V90:un,L.Le V90->À 190 #[hF #[Ô Ŵ F,Ô Ŵ s1,qvJ s2]] V90 λs M=>∃b59_:ut,∃(VZ:OA)(VA T6:Nat),s=hF #[dB b59_,yG VZ VA T6]/\(∀V92:un,M.Le V92->À 226 #[hF #[Ô Ŵ C,Ô Ŵ D,qvJ E]] V92 λt N=>∃(p61_:OA)(n61_ c61_:Nat),t=yG p61_ n61_ c61_/\(∀V94:un,N.Le V94->À 225 #[yG VZ VA T6,yG p61_ n61_ c61_] V94 λu O=>∃(V_:OA)(VB T7:Nat),u=yG V_ VB T7/\(∀V96:un,O.Le V96->À 216 #[yG p58_ n58_ c58_,yG V_ VB T7] V96 λz P=>∃(p63_:OA)(n63_ c63_:Nat),z=yG p63_ n63_ c63_/\(∀V98:un,P.Le V98->À 171 #[hF #[dB false,yG p63_ n63_ c63_],yG VX Vy T4] V98 λA Q=>∃x64_:Int,∃x65_:Int,∃Wa:OA,A=hF #[Ô Ŵ x64_,Ô Ŵ x65_,qvJ Wa]/\(∀V100:un,Q.Le V100->RR V100 (hF #[Ô Ŵ x64_,Ô Ŵ x65_,qvJ Wa]) (eW x y))))))))))))):=by{intro X Y;refine (gC ra hk).s ?_;rintro r V2 Z ⟨p1,n1,c1,rfl,g1⟩;refine ⟨_,_,_,rfl,λV3 l3=>(gC ra hm).s ?_⟩;rintro r V4 l4 ⟨p2,n2,c2,rfl,g2⟩;refine ⟨_,_,_,rfl,λV5 l5=>(jv ra ra).s ?_⟩;rintro r V6 l6 ⟨p3,n3,c3,rfl,g3⟩;rw [ag,ag] at g3;refine ⟨_,_,_,rfl,λV7 l7=>(il ra hk).s ?_⟩;rintro r V8 l8 ⟨p4,n4,c4,rfl,g4⟩;refine qyK ⟨rfl,λV9 l9=>(gC ra hm).s ?_⟩;rintro r fD a0 ⟨p5,n5,c5,rfl,g5⟩;refine ⟨_,_,_,rfl,λeX dq=>(jv ra ra).s ?_⟩;rintro r gQ eJ ⟨p6,n6,c6,rfl,g6⟩;rw [ag,ag] at g6;refine ⟨_,_,_,rfl,λji fk=>(il ra hm).s ?_⟩;rintro r lH iL ⟨p7,n7,c7,rfl,g7⟩;refine qyK ⟨rfl,λmJ iE=>(gC ra hk).s ?_⟩;rintro r ko gV ⟨p8,n8,c8,rfl,g8⟩;refine ⟨_,_,_,rfl,λnk kf=>(jv ra ra).s ?_⟩;rintro r nq iF ⟨p9,n9,c9,rfl,g9⟩;rw [ag,ag] at g9;refine ⟨_,_,_,rfl,λqM lD=>(yk ra ra ω).s ?_⟩;rintro r uJ kN ⟨a1,a2,a3,rfl,R⟩;rw [ag,ag] at R;refine ⟨_,_,_,rfl,λtM rI=>(dD false ra ra ω).s ?_⟩;rintro r vO oX f;rw [vi,ag,ag] at f;obtain ⟨n,d,p,rfl⟩:=f.shape;exact ⟨_,_,_,rfl,λvP oY=>f.le oY⟩};rcases hx with ⟨ex,wx⟩|⟨a,b,p,n,c,p',n',c',ex,-,-,-,-,-,wx⟩;{rcases hy with ⟨B,wy⟩|⟨a,b,p,n,c,p',n',c',B,-,-,-,-,-,wy⟩;{simp only [Value.agg.injEq,Qf8,œ,Value.int.injEq,Value.pointer.injEq,Î,Í] at ex B;obtain ⟨rfl,rfl,rfl⟩:=ex;obtain ⟨rfl,rfl,rfl⟩:=B;obtain ⟨S,a4⟩:=wx;obtain ⟨T,a5⟩:=wy;refine sM V _ ⟨λ_=>⟨λ_=>⟨λU=>⟨λ_ _=>True,⟨λW X Y=>?_,λ_=>⟨(),σ,trivial⟩⟩,λ_ X Y _=>⟨θ,λV2 Z=>gen V2 aA⟩⟩,λ_=>gen⟩,π⟩,π⟩;have U:x.den=1:=by{rw [Ë] at U;omega};have W:y.den=1:=by{rw [Ë] at W;omega};refine (lL _ ω).s ?_;rintro r V2 Z rfl;refine ⟨_,rfl,λV3 l3=>(lL _ ω).s ?_⟩;rintro r V4 l4 rfl;refine ⟨_,rfl,λV5 l5=>(B5 _ _ ω).s ?_⟩;rintro r V6 l6 rfl;refine ⟨_,rfl,λV7 l7=>.inl ?_⟩;have e:eW x y=((Nat.gcd x.num.natAbs y.num.natAbs:Nat):Int):=by{unfold eW;rw [U,W,Ģ,Ģ,Ģ];exact mkRat_one _};have hl:Nat.gcd x.num.natAbs y.num.natAbs<4611686018427387904:=by{rcases ĺ x.num.natAbs with e|e;{rw [e,Qr2];exact T};exact ş (Ww4 e (Ņ _ _)) S};rw [e,ay ω];exact ⟨rfl,CK (by rw [ĩ];exact hl)⟩};simp only [Value.agg.injEq,Qf8,œ,Value.int.injEq,Value.pointer.injEq,Î,Í] at ex B;obtain ⟨rfl,rfl,rfl⟩:=ex;obtain ⟨rfl,rfl,rfl⟩:=B;exact sM V _ ⟨λ_=>⟨π,λ_=>gen⟩,π⟩};simp only [Value.agg.injEq,Qf8,œ,Value.int.injEq,Value.pointer.injEq,Î,Í] at ex;obtain ⟨rfl,rfl,rfl⟩:=ex;exact sM V _ ⟨π,λ_=>gen⟩
def yr {p:OA}{n c x:Nat}(h:RN V p n c x):À 96 #[dB false,yG p n c] V λr W=>RI W r (x:Int):=by have:=fO false h;rwa [Ã φ] at this
def dF (h:Sz k x):(ai x.num.natAbs).length<=k/\(ai x.den).length<=k/\(ai (x.den:Int).natAbs).length<=k:=⟨ah h.1,ah h.2,ah h.2⟩
def eF (hx:RQ V v x)(hy:RQ V w y){k m:Nat}(hk:Sz k x)(hm:Sz m y)(hkm:k+m<2^38):À 40 #[v,w] V λr W=>RQ W r (x+y):=by obtain ⟨p,n,c,j,l,o,rfl,s,b⟩:=hx;obtain ⟨q,i,e,t,u,A,rfl,B,f⟩:=hy;obtain ⟨b1,b2,b3,b4⟩:=BI hk hm;have ⟨d1,d2,d3⟩:=dF hk;have ⟨d4,d5,d6⟩:=dF hm;have a:=Rat.add_def' x y;refine (λtail=>MO V _ ⟨λC=>⟨λD E F=>?_,λ_=>tail⟩,λ_=>tail⟩) ?_;{clear tail;refine (yo x.num y.num ra ra ω).s ?_;rintro r V2 G ⟨p2,n2,c2,rfl,g⟩;have H:x+y=((x.num+y.num:Int):Rat):=by{rw [a,((rz b).1 (by simp at C;omega)),((rz f).1 (by simp at D;omega))];simp [Qh7]};rw [H];exact qyK ⟨rfl,λI J=>uA (z:=x.num+y.num) (d:=1) rfl rfl ra RD.nil rfl⟩};intro E F;refine (dV y _ ra).s ?_;rintro r V2 G ⟨p1,n1,c1,rfl,g1⟩;refine ⟨_,_,_,rfl,λI J=>(yr ra).s ?_⟩;rintro r V4 l4 ⟨p3,n3,c3,rfl,g3⟩;refine qyK ⟨rfl,λV5 l5=>(oh x.num y.den ra ra).s ?_⟩;rintro r V6 l6 ⟨p5,n5,c5,rfl,g5⟩;refine qyK ⟨rfl,λV7 l7=>(dV x _ ra).s ?_⟩;rintro r V8 l8 ⟨p7,n7,c7,rfl,g7⟩;refine ⟨_,_,_,rfl,λV9 l9=>(yr ra).s ?_⟩;rintro r fD K ⟨p9,n9,c9,rfl,g9⟩;refine qyK ⟨rfl,λeX dq=>(oh y.num x.den ra ra).s ?_⟩;rintro r gQ eJ ⟨L,M,N,rfl,O⟩;refine qyK ⟨rfl,λji fk=>(yo _ _ ra ra (ÿ (ah b1) ω) (ÿ (ah b2) ω)).s ?_⟩;rintro r lH iL ⟨P,Q,R,rfl,S⟩;refine qyK ⟨rfl,λmJ iE=>(dV x _ ra).s ?_⟩;rintro r ko gV ⟨T,U,W,rfl,X⟩;refine ⟨_,_,_,rfl,λnk kf=>(dV y _ ra).s ?_⟩;rintro r nq iF ⟨Y,Z,a0,rfl,a1⟩;refine ⟨_,_,_,rfl,λqM lD=>(dE ra ra).s ?_⟩;rintro r uJ kN ⟨a2,a3,a4,rfl,h⟩;rw [ag,ag] at h;refine ⟨_,_,_,rfl,λtM rI=>(lO _ ra ra (ÿ (ah b3) ω) (ÿ (ah b4) ω) (ō x.den_nz y.den_nz)).s ?_⟩;rw [a];rintro r vO oX ⟨a5,a6,a7,a8,a9,b0,rfl,b5,b6⟩;exact qxQ ⟨rfl,λvP oY=>⟨_,_,_,_,_,_,rfl,ra,ra⟩⟩
def iH (Z:RQ V v x)(hy:RQ V w y)(hk:Sz k x)(hm:Sz m y)(hkm:k+m<2^38:=by omega):À 38 #[v,w] V λr W=>RQ W r (x-y):=by obtain ⟨p,n,c,a,b,d,rfl,f,g⟩:=id Z;obtain ⟨q,i,e,h,j,l,rfl,o,s⟩:=hy;refine Px V _ λu z=>(oq y ra ra).s ?_;rintro r V2 A t;obtain ⟨B,C,D,E,F,G,rfl,H,I⟩:=id t;refine qxQ ⟨rfl,λJ K=>(eF ra ra hk hm.neg hkm).s ?_⟩;rw [<-Qs9];rintro r L M ⟨N,O,P,Q,R,S,rfl,T,U⟩;exact qxQ ⟨rfl,λW X=>⟨_,_,_,_,_,_,rfl,ra,ra⟩⟩
def e_ (Z:RQ V v x)(hy:RQ V w y)(hk:Sz k x)(hm:Sz m y)(hkm:k+m<2^38:=by omega):À 51 #[v,w] V λr W=>r=Ô Ŵ (dw x y):=by have a:=Z;have b:=hy;obtain ⟨p,n,c,d,f,g,rfl,h,j⟩:=Z;obtain ⟨q,i,e,l,o,s,rfl,t,u⟩:=hy;refine Xa V _ λz A=>(iH ra ra hk hm hkm).s ?_;rintro r V2 B ⟨C,D,E,F,G,H,rfl,I,J⟩;refine qxQ ⟨rfl,λK L=>(sW (x-y) ra).s ?_⟩;rintro r M N rfl;exact ⟨_,rfl,λO P=>rfl⟩
def bK (hx:RQ V v x)(hy:RQ V w y){k m:Nat}(hk:Sz k x)(hm:Sz m y)(hkm:k+m<2^38):À 90 #[v,w] V λr W=>RQ W r (x*y):=by obtain ⟨p,n,c,h,j,l,rfl,o,b⟩:=hx;obtain ⟨q,i,e,s,t,u,rfl,A,f⟩:=hy;have ⟨d1,d2,d3⟩:=dF hk;have ⟨d4,d5,d6⟩:=dF hm;have a:=Wj9 x y;have b1:(x.num*y.num).natAbs<2^(k+m):=by{rw [Ń];exact cD hk.1 hm.1};refine (λtail=>JE V _ ⟨λB=>⟨λC D E=>?_,λ_=>tail⟩,λ_=>tail⟩) ?_;{clear tail;refine (oh x.num y.num ra ra).s ?_;rintro r V2 F ⟨G,H,I,rfl,g⟩;have J:x*y=((x.num*y.num:Int):Rat):=by{rw [a,((rz b).1 (by simp at B;omega)),((rz f).1 (by simp at C;omega))];simp [Qh7]};rw [J];exact qyK ⟨rfl,λK L=>uA (z:=x.num*y.num) (d:=1) rfl rfl ra RD.nil rfl⟩};intro D E;refine (oh x.num y.num ra ra).s ?_;rintro r V2 F ⟨G,H,I,rfl,W⟩;refine qyK ⟨rfl,λK L=>(dV x _ ra).s ?_⟩;rintro r X Y ⟨Z,n4,c4,rfl,g4⟩;refine ⟨_,_,_,rfl,λV5 l5=>(dV y _ ra).s ?_⟩;rintro r V6 l6 ⟨p6,n6,c6,rfl,g6⟩;refine ⟨_,_,_,rfl,λV7 l7=>(dE ra ra).s ?_⟩;rintro r V8 l8 ⟨p8,n8,c8,rfl,M⟩;rw [ag,ag] at M;refine ⟨_,_,_,rfl,λV9 l9=>(lO _ ra ra (ÿ (ah b1) ω) (ÿ (ah (cD hk.2 hm.2)) ω) (ō x.den_nz y.den_nz)).s ?_⟩;rw [a];rintro r vO oX ⟨N,O,P,Q,R,S,rfl,T,U⟩;exact qxQ ⟨rfl,λvP oY=>⟨_,_,_,_,_,_,rfl,ra,ra⟩⟩
end Go.Proofs.Tryz
namespace Go.Eng
open Go.Big
variable{V:Ó}
def RP (V:Ó)(v:Value)(x y:Rat):Prop:=∃p n c E n' F q m e M N O,v=.agg #[.bool (decide (x.num<0)),.slice p n c,.slice E n' F,.bool (decide (y.num<0)),.slice q m e,.slice M N O] /\
 RQ V (.agg #[.bool (decide (x.num<0)),.slice p n c,.slice E n' F]) x/\RQ V (.agg #[.bool (decide (y.num<0)),.slice q m e,.slice M N O]) y
def RP.le {V V':un}{v:um}{x y:Rat}(h:RP V v x y)(l:V.Le V'):RP V' v x y:=by obtain ⟨p,n,c,a,b,d,q,m,e,f,g,i,rfl,j,k⟩:=h;exact ⟨p,n,c,a,b,d,q,m,e,f,g,i,rfl,ra,ra⟩
def RQ.shape {v:um}{q:Rat}(h:RQ V v q):∃p n c E n' F,v=hF #[dB (decide (q.num<0)),yG p n c,yG E n' F]:=by obtain ⟨p,n,c,E,n',F,e,-⟩:=h;exact qyJ e
def RQ.ex {r:um}{q:Rat}{K:ut->OA->Nat->Nat->OA->Nat->Nat->Prop}(g:RQ V r q)(h:∀t:OA×Nat×Nat×OA×Nat×Nat,RQ V (hF #[dB (decide (q.num<0)),yG t.1 t.2.1 t.2.2.1,yG t.2.2.2.1 t.2.2.2.2.1 t.2.2.2.2.2]) q->K (decide (q.num<0)) t.1 t.2.1 t.2.2.1 t.2.2.2.1 t.2.2.2.2.1 t.2.2.2.2.2):∃b p n c E n' F,r=hF #[dB b,yG p n c,yG E n' F]/\K b p n c E n' F:=by obtain ⟨_,rfl⟩:=Ŷ g.shape;exact qxQ ⟨rfl,h (_,_,_,_,_,_) g⟩
def RP.ex {r:um}{x y:Rat}{K:ut->OA->Nat->Nat->OA->Nat->Nat->ut->OA->Nat->Nat->OA->Nat->Nat->Prop}(g:RP V r x y)(h:∀t u:OA×Nat×Nat×OA×Nat×Nat,RP V (hF #[dB (decide (x.num<0)),yG t.1 t.2.1 t.2.2.1,yG t.2.2.2.1 t.2.2.2.2.1 t.2.2.2.2.2,dB (decide (y.num<0)),yG u.1 u.2.1 u.2.2.1,yG u.2.2.2.1 u.2.2.2.2.1 u.2.2.2.2.2]) x y ->RQ V (hF #[dB (decide (x.num<0)),yG t.1 t.2.1 t.2.2.1,yG t.2.2.2.1 t.2.2.2.2.1 t.2.2.2.2.2]) x->RQ V (hF #[dB (decide (y.num<0)),yG u.1 u.2.1 u.2.2.1,yG u.2.2.2.1 u.2.2.2.2.1 u.2.2.2.2.2]) y->K (decide (x.num<0)) t.1 t.2.1 t.2.2.1 t.2.2.2.1 t.2.2.2.2.1 t.2.2.2.2.2 (decide (y.num<0)) u.1 u.2.1 u.2.2.1 u.2.2.2.1 u.2.2.2.2.1 u.2.2.2.2.2):∃b p n c E n' F d q m e M N O,r=hF #[dB b,yG p n c,yG E n' F,dB d,yG q m e,yG M N O]/\K b p n c E n' F d q m e M N O:=by obtain ⟨_,rfl,a,f⟩:=Ÿ g;exact qxW ⟨rfl,h (_,_,_,_,_,_) (_,_,_,_,_,_) g a f⟩
end Go.Eng
namespace Go.Proofs.Tryz
open Go.Eng Go.Big
variable{V:Ó}{u w:Value}{px py qx qy:Rat}
def zG {p:OA}{n c:Nat}{ds:zA Nat}(h:RD V p n c ds)(hm:ds.length<=2^40:=by omega):À 107 #[yG p n c] V λr W=>∃E F c1,r=yG E F c1/\RD W E F c1 ds:=by have a:=h.len;refine JG V _ ⟨aQ ds,h.sl,by simp [a],ω,ω,ψ,by simp [a],?_,?_⟩;{intro v e;simp only [aQ,þ] at e;obtain ⟨d,-,rfl⟩:=e;rfl};intro i J sp j f k l m b g;refine ⟨_,_,_,rfl,?_⟩;simp only [ĉ,ŝ,Qf6,Œ] at g f ⊢;exact ı h.gi a f g
def mL {v:um}{z:Int}(h:RI V v z)(hm:(ai z.natAbs).length<=2^40:=by omega):À 106 #[v] V λr W=>RI W r z:=by obtain ⟨p,n,c,rfl,h⟩:=h;refine JF V _ λa b=>(zG ra hm).s ?_;rintro r V2 d ⟨e,f,i,rfl,g⟩;exact ⟨_,_,_,rfl,λj k=>⟨_,_,_,rfl,ra⟩⟩
def dO (x y:Int)(E:-9223372036854775808<=x)(F:x<=9223372036854775807)(M:-9223372036854775808<=y)(N:y<=9223372036854775807:=by omega):À 60 #[Ô Ŵ x,Ô Ŵ y] V λr W=>RP W r (x:Rat) (y:Rat):=by refine MY V _ λc d=>(dN x E F).s λr V2 e a=>RQ.ex a λ_ a=>λf g=>(dN y M N).s λr h i b=>RQ.ex b λ_ b=>λj k=>⟨_,_,_,_,_,_,_,_,_,_,_,_,rfl,ra,ra⟩
def fP {v:um}{c:Rat}(hp:RP V u px py)(hc:RQ V v c)(hq:RP V w qx qy){k m:Nat}(s1:Sz k px)(s2:Sz k py)(s3:Sz m c)(s4:Sz m qx)(s5:Sz m qy)(hkm:k+(m+m+1)<2^38):À 36 #[u,v,w] V λr W=>RP W r (px+c*qx) (py+c*qy):=by obtain ⟨f,g,h,i,j,l,n,o,p,q,s,t,rfl,x,y⟩:=hp;obtain ⟨z,A,B,C,D,E,rfl⟩:=hc.shape;obtain ⟨F,G,H,I,J,K,L,M,N,O,P,Q,rfl,R,S⟩:=hq;refine JI V _ λT U=>(bK ra ra s3 s4 ω).s λr V2 W a=>RQ.ex a λ_ a=>λX Y=>(eF ra ra s1 (s3.mul s4) ω).s λr Z l4 b=>RQ.ex b λ_ b=>λV5 l5=>(bK ra ra s3 s5 ω).s λr V6 l6 d=>RQ.ex d λ_ d=>λV7 l7=>(eF ra ra s2 (s3.mul s5) ω).s λr V8 l8 e=>RQ.ex e λ_ e=>λV9 l9=>⟨_,_,_,_,_,_,_,_,_,_,_,_,rfl,ra,ra⟩
def ZO:Sz 1 ((-1:Int):Rat):=by unfold Sz;decide
def qZ (hp:RP V u px py)(hq:RP V w qx qy){k m:Nat}(s1:Sz k px)(s2:Sz k py)(s4:Sz m qx)(s5:Sz m qy)(hm:1<=m)(hkm:k+(m+m+1)<2^38:=by omega):À 115 #[u,w] V λr W=>RP W r (px-qx) (py-qy):=by have e:=hp;have f:=hq;obtain ⟨g,h,i,j,l,n,o,p,q,s,t,v,rfl,-,-⟩:=hp;obtain ⟨x,y,c,z,A,B,C,D,E,F,G,H,rfl,-,-⟩:=hq;refine JO V _ λL M=>(dN (-1) ω).s λr V2 N d=>RQ.ex d λ_ d=>λO P=>(fP ra ra ra s1 s2 (ZO.s hm) s4 s5 hkm).s ?_;have c:∀a b:Rat,a+((-1:Int):Rat)*b=a-b:=by{intro a b;have:((-1:Int):Rat)=-1:=rfl;rw [this,Rat.neg_mul,Rat.one_mul,Qs9]};rw [c,c];rintro r Q R ⟨b1,b2,b3,b4,S,T,U,W,X,I,J,K,rfl,Y,Z⟩;exact qxW ⟨rfl,λV5 l5=>⟨_,_,_,_,_,_,_,_,_,_,_,_,rfl,ra,ra⟩⟩
def pM (Z:RP V u px py)(hq:RP V w qx qy){k m:Nat}(s1:Sz k px)(s2:Sz k py)(s4:Sz m qx)(s5:Sz m qy)(hkm:k+m<2^38:=by omega):À 120 #[u,w] V λr W=>r=dB (decide (px=qx/\py=qy)):=by obtain ⟨b,c,d,f,g,i,j,l,n,o,p,q,rfl,s,t⟩:=Z;obtain ⟨v,x,y,z,A,B,C,D,E,F,G,H,rfl,I,J⟩:=hq;refine FP V _ λM N=>(e_ ra ra s1 s4 hkm).s ?_;rintro r V2 O rfl;refine ⟨_,rfl,λa K L=>(e_ ra ra s2 s5 hkm).s ?_,λa K L=>?_⟩;{have a:=iW.2 (by simpa using a);rintro r P Q rfl;refine ⟨_,rfl,λR S=>?_⟩;congr 1;rw [ģ,Ñ,Ë,<-iW];exact ⟨λh=>⟨a,h⟩,λh=>h.2⟩};have a:¬px=qx:=λe=>by{rw [iW.1 e] at a;simp at a};rw [È λh=>a h.1]
end Go.Proofs.Tryz
namespace Go.Eng
open Go.Big
def RL (V:Ó)(v:Value)(a b c:Int):Prop:=∃p n s E n' s' q m e,v=.agg #[.bool (decide (a<0)),.slice p n s,.bool (decide (b<0)),.slice E n' s',.bool (decide (c<0)),.slice q m e] /\
 RD V p n s (ai a.natAbs)/\RD V E n' s' (ai b.natAbs)/\RD V q m e (ai c.natAbs)
def RL.le {V V':un}{v:um}{a b c:Int}(h:RL V v a b c)(l:V.Le V'):RL V' v a b c:=by obtain ⟨p,n,s,d,f,g,q,m,e,rfl,i,j,k⟩:=h;exact ⟨p,n,s,d,f,g,q,m,e,rfl,ra,ra,ra⟩
end Go.Eng
namespace Go.Proofs.Tryz
open Go.Eng Go.Big
variable{V:Ó}{a b c z:Int}{v:Value}
def uf {p q:OA}{n c m e:Nat}{xs ys:zA Nat}(E:RD V p n c xs)(F:RD V q m e ys)(hm:xs.length<=2^40:=by omega):À 182 #[yG p n c,yG q m e] V λr W=>r=dB (decide (xs=ys)):=by have g:=E.len;have s:=F.len;refine Eh V _ ⟨λb t u=>?_,λb=>?_⟩;{have b:n≠m:=by{simp at b;omega};rw [È λh=>b (by rw [g,s,h])]};have b:n=m:=by{simp at b;omega};(refine ⟨λz V'=>0<=z/\z<=n/\xs.take z.toNat=ys.take z.toNat,λz=>n-z.toNat,⟨0,Ų,ω,ω,rfl⟩,?_⟩;rintro i V2 o ⟨j,k,d⟩;dsimp only at k d ⊢;obtain ⟨i,rfl⟩:=ď j;simp only [Ý] at d;refine ⟨θ,λf=>?_,λf v x=>?_⟩);{have f:i<n:=by{simpa using f};refine (E.le o).rd i rfl ω ((F.le o).rd i rfl ω ⟨λa y A=>?_,λa=>?_⟩);{have a:xs[i]≠ys[i]:=by{simp at a;omega};rw [È λh=>a (by subst h;rfl)]};have a:xs[i]=ys[i]:=by{simp at a;omega};have w:Ŵ.wrap ((i:Int)+1)=((i+1:Nat):Int):=ŵ;simp only [w];(refine ⟨((i+1:Nat):Int),?_,Ų,ω,ω,?_⟩);{(try dsimp only);omega};(try dsimp only);simp only [Ý];rw [Qz3 ω,Qz3 (l:=ys) ω,d,a]};have f:i=n:=by{simp at f;omega};rw [ŋ ω,ŋ ω] at d;rw [Ç d]
def WA {w:Int}:(decide (z<0)==decide (w<0))=true->(decide (ai z.natAbs=ai w.natAbs)=decide (z=w)):=by intro h;have b:(z<0↔w<0):=by{simpa using h};rw [ģ,Ñ,Ñ];constructor;{intro a;have:=wz a;omega};intro a;rw [a]
def jL {w:Int}{p q:OA}{n c m e:Nat}(E:RD V p n c (ai z.natAbs))(F:RD V q m e (ai w.natAbs))(hm:(ai z.natAbs).length<=2^40:=by omega):À 117 #[hF #[dB (decide (z<0)),yG p n c],hF #[dB (decide (w<0)),yG q m e]] V λr W=>r=dB (decide (z=w)):=by refine Eg V _ ⟨λa b d=>(uf ra ra hm).s ?_,λa b d=>?_⟩;{rintro r V2 f rfl;refine ⟨_,rfl,λg i=>?_⟩;rw [WA a]};rw [È λh=>by subst h;simp at a]
def E1 {w:um}{Z b' c':Int}(hx:RL V v a b c)(hy:RL V w Z b' c')(h1:(ai a.natAbs).length<=2^40)(h2:(ai b.natAbs).length<=2^40)(h3:(ai c.natAbs).length<=2^40):À 61 #[v,w] V λr W=>r=dB (decide (a=Z/\b=b'/\c=c')):=by obtain ⟨p,n,s,g,l,o,q,m,e,rfl,A,B,C⟩:=hx;obtain ⟨i,j,k,t,u,x,i2,y,z,rfl,D,E,F⟩:=hy;refine Eo V _ λG H=>(jL ra ra h1).s ?_;rintro r V2 I rfl;refine ⟨_,rfl,λd J K=>(jL ra ra h2).s ?_,λd L M=>?_⟩;{rintro r N O rfl;rw [Ñ] at d;refine ⟨_,rfl,λf P Q=>(jL ra ra h3).s ?_,λf R S=>?_⟩;{rintro r T U rfl;rw [Ñ] at f;refine ⟨_,rfl,λW X=>?_⟩;congr 1;rw [ģ,Ñ,Ñ];exact ⟨λh=>⟨d,f,h⟩,λh=>h.2.2⟩};rw [Ò] at f;rw [È λh=>f h.2.1]};rw [Ò] at d;rw [È λh=>d h.1]
def zH (Z:RL V v a b c)(h1:(ai a.natAbs).length<=2^40)(h2:(ai b.natAbs).length<=2^40)(h3:(ai c.natAbs).length<=2^40:=by omega):À 62 #[v] V λr W=>RL W r a b c:=by obtain ⟨p,n,s,d,f,g,q,m,e,rfl,h,i,j⟩:=Z;refine JP V _ λk l=>(mL ⟨_,_,_,rfl,ra⟩ h1).s ?_;rintro r V2 o ⟨t,u,w,rfl,x⟩;refine qyK ⟨rfl,λy z=>(mL ⟨_,_,_,rfl,ra⟩ h2).s ?_⟩;rintro r A B ⟨C,D,E,rfl,F⟩;refine qyK ⟨rfl,λG H=>(mL ⟨_,_,_,rfl,ra⟩ h3).s ?_⟩;rintro r I J ⟨K,L,M,rfl,N⟩;exact qyK ⟨rfl,λO P=>⟨_,_,_,_,_,_,_,_,_,rfl,ra,ra,ra⟩⟩
def Cp {g:Nat}(E:0<g)(F:g∣z.natAbs):(if decide (z<0)=true then -((z.natAbs/g:Nat):Int) else ((z.natAbs/g:Nat):Int))=z/(g:Int):=by obtain ⟨k,a⟩:=F;have b:z.natAbs/g=k:=by{rw [a,Nat.mul_div_cancel_left _ E]};rw [b];have c:z=(g:Int)*(if decide (z<0)=true then -(k:Int) else k):=by{split;{rename_i h;rw [Ñ] at h;rw [Wx3,<-Ś,<-a];omega};rename_i h;rw [Ñ] at h;rw [<-Ś,<-a];omega};generalize (if decide (z<0)=true then -(k:Int) else k)=t at *;rw [c,Qh3 _ ω]
def cj (a b c:Int):Nat:=Nat.gcd (Nat.gcd a.natAbs b.natAbs) c.natAbs
def EZ {u w:um}(ha:RI V u a)(hb:RI V v b)(hc:RI V w c)(h1:(ai a.natAbs).length<=2^38)(h2:(ai b.natAbs).length<=2^38)(h3:(ai c.natAbs).length<=2^38):À 116 #[u,v,w] V λr W=>(a=0/\b=0->∃l,r=å #[l,dB false]/\RL W l 0 0 0) /\ (¬(a=0/\b=0)->∃l,r=å #[l,dB true]/\RL W l (a/(cj a b c:Int)) (b/(cj a b c:Int)) (c/(cj a b c:Int))):=by obtain ⟨p,n,s,rfl,ha⟩:=ha;obtain ⟨t,x,y,rfl,hb⟩:=hb;obtain ⟨q,m,e,rfl,hc⟩:=hc;refine Em V _ λP Q=>(iU ra ra h1 h2).s ?_;rintro r V2 R ⟨S,T,U,rfl,z⟩;have W:=iX z.len;have f:Nat.gcd a.natAbs b.natAbs=0↔a=0/\b=0:=by{rw [Qh8];omega};refine ⟨_,_,_,rfl,λk X Y=>⟨λ_=>⟨_,rfl,_,_,_,_,_,_,_,_,_,rfl,RD.nil,RD.nil,RD.nil⟩,λh=>?_⟩,λk Z l4=>?_⟩;{exact Å (f.1 (by simp at k;omega)) h};have o:¬(a=0/\b=0):=λh=>by{have:=f.2 h;simp at k;omega};have i:0<Nat.gcd a.natAbs b.natAbs:=by{have:=f;omega};have j:(ai (Nat.gcd a.natAbs b.natAbs)).length<=2^38:=by{rcases ĺ a.natAbs with h|h;{rw [h,Qr2];exact h2};exact ÿ (aL (Qt0 _ h)) h1};refine (iU ra ra j h3).s ?_;rintro r V5 l5 ⟨p2,n2,c2,rfl,A⟩;have B:Nat.gcd (Nat.gcd a.natAbs b.natAbs) c.natAbs=cj a b c:=rfl;have d:0<cj a b c:=Nat.gcd_pos_of_pos_left _ i;have g:(ai (cj a b c)).length<=2^38:=ÿ (aL (Qt0 _ i)) j;have C:cj a b c∣a.natAbs:=Qt1 (Ņ _ _) (Ņ _ _);have D:cj a b c∣b.natAbs:=Qt1 (Ņ _ _) (Ţ _ _);have E:cj a b c∣c.natAbs:=Ţ _ _;rw [B] at A;generalize cj a b c=G at *;refine ⟨_,_,_,rfl,λV6 l6=>(gF ra ra h1 g d).s ?_⟩;rintro r V7 l7 ⟨p3,n3,c3,p4,n4,c4,rfl,g3,-⟩;refine qyJ ⟨rfl,λV8 l8=>(gF ra ra h2 g d).s ?_⟩;rintro r V9 l9 ⟨p5,n5,c5,p6,n6,c6,rfl,g5,-⟩;refine qyJ ⟨rfl,λfD F=>(gF ra ra h3 g d).s ?_⟩;rintro r eX dq ⟨p7,n7,c7,p8,n8,c8,rfl,g7,-⟩;refine qyJ ⟨rfl,λgQ eJ=>(fO _ ra).s ?_⟩;rw [(Cp d C)];rintro r ji fk ⟨p9,n9,c9,rfl,g9⟩;refine qyK ⟨rfl,λlH iL=>(fO _ ra).s ?_⟩;rw [(Cp d D)];rintro r mJ iE ⟨H,I,J,rfl,K⟩;refine qyK ⟨rfl,λko gV=>(fO _ ra).s ?_⟩;rw [(Cp d E)];rintro r nk kf ⟨L,M,N,rfl,O⟩;refine qyK ⟨rfl,λnq iF=>⟨λh=>Å h o,λ_=>⟨_,rfl,_,_,_,_,_,_,_,_,_,rfl,?_,?_,?_⟩⟩⟩;{exact ra};{exact ra};exact ra
abbrev L3:=Int×Int×Int
def bY (x:L3):Bool:=decide (¬(x.1=0/\x.2.1=0))&&decide (cj x.1 x.2.1 x.2.2=1)
def Bd (x:L3):Prop:=x.1.natAbs<2^1000/\x.2.1.natAbs<2^1000/\x.2.2.natAbs<2^1000
inductive Tr where
 | leaf (i:Bool)|node (l:L3) (a b:Tr)
 deriving DecidableEq
structure Nd where
 ln:L3
 left:Int
 right:Int
 deriving DecidableEq
def Tr.size:Tr->Nat
 | .leaf _=>0
 | .node _ a b=>a.size+b.size+1
def Tr.rH:Tr->Bool
 | .leaf _=>true
 | .node ..=>false
def Tr.dG (p:L3->Prop):Tr->Prop
 | .leaf _=>True
 | .node l a b=>p l/\a.dG p/\b.dG p
def Tr.dG.imp {p q:L3->Prop}(h:∀x,p x->q x):∀{t:Tr},t.dG p->t.dG q
 | .leaf _,_=>trivial
 | .node _ _ _,⟨E,F,M⟩=>⟨h _ E,Tr.dG.imp h F,Tr.dG.imp h M⟩
def rt (k:Nat):Tr->Int
 | .leaf i=>if i then -2 else -1
 | .node ..=>(k:Int)
def wr:Nat->Tr->List Nd
 | _,.leaf _=>[]
 | k,.node l a b=>⟨l,rt (k+1) a,rt (k+1+a.size) b⟩::(wr (k+1) a++wr (k+1+a.size) b)
theorem jH:∀(t:Tr)(k:Nat),(wr k t).length=t.size
 | .leaf _,_=>rfl
 | .node _ a b,k=>by simp only [wr,Ċ,í,jH a,jH b,Tr.size]
def Rep (l:List Nd):Int->Tr->List Nat->Prop
 | n,.leaf i,I=>n=(if i then -2 else -1)/\I=[]
 | n,.node ln a b,I=>∃(k:Nat)(x:Nd)(A B:List Nat),n=(k:Int)/\l[k]?=some x/\x.ln=ln/\Rep l x.left a A/\Rep l x.right b B/\I=k::(A++B)
theorem OT:∀(t:Tr)(l pre post:zA Nd)(k:Nat),l=pre++(wr k t++post)->pre.length=k->Rep l (rt k t) t (List.range' k t.size)
 | .leaf i,l,pre,post,k,_,_=>⟨rfl,rfl⟩
 | .node ln a b,l,pre,post,k,F,E=>by
  refine ⟨k,⟨ln,rt (k+1) a,rt (k+1+a.size) b⟩,List.range' (k+1) a.size,List.range' (k+1+a.size) b.size,rfl,?_,rfl,?_,?_,?_⟩
  ·subst F;simp [E,wr]
  ·refine OT a l (pre++[⟨ln,rt (k+1) a,rt (k+1+a.size) b⟩]) (wr (k+1+a.size) b++post) (k+1) ?_ (by simp [E])<;>grind [wr]
  ·refine OT b l (pre++(⟨ln,rt (k+1) a,rt (k+1+a.size) b⟩::wr (k+1) a)) post (k+1+a.size) ?_ (by simp [jH];omega)<;>grind [wr]
  ·simp only [Tr.size];rw [List.range'_succ,<-List.range'_append_1]
structure RS where
 seen:List Bool
 nF:Nat
 bad:Bool
def gj (l:List Nd):Nat->Int->RS->Tr×RS
 | 0,_,s=>(.leaf false,s)
 | f+1,n,s=>
  if n=-2 then (.leaf true,s) else if n=-1 then (.leaf false,s) else if n<0 then (.leaf false,{ s with bad:=true })
  else match l[n.toNat]?,s.seen[n.toNat]? with
   | some x,some false=>
    if bY x.ln then
     let E:=gj l f x.left ⟨s.seen.set n.toNat true,s.nF+1,s.bad⟩
     let F:=gj l f x.right E.2
     (.node x.ln E.1 F.1,F.2)
    else (.leaf false,⟨s.seen.set n.toNat true,s.nF+1,true⟩)
   | _,_=>(.leaf false,{ s with bad:=true })
theorem count_set {l:zA ut}{k:Nat}(h:l[k]?=some false):(l.set k true).count false+1=l.count false:=χ
theorem wV (l:zA Nd):∀(f:Nat)(n:Int)(s:RS),(gj l f n s).2.seen.count false<=s.seen.count false/\(gj l f n s).2.seen.length=s.seen.length
 | 0,_,_=>⟨Ù _,rfl⟩
 | f+1,n,s=>by
  simp only [gj];split
  ·exact ⟨Ù _,rfl⟩
  ·split
   ·exact ⟨Ù _,rfl⟩
   ·split
    ·exact ⟨Ù _,rfl⟩
    ·split
     ·rename_i x F E;have M:=count_set E;split
      ·have ⟨a,b⟩:=wV l f x.left ⟨s.seen.set n.toNat true,s.nF+1,s.bad⟩;have ⟨c,d⟩:=wV l f x.right (gj l f x.left ⟨s.seen.set n.toNat true,s.nF+1,s.bad⟩).2;grind
      grind
     grind
theorem I2 (l:zA Nd):∀(f:Nat)(n:Int)(s:RS),(gj l f n s).2.nF+(gj l f n s).2.seen.count false=s.nF+s.seen.count false
 | 0,_,_=>rfl
 | f+1,n,s=>by
  simp only [gj];split
  ·rfl
  ·split
   ·rfl
   ·split
    ·rfl
    ·split
     ·rename_i x F E;have M:=count_set E;split
      ·have a:=I2 l f x.left ⟨s.seen.set n.toNat true,s.nF+1,s.bad⟩;have b:=I2 l f x.right (gj l f x.left ⟨s.seen.set n.toNat true,s.nF+1,s.bad⟩).2;grind
      ·dsimp only;omega
     ·rfl
def I0 {p:L3->Prop}{l:zA Nd}(E:∀x∈l,p x.ln):∀(f:Nat)(n:Int)(s:RS),(gj l f n s).1.dG p
 | 0,_,_=>trivial
 | f+1,n,s=>by
  simp only [gj];split
  ·trivial
  ·split
   ·trivial
   ·split
    ·trivial
    ·split
     ·rename_i x F M;split
      ·exact ⟨E x (Ď F),I0 E f _ _,I0 E f _ _⟩
      ·trivial
     ·trivial
theorem Dh (l:zA Nd):∀(f:Nat)(n:Int)(s:RS),(gj l f n s).1.size+s.nF<=(gj l f n s).2.nF
 | 0,_,_=>by simp [gj,Tr.size]
 | f+1,n,s=>by
  simp only [gj];split
  ·simp [Tr.size]
  ·split
   ·simp [Tr.size]
   ·split
    ·simp [Tr.size]
    ·split
     ·split
      ·rename_i x E F hok;have M:=Dh l f x.left ⟨s.seen.set n.toNat true,s.nF+1,s.bad⟩;have a:=Dh l f x.right (gj l f x.left ⟨s.seen.set n.toNat true,s.nF+1,s.bad⟩).2;grind [Tr.size]
      ·simp [Tr.size]
     ·simp [Tr.size]
def vx (s:List Bool)(I:List Nat):List Bool:=I.foldl (λs k=>s.set k true) s
theorem Du:∀(I:zA Nat)(s:zA ut)(k:Nat),k∉I->(vx s I)[k]?=s[k]?
 | [],_,_,_=>rfl
 | i::r,s,k,h=>by
  have:=Du r (s.set i true) k (λa=>h (ø _ a));grind [vx]
theorem I3 (l:zA Nd):∀(t:Tr)(f:Nat)(n:Int)(s:RS)(I:zA Nat),Rep l n t I->I.Nodup->(∀k∈I,s.seen[k]?=some false)->t.dG (λx=>bY x=true)->t.size<f->gj l f n s=(t,⟨vx s.seen I,s.nF+t.size,s.bad⟩)
 | .leaf i,f,n,s,I,⟨E,M⟩,_,_,_,F=>by
  subst M;obtain ⟨f,rfl⟩:∃g,f=g+1:=⟨f-1,by simp [Tr.size] at F;omega⟩
  cases i with
  | true=>simp only at E;subst E;simp [gj,vx,Tr.size]
  | false=>
   subst E;simp [gj,vx,Tr.size]
 | .node ln a b,f,n,s,I,⟨k,x,A,B,E,M,N,O,Z,h6⟩,hnd,hun,hok,F=>by
  subst E N h6;obtain ⟨f,rfl⟩:∃g,f=g+1:=⟨f-1,by simp [Tr.size] at F;omega⟩;rw [Wv0,List.nodup_append] at hnd;obtain ⟨q,r,u,d⟩:=hnd;simp only [Tr.size] at F
  have v:=I3 l a f x.left ⟨s.seen.set k true,s.nF+1,s.bad⟩ A O r (λj c=>by
   have:k≠j:=λe=>q (by rw [e];simp [c]);rw [Qn8 this];exact hun j (by simp [c])) hok.2.1 ω
  have w:=I3 l b f x.right ⟨vx (s.seen.set k true) A,s.nF+1+a.size,s.bad⟩ B Z u (λj c=>by
   have:k≠j:=λe=>q (by rw [e];simp [c]);rw [Du A _ j (λh=>d j h j c rfl),Qn8 this];exact hun j (by simp [c])) hok.2.2 ω
  have m:¬((k:Int)=-2):=ω
  have o:¬((k:Int)=-1):=ω
  have p:¬((k:Int)<0):=ω
  have y:gj l (f+1) (k:Int) s=(.node x.ln (gj l f x.left ⟨s.seen.set k true,s.nF+1,s.bad⟩).1 (gj l f x.right (gj l f x.left ⟨s.seen.set k true,s.nF+1,s.bad⟩).2).1,(gj l f x.right (gj l f x.left ⟨s.seen.set k true,s.nF+1,s.bad⟩).2).2):=by
   rw [gj];rw [Ã m,Ã o,Ã p];simp only [Ý,M,(hun k ψ),hok.1,Ï]
  grind [vx,Tr.size]
def tQ (l:List Nd)(root:Int):Option Tr:=
 if 65536<l.length then none else
 let r:=gj l (l.length+1) root ⟨List.replicate l.length false,0,false⟩
 if r.2.bad=true\/r.2.nF≠l.length then none else some r.1
theorem Y8 {l:zA Nd}{n:Int}{t:Tr}{I:zA Nat}(h:Rep l n t I)(E:I.Nodup)(F:∀k∈I,k<l.length)(M:t.size=l.length)(hok:t.dG λx=>bY x=true)(N:l.length<=65536):tQ l n=some t:=by unfold tQ;rw [Ã ω];rw [I3 l t (l.length+1) n _ I h E (λk a=>by simp [F k a]) hok ω];simp [M]
theorem Ox {t:Tr}(hok:t.dG λx=>bY x=true)(E:t.size<=65536:=by omega):tQ (wr 0 t) (rt 0 t)=some t:=by have h:=OT t (wr 0 t) [] [] 0 ψ rfl;grind [Y8,jH]
def Y7 {p:L3->Prop}{l:zA Nd}{n:Int}{t:Tr}(E:∀x∈l,p x.ln)(h:tQ l n=some t):t.dG p:=by unfold tQ at h;split at h;{cases h};dsimp only at h;split at h;{cases h};cases h;exact I0 E _ _ _
theorem VH {l:zA Nd}{n:Int}{t:Tr}(h:tQ l n=some t):t.size<=65536:=by unfold tQ at h;split at h;{cases h};dsimp only at h;split at h;{cases h};rename_i a b;cases h;have:=Dh l (l.length+1) n ⟨List.replicate l.length false,0,false⟩;grind
end Go.Proofs.Tryz
namespace Go.Eng
open Go.Big
def zz (V:Ó)(v:Value)(a b c:Rat):Prop:=∃(E F:Int)(p:OA)(M N:Int)(q:OA)(O Z:Int)(r:OA),v=.agg #[.int Ŵ E,.int Ŵ F,.pointer p,.int Ŵ M,.int Ŵ N,.pointer q,.int Ŵ O,.int Ŵ Z,.pointer r] /\
 RR V (.agg #[.int Ŵ E,.int Ŵ F,.pointer p]) a/\RR V (.agg #[.int Ŵ M,.int Ŵ N,.pointer q]) b/\RR V (.agg #[.int Ŵ O,.int Ŵ Z,.pointer r]) c
def XD (v:Value):Prop:=∃(E F:Int)(M:OA)(N O:Int)(Z:OA)(z1 z2:Int)(z3:OA),v=.agg #[.int Ŵ E,.int Ŵ F,.pointer M,.int Ŵ N,.int Ŵ O,.pointer Z,.int Ŵ z1,.int Ŵ z2,.pointer z3]
def zz.le {V V':un}{v:um}{a b c:Rat}(h:zz V v a b c)(l:V.Le V'):zz V' v a b c:=by obtain ⟨d,e,p,f,g,q,i,j,r,rfl,k,m,n⟩:=h;exact ⟨d,e,p,f,g,q,i,j,r,rfl,ra,ra,ra⟩
end Go.Eng
namespace Go.Proofs.Tryz
open Go.Eng Go.Big
variable{V:Ó}{v:Value}{a b:Rat}{c k m n:Nat}{p q:OA}{l x:L3}{vs:List Value}
def RV {c:Rat}(h:zz V v a b c)(s1:Sz k a)(s2:Sz k b)(s3:Sz k c)(Z:k<=2^40):À 128 #[v] V λr W=>RL W r a.num b.num c.num:=by obtain ⟨d,e,p,f,g,q,i,j,r,rfl,l,m,n⟩:=h;refine Fy V _ λo s=>(il ra s1 Z).s ?_;rintro r V2 t ⟨u,w,x,rfl,y⟩;refine qyK ⟨rfl,λz A=>(il ra s2 Z).s ?_⟩;rintro r B C ⟨D,E,F,rfl,G⟩;refine qyK ⟨rfl,λH I=>(il ra s3 Z).s ?_⟩;rintro r J K ⟨L,M,N,rfl,O⟩;exact qyK ⟨rfl,λP Q=>⟨_,_,_,_,_,_,_,_,_,rfl,ra,ra,ra⟩⟩
def Ff (b1:Bool)(xs:List Nat)(b2:Bool)(ys:List Nat)(b3:Bool)(E:List Nat):Bool:=
 kR b1 xs&&kR b2 ys&&kR b3 E&&!(decide ((bO b1 xs:Rat)=0)&&decide ((bO b2 ys:Rat)=0))&&decide (eW (eW (bO b1 xs) (bO b2 ys)) (bO b3 E)=((1:Int):Rat))
def yK {ok:ut}{A B C:Rat}(h:ok=false):∃v,Value.tuple #[hF #[Ô Ŵ 0,Ô Ŵ 0,qvJ none,Ô Ŵ 0,Ô Ŵ 0,qvJ none,Ô Ŵ 0,Ô Ŵ 0,qvJ none],dB false]=å #[v,dB ok]/\XD v/\(ok=true->zz V v A B C):=by subst h;exact ⟨_,rfl,⟨_,_,_,_,_,_,_,_,_,rfl⟩,λh=>nomatch h⟩
def Jr:Sz 1 ((1:Int):Rat):=by unfold Sz;decide
def uS {V:un}(b1 b2 b3:ut){s:OA}{e i j:Nat}{xs ys zs:zA Nat}(hx:RD V p n c xs)(hy:RD V q m e ys)(hz:RD V s i j zs)(h1:xs.length<=2^40)(h2:ys.length<=2^40)(h3:zs.length<=2^40)(s1:Sz k (bO b1 xs:Rat))(s2:Sz k (bO b2 ys:Rat))(s3:Sz k (bO b3 zs:Rat))(hk:4*k+4<2^40:=by omega):À 110 #[hF #[dB b1,yG p n c,dB b2,yG q m e,dB b3,yG s i j]] V λr W=>∃v,r=å #[v,dB (Ff b1 xs b2 ys b3 zs)]/\XD v/\(Ff b1 xs b2 ys b3 zs=true->zz W v (bO b1 xs) (bO b2 ys) (bO b3 zs)):=by refine Mz V _ λV1 I=>(gE b1 ra h1).s ?_;rintro r V2 J rfl;refine ⟨_,rfl,λd V3 l3=>yK ?_,λd V4 K=>(gE b2 ra h2).s ?_⟩;{have d:kR b1 xs=false:=by{simpa using d};simp [Ff,d]};have d:kR b1 xs=true:=by{simpa using d};rintro r V5 L rfl;refine ⟨_,rfl,λf V6 l6=>yK ?_,λf V7 M=>(gE b3 ra h3).s ?_⟩;{have f:kR b2 ys=false:=by{simpa using f};simp [Ff,f]};have f:kR b2 ys=true:=by{simpa using f};rintro r V8 N rfl;have u:=I.m (J.m (K.m (L.m (M.m N))));refine ⟨_,rfl,λf0 V9 l9=>yK ?_,λf0 fD O=>(pE b1 ra h1).s ?_⟩;{have f0:kR b3 zs=false:=by{simpa using f0};simp [Ff,f0]};have f0:kR b3 zs=true:=by{simpa using f0};rintro r eX dq ra;obtain ⟨x1,x2,x3,rfl⟩:=ra.shape;have o:=u.m aA;refine ⟨_,_,_,rfl,λgQ P=>(pE b2 (hy.le aA) h2).s λr ji Q b=>RR.ex b λ_ b=>λlH w=>(pE b3 (hz.le ((o.m aA).m w)) h3).s ?_⟩;rintro r mJ G rc;obtain ⟨z1,z2,z3,rfl⟩:=rc.shape;replace ra:=ra.le (P.m (Q.m (w.m G)));replace b:=b.le (w.m G);have t:Ff b1 xs b2 ys b3 zs=(!(decide ((bO b1 xs:Rat)=0)&&decide ((bO b2 ys:Rat)=0))&&decide (eW (eW (bO b1 xs) (bO b2 ys)) (bO b3 zs)=((1:Int):Rat))):=by{simp only [Ff,d,f,f0,Bool.true_and]};rw [t];clear t d f f0 hx hy hz;generalize (bO b1 xs:Rat)=A at *;generalize (bO b2 ys:Rat)=B at *;generalize (bO b3 zs:Rat)=C at *;refine ⟨_,_,_,rfl,λko x=>(Kl (ra.le x)).s ?_⟩;rintro r nk H rfl;refine ⟨_,rfl,λt0 nq R=>(Kl (b.le aA)).s ?_,λt0 S y=>?_⟩;{rintro r qM T rfl;refine ⟨_,rfl,λz uJ kN=>yK (by rw [t0,z];rfl),λz S y=>?_⟩;have lb:=x.m (H.m (R.m (T.m y)));have D:(decide (A=0)&&decide (B=0))=false:=by{rw [z,Wz2]};rw [D];refine (lK (ra.le lb) (b.le lb) s1 s2).s λr U W rg=>RR.ex rg λ_ rg=>λX E=>(lK (rg.le E) (rc.le aA) (ik s1 s2) s3).s λr Y Z g=>RR.ex g λ_ g=>λNa qI=>(pD 1 ω).s λr Rk Ng l=>RR.ex l λ_ l=>λXF F=>(yg (g.le aA) (l.le F) (ik (ik s1 s2) s3) Jr).s ?_;rintro r XG La rfl;have lz:=lb.m aA;refine ⟨_,rfl,λa Z_ Iz=>yK ?_,λa TD Nh=>?_⟩;{rw [Į] at a;rw [a];rfl};have a:decide (eW (eW A B) C=((1:Int):Rat))=true:=by{cases h:decide (eW (eW A B) C=((1:Int):Rat));{rw [h] at a;cases a};rfl};rw [a];exact ⟨_,rfl,⟨_,_,_,_,_,_,_,_,_,rfl⟩,λ_=>⟨_,_,_,_,_,_,_,_,_,rfl,ra.le aA,b.le aA,rc.le aA⟩⟩};have lb:=x.m (H.m y);have D:(decide (A=0)&&decide (B=0))=false:=by{rw [t0,Bool.false_and]};rw [D];refine (lK (ra.le lb) (b.le lb) s1 s2).s λr U W rg=>RR.ex rg λ_ rg=>λX E=>(lK (rg.le E) (rc.le aA) (ik s1 s2) s3).s λr Y Z g=>RR.ex g λ_ g=>λNa qI=>(pD 1 ω).s λr Rk Ng l=>RR.ex l λ_ l=>λXF F=>(yg (g.le aA) (l.le F) (ik (ik s1 s2) s3) Jr).s ?_;rintro r XG La rfl;have lz:=lb.m aA;refine ⟨_,rfl,λa Z_ Iz=>yK ?_,λa TD Nh=>?_⟩;{rw [Į] at a;rw [a];rfl};have a:decide (eW (eW A B) C=((1:Int):Rat))=true:=by{cases h:decide (eW (eW A B) C=((1:Int):Rat));{rw [h] at a;cases a};rfl};rw [a];exact ⟨_,rfl,⟨_,_,_,_,_,_,_,_,_,rfl⟩,λ_=>⟨_,_,_,_,_,_,_,_,_,rfl,ra.le aA,b.le aA,rc.le aA⟩⟩
def SQ:List Int->Int
 | []=>0
 | x::r=>if x=0 then SQ r else x
def YG (l:List Int):List Value:=l.map λx=>Value.int Ŵ x
def orI_eq {l:zA Int}:SQ l=0↔∀x∈l,x=0:=by
 induction l with
 | nil=>simp [SQ]
 | cons x r E=>
  simp only [SQ,ç,forall_eq_or_imp];split
  ·rename_i h;simp [h,E]
  ·rename_i h;simp [h]
def Kq {l:zA Int}(F:n=l.length)(E:V.sl p (YG l))(hm:l.length<=2^40):À 192 #[yG p n c] V λr W=>r=Ô Ŵ (SQ l):=by (refine Tl V _ ⟨λz V'=>0<=z/\z<=n/\SQ l=SQ (l.drop z.toNat),λz=>n-z.toNat,⟨0,Ų,ω,ω,rfl⟩,?_⟩;rintro i m j ⟨e,f,he⟩;dsimp only at f he ⊢;obtain ⟨i,rfl⟩:=ď e;simp only [Ý] at he;refine ⟨θ,λb=>?_,λb o q=>?_⟩);{have b:i<n:=by{simpa using b};have d:i<l.length:=ω;obtain ⟨k,h,g⟩:=(j.sl E) i (Ô Ŵ l[i]) (by simp [YG,d]);rw [ī d,SQ] at he;refine ⟨by rw [h];rfl,ų,l[i],⟨k.add i,by rw [h];simp [af],g⟩,λa V2 s=>?_,λa=>?_⟩;{have a:l[i]≠0:=by{simpa using a};rw [Ã a] at he;rw [he]};have a:l[i]=0:=by{simpa using a};rw [Ä a] at he;have w:Ŵ.wrap ((i:Int)+1)=((i+1:Nat):Int):=ŵ;simp only [w];(refine ⟨((i+1:Nat):Int),?_,Ų,ω,ω,?_⟩);{(try dsimp only);omega};exact he};have b:i=n:=by{simp at b;omega};rw [ľ ω] at he;rw [he];rfl
def yi {w:um}{c a' b' c':Rat}(hx:zz V v a b c)(hy:zz V w a' b' c')(s1:Sz k a)(s2:Sz k b)(s3:Sz k c)(t1:Sz m a')(t2:Sz m b')(t3:Sz m c')(hk:k+m<2^40:=by omega):À 134 #[v,w] V λr W=>r=Ô Ŵ (SQ [dw a a',dw b b',dw c c']):=by obtain ⟨f,g,p,h,j,q,n,o,r,rfl,s,t,u⟩:=hx;obtain ⟨x,y,z,A,B,C,D,E,F,rfl,G,H,I⟩:=hy;refine Fz V _ λJ K=>(iS ra ra s1 t1 hk).s ?_;rintro r V2 L rfl;refine ⟨_,rfl,λM N=>(iS ra ra s2 t2 hk).s ?_⟩;rintro r O P rfl;refine ⟨_,rfl,λQ R=>(iS ra ra s3 t3 hk).s ?_⟩;rintro r S T rfl;refine ⟨_,rfl,λU W X d=>(Kq (l:=[dw a a',dw b b',dw c c']) rfl (λi v e=>⟨_,rfl,by rw [add_zero'];exact dM (xs:=YG [dw a a',dw b b',dw c c']) d e⟩) ψ).s ?_⟩;rintro r Y Z rfl;exact ⟨_,rfl,λ_ V9 l9=>rfl⟩
def zF {w:um}{c M b' N:Rat}(O:zz V v a b c)(Z:zz V w M b' N)(s1:Sz k a)(s2:Sz k b)(s3:Sz k c)(t1:Sz m M)(t2:Sz m b')(t3:Sz m N)(hk:k+m<2^40:=by omega):À 136 #[v,w] V λr W=>r=dB (decide (a=M/\b=b'/\c=N)):=by have d:=O;have e:=Z;obtain ⟨f,g,p,h,i,q,j,l,r,rfl,-,-,-⟩:=O;obtain ⟨n,o,s,t,u,x,y,z,A,rfl,-,-,-⟩:=Z;refine AF V _ λB C=>(yi ra ra s1 s2 s3 t1 t2 t3 hk).s λr V2 D rfl=>⟨_,rfl,λE F=>?_⟩;congr 1;rw [ģ,Ñ,Ë,orI_eq];simp [<-iW]
theorem HK (a:Addr)(i j:Nat):(a.add i).add j=a.add (i+j):=by grind [Addr.add]
def yR {b:Nat}{xs:zA um}{ty:TypeId}{m:Nat×Nat}(h:V.bo b (.cells xs.toArray ty m))(i:Nat)(E:xs[i]?=some v):∃a,af (some ⟨b,0,none⟩) i=some a/\V.at a v:=
 ⟨⟨b,i,none⟩,by simp [af,add_zero'],dM h E⟩
theorem Lr {a b c:Int}:Ff (decide (a<0)) (ai a.natAbs) (decide (b<0)) (ai b.natAbs) (decide (c<0)) (ai c.natAbs)=bY (a,b,c):=by have d:∀z:Int,kR (decide (z<0)) (ai z.natAbs)=true:=by{intro z;unfold kR;grind [ag,bG.1]};have f:eW (eW (a:Rat) (b:Rat)) (c:Rat)=((cj a b c:Nat):Int):=by{have e:∀x y:Int,eW (x:Rat) (y:Rat)=((Nat.gcd x.natAbs y.natAbs:Nat):Int):=by{intro x y;unfold eW;have g:(x:Rat).num=x:=rfl;have h:(y:Rat).num=y:=rfl;have i:(x:Rat).den=1:=rfl;have j:(y:Rat).den=1:=rfl;rw [g,h,i,j];simp only [Ģ];exact Qh7 _};rw [e,e];rfl};unfold Ff bY;rw [d,d,d,aM,aM,aM,f];have k:∀z:Int,((z:Rat)=0)↔z=0:=λz=>by{exact Rat.intCast_eq_zero_iff};simp only [Bool.true_and,k];rw [ģ];simp only [Č,Į,Bool.and_eq_false_iff,Ò,Ñ];have l:(((cj a b c:Nat):Int):Rat)=((1:Int):Rat)↔cj a b c=1:=by{rw [Qh4];omega};grind
def Jp {z:Int}(h:z.natAbs<2^k)(E:0<k:=by omega):Sz k (z:Rat):=⟨h,Qf0 ω⟩
def Bd.ai (h:Bd x):(ai x.1.natAbs).length<=1000/\(ai x.2.1.natAbs).length<=1000/\(ai x.2.2.natAbs).length<=1000:=⟨ah h.1,ah h.2.1,ah h.2.2⟩
def Bd.sz (h:Bd x):Sz 1000 (x.1:Rat)/\Sz 1000 (x.2.1:Rat)/\Sz 1000 (x.2.2:Rat):=⟨Jp h.1,Jp h.2.1,Jp h.2.2⟩
def Kt (h:RL V v x.1 x.2.1 x.2.2)(E:Bd x):À 110 #[v] V λr W=>∃w,r=å #[w,dB (bY x)]/\XD w/\(bY x=true->zz W w x.1 x.2.1 x.2.2):=by obtain ⟨p,n,s,f,g,i,q,m,e,rfl,b,c,d⟩:=h;obtain ⟨d1,d2,d3⟩:=E.ai;obtain ⟨s1,s2,s3⟩:=E.sz;have a:=uS (V:=V) (decide (x.1<0)) (decide (x.2.1<0)) (decide (x.2.2<0)) b c d ω ω ω (k:=1000) (by rw [aM];exact s1) (by rw [aM];exact s2) (by rw [aM];exact s3);rw [Lr,aM,aM,aM] at a;exact a
def RT (V:Ó):OA->Tr->Prop
 | p,.leaf i=>∃(b:Nat)(c0 c1 c2 c3 c4 c5 c6 c7 c8:Value)(r:OA),p=some ⟨b,0,none⟩/\V.bo b (.cells #[c0,c1,c2,c3,c4,c5,c6,c7,c8,.pointer none,.pointer r,.bool i] 217 (0,0))
 | p,.node l x y=>∃(b:Nat)(E F:Int)(M:OA)(N O:Int)(Z:OA)(z1 z2:Int)(z3:OA)(pl pr:OA)(i:Bool),p=some ⟨b,0,none⟩ /\
   V.bo b (.cells #[.int Ŵ E,.int Ŵ F,.pointer M,.int Ŵ N,.int Ŵ O,.pointer Z,.int Ŵ z1,.int Ŵ z2,.pointer z3,.pointer pl,.pointer pr,.bool i] 217 (0,0)) /\
   zz V (.agg #[.int Ŵ E,.int Ŵ F,.pointer M,.int Ŵ N,.int Ŵ O,.pointer Z,.int Ŵ z1,.int Ŵ z2,.pointer z3]) l.1 l.2.1 l.2.2/\RT V pl x/\RT V pr y
def RT.le {V V':un}(h:V.Le V'):∀{t:Tr} {p:OA},RT V p t->RT V' p t
 | .leaf i,p,⟨b,F,c1,M,N,O,Z,c6,c7,c8,r,e,E⟩=>⟨b,F,c1,M,N,O,Z,c6,c7,c8,r,e,h _ _ E⟩
 | .node l x y,p,⟨b,x1,x2,x3,y1,y2,y3,z1,z2,z3,pl,pr,i,e,E,hl,hx,hy⟩=>⟨b,x1,x2,x3,y1,y2,y3,z1,z2,z3,pl,pr,i,e,h _ _ E,hl.le h,RT.le h hx,RT.le h hy⟩
def RT.isS {t:Tr}(h:RT V p t):p.isSome=true:=by (cases t with|leaf i=>{obtain ⟨b,a,c,d,e,f,g,j,k,m,r,rfl,n⟩:=h;rfl}|node l x y=>{obtain ⟨b,o,q,s,u,v,w,z,A,B,pl,C,i,rfl,-⟩:=h;rfl})
def jt (i:ut):À 155 #[dB i] V λr W=>∃p,r=qvJ p/\RT W p (.leaf i):=
 Mp V _ λc d b a=>⟨_,rfl,b,_,_,_,_,_,_,_,_,_,_,rfl,a⟩
def cu {t:Tr}(h:RT V p t):À 127 #[qvJ p] V λr W=>r=dB t.rH:=by (cases t with|leaf i=>{obtain ⟨b,g,j,k,m,n,o,q,s,u,r,rfl,c⟩:=h;exact qE V _ ⟨rfl,rfl,_,yR c 9 rfl,λd e=>rfl⟩}|node l x y=>{obtain ⟨b,v,w,z,A,B,C,D,E,F,pl,G,i,rfl,c,H,f,I⟩:=h;refine qE V _ ⟨rfl,rfl,_,yR c 9 rfl,λd e=>?_⟩;have:=f.isS;(cases pl with|none=>{cases this}|some a=>rfl)})
def RO {x y:Tr}(E:zz V v l.1 l.2.1 l.2.2)(M:RT V p x)(N:RT V q y):À 156 #[v,qvJ p,qvJ q] V λr W=>∃F,r=qvJ F/\RT W F (.node l x y):=by obtain ⟨d,e,f,g,h,i,j,k,m,rfl,-⟩:=id E;exact Pa V _ λn a b c=>⟨_,rfl,b,_,_,_,_,_,_,_,_,_,_,_,_,rfl,c,E.le a,M.le a,N.le a⟩
def Z7 (V:Ó)(v:Value)(l:L3):Prop:=RL V v l.1 l.2.1 l.2.2\/bY l=false/\∃b1 p n c xs b2 q m e ys b3 s i j E,v=.agg #[.bool b1,.slice p n c,.bool b2,.slice q m e,.bool b3,.slice s i j]/\RD V p n c xs/\RD V q m e ys/\RD V s i j E /\
 Ff b1 xs b2 ys b3 E=false/\(xs.length<=1000000/\ys.length<=1000000/\E.length<=1000000)/\Sz 1000000 (bO b1 xs:Rat)/\Sz 1000000 (bO b2 ys:Rat)/\Sz 1000000 (bO b3 E:Rat)
def Z7.le {V V':un}(h:Z7 V v l)(e:V.Le V'):Z7 V' v l:=by rcases h with h|⟨a,b1,p,n,c,xs,b2,q,m,b,d,b3,s,i,j,f,g,k,o,r,t⟩;{exact .inl (h.le e)};exact .inr ⟨a,b1,p,n,c,xs,b2,q,m,b,d,b3,s,i,j,f,g,k.le e,o.le e,r.le e,t⟩
def Z7.ok (h:Z7 V v l)(E:bY l=true):RL V v l.1 l.2.1 l.2.2:=by rcases h with h|⟨h,-⟩;{exact h};rw [E] at h;cases h
def H5 (h:Z7 V v x)(E:Bd x):À 110 #[v] V λr W=>∃w,r=å #[w,dB (bY x)]/\XD w/\(bY x=true->zz W w x.1 x.2.1 x.2.2):=by rcases h with h|⟨a,b1,p,n,c,xs,b2,q,m,l,o,b3,s,i,j,t,rfl,b,d,e,f,⟨u,y,z⟩,s1,s2,s3⟩;{exact Kt h E};refine (uS b1 b2 b3 b d e ω ω ω s1 s2 s3).s ?_;rintro r V2 A ⟨w,rfl,g,k⟩;rw [f] at k ⊢;rw [a];exact ⟨w,rfl,g,λh=>by cases h⟩
def NR (V:Ó)(vs:List Value)(l:List Nd):Prop:=∀(i:Nat)(d:Nd),l[i]?=some d->∃(b1:Bool)(E:OA)(F c1:Nat)(b2:Bool)(M:OA)(N O:Nat)(b3:Bool)(Z:OA)(n3 c3:Nat),
 (∀j v,([.bool b1,.slice E F c1,.bool b2,.slice M N O,.bool b3,.slice Z n3 c3,.int Ŵ d.left,.int Ŵ d.right]:List Value)[j]?=some v->vs[i*8+j]?=some v) /\
 Z7 V (.agg #[.bool b1,.slice E F c1,.bool b2,.slice M N O,.bool b3,.slice Z n3 c3]) d.ln
def NR.le {V V':un}{l:zA Nd}(h:NR V vs l)(E:V.Le V'):NR V' vs l:=λi d a=>by
 obtain ⟨b1,b,c,e,b2,f,g,j,b3,k,m,n,o,p⟩:=h i d a;exact ⟨b1,b,c,e,b2,f,g,j,b3,k,m,n,o,p.le E⟩
structure NS (V:Ó) (p:OA) (n c:Nat) (l:List Nd):Prop where
 len:n=l.length
 cap:n<=c
 row:∃vs,V.sl p vs/\NR V vs l
 Ll:p.isNone=true->c=0
def NS.le {V V':un}{l:zA Nd}(h:NS V p n c l)(E:V.Le V'):NS V' p n c l:=by obtain ⟨a,b,⟨d,e,f⟩,g⟩:=h;exact ⟨a,b,⟨d,E.sl e,f.le E⟩,g⟩
def NS.isS {l:zA Nd}(h:NS V p n c l)(E:n≠0):p.isSome=true:=by (cases p with|none=>{have:=h.Ll rfl;have:=h.cap;omega}|some a=>rfl)
def qR (l:List Bool):List Value:=l.map .bool
def Rv {l:zA ut}{i:Nat}{b:ut}(h:l[i]?=some b):(qR l)[i]?=some (dB b):=by simp [qR,h]
def NS.rd {l:zA Nd}(h:NS V p n c l){d:Nd}(hd:l[k]?=some d):∃(b1:ut)(E:OA)(F c1:Nat)(b2:ut)(M:OA)(N O:Nat)(b3:ut)(Z:OA)(n3 c3:Nat)(a:Addr),af p (k*8)=some a /\ V.at (a.add 0) (dB b1)/\V.at (a.add 1) (yG E F c1)/\V.at (a.add 2) (dB b2)/\V.at (a.add 3) (yG M N O)/\V.at (a.add 4) (dB b3)/\V.at (a.add 5) (yG Z n3 c3)/\V.at (a.add 6) (Ô Ŵ d.left)/\V.at (a.add 7) (Ô Ŵ d.right) /\ Z7 V (hF #[dB b1,yG E F c1,dB b2,yG M N O,dB b3,yG Z n3 c3]) d.ln:=by obtain ⟨s,b,g⟩:=h.row;obtain ⟨b1,E,F,c1,b2,M,N,O,b3,Z,n3,c3,f,i⟩:=g k d hd;obtain ⟨m,rfl,-⟩:=b _ _ (f 0 _ rfl);have key:∀j v,([dB b1,yG E F c1,dB b2,yG M N O,dB b3,yG Z n3 c3,Ô Ŵ d.left,Ô Ŵ d.right]:zA um)[j]?=some v->V.at ((m.add (k*8)).add j) v:=by{intro j v o;have ⟨q,e,r⟩:=b _ _ (f j v o);cases e;rw [HK];exact r};exact ⟨b1,E,F,c1,b2,M,N,O,b3,Z,n3,c3,_,rfl,key 0 _ rfl,key 1 _ rfl,key 2 _ rfl,key 3 _ rfl,key 4 _ rfl,key 5 _ rfl,key 6 _ rfl,key 7 _ rfl,i⟩
def NB {l:zA Nd}(hb:∀x∈l,Bd x.ln)(hlen:l.length<=65536):∀(f:Nat) (n:Int) (s:RS) {V:un} {rb sb:Nat} {npp:OA} {nc:Nat},NS V npp l.length nc l ->V.w.heap[rb]?=some (.cells #[yG npp l.length nc,yG (some ⟨sb,0,none⟩) l.length l.length,Ô Ŵ (s.nF:Int),dB s.bad] 182 (0,0))->V.X rb ->V.w.heap[sb]?=some (.cells (qR s.seen).toArray 4 (0,0))->V.X sb->rb≠sb->s.seen.length=l.length->s.seen.count false<f->s.nF+s.seen.count false<=l.length ->À 99 #[qvJ (some ⟨rb,0,none⟩),Ô Ŵ n] V λr W=>∃p,r=qvJ p/\RT W p (gj l f n s).1 /\ W.w.heap[rb]?=some (.cells #[yG npp l.length nc,yG (some ⟨sb,0,none⟩) l.length l.length,Ô Ŵ ((gj l f n s).2.nF:Int),dB (gj l f n s).2.bad] 182 (0,0)) /\ W.w.heap[sb]?=some (.cells (qR (gj l f n s).2.seen).toArray 4 (0,0)):=by
 intro f
 induction f with
 | zero=>intro n s V rb sb npp nc _ _ _ _ _ _ _ h;omega
 | succ f ih=>
  intro n s V rb sb npp nc D Q R S T W E b7 b8;refine vG rb sb npp l.length nc l.length l.length s.nF s.bad (qR s.seen) n V _ Q R S T W ⟨λt V1 l1=>(jt _).s ?_,λt=>⟨λC V4 l4=>(jt _).s ?_,λC=>⟨λF V7 l7=>(jt _).s ?_,λF=>⟨λL fD b9=>(jt _).s ?_,λL=>?_⟩⟩⟩⟩
  ·rintro r V2 G ⟨p,rfl,d⟩;have Y:n=-2:=by{simpa using t};have e:gj l (f+1) n s=(.leaf true,s):=by{simp [gj,Y]};rw [t] at d;exact ⟨p,rfl,λI j g c=>⟨p,rfl,by rw [e];exact d.le j,by rw [e];exact g,by rw [e];exact c⟩⟩
  ·rintro r V2 G ⟨p,rfl,d⟩;have Y:n=-1:=by{simpa using C};have e:gj l (f+1) n s=(.leaf false,s):=by{simp [gj,Y]};rw [t] at d;exact ⟨p,rfl,λI j g c=>⟨p,rfl,by rw [e];exact d.le j,by rw [e];exact g,by rw [e];exact c⟩⟩
  ·rintro r V2 G ⟨p,rfl,d⟩;have A:¬n=-2:=by{simpa using t};have B:¬n=-1:=by{simpa using C};have y:n<0:=by{simpa using F};have e:gj l (f+1) n s=(.leaf false,{ s with bad:=true }):=by{simp [gj,A,B,y]};exact ⟨p,rfl,λI j g c=>⟨p,rfl,by rw [e];exact d.le j,by rw [e];exact g,by rw [e];exact c⟩⟩
  ·rintro r V2 G ⟨p,rfl,d⟩;have A:¬n=-2:=by{simpa using t};have B:¬n=-1:=by{simpa using C};have y:¬n<0:=by{simpa using F};have M:(l.length:Int)<=n:=by{simpa using L};have e:gj l (f+1) n s=(.leaf false,{ s with bad:=true }):=by{simp only [gj,A,B,y,Ð];rw [Ŧ ω]};exact ⟨p,rfl,λI j g c=>⟨p,rfl,by rw [e];exact d.le j,by rw [e];exact g,by rw [e];exact c⟩⟩
  ·have A:¬n=-2:=by{simpa using t};have B:¬n=-1:=by{simpa using C};have y:¬n<0:=by{simpa using F};have M:n<(l.length:Int):=by{simpa using L};clear t C F L;obtain ⟨k,rfl⟩:=ď (Ww6.1 y);have hk:k<l.length:=ω;have Z:k<s.seen.length:=ω;simp only [Ý,Ģ,ĉ];have i:=ñ Z;have m:=ñ hk;refine ⟨⟨ω,M⟩,s.seen[k],Rv i,λh4 ji fk=>(jt _).s ?_,λh4=>⟨⟨ω,M⟩,by simp [qR];omega,D.isS ω,⟨ω,M⟩,?_⟩⟩;{rintro r V2 G ⟨p,rfl,d⟩;have e:gj l (f+1) (k:Int) s=(.leaf false,{ s with bad:=true }):=by{simp only [gj,A,B,y,Ð,Ý];rw [i,h4,m]};exact ⟨p,rfl,λI j g c=>⟨p,rfl,by rw [e];exact d.le j,by rw [e];exact g,by rw [e];exact c⟩⟩};obtain ⟨b1,p1,m1,c1,b2,p2,m2,c2,b3,p3,m3,c3,a,ha,a0,a1,a2,a3,a4,a5,a6,a7,hL⟩:=D.rd m;refine ⟨b1,p1,m1,c1,b2,p2,m2,c2,b3,p3,m3,c3,_,_,a,ha,a0,a1,a2,a3,a4,a5,a6,a7,λko gV=>(H5 ra (hb _ (ú hk))).s ?_⟩;rintro r nk kf ⟨w,rfl,⟨x1,x2,x3,y1,y2,y3,z1,z2,z3,rfl⟩,hw⟩;rw [h4] at i;have J:(qR s.seen).set k (dB true)=qR (s.seen.set k true):=by{simp [qR,List.map_set]};have N:=count_set i;have w1:Ŵ.wrap ((s.nF:Int)+1)=((s.nF+1:Nat):Int):=ŵ;rw [J,w1];refine ⟨_,_,_,_,_,_,_,_,_,_,rfl,λz nq iF=>(jt _).s ?_,λz tM rI a8 a9 g c g3 g4 g5=>?_⟩;{rintro r V2 G ⟨p,rfl,d⟩;have z:bY l[k].ln=false:=by{simpa using z};have e:gj l (f+1) (k:Int) s=(.leaf false,⟨s.seen.set k true,s.nF+1,true⟩):=by{simp only [gj,A,B,y,Ð,Ý];rw [i,m];simp [z]};exact ⟨p,rfl,λI j g c=>⟨p,rfl,by rw [e];exact d.le j,by rw [e];exact g,by rw [e];exact c⟩⟩};have z:bY l[k].ln=true:=by{simpa using z};have O:∀(U:un)(u v:Nat),U.H u->U.H v->(U.au [u,v]).X u/\(U.au [u,v]).X v:=λU u v hu hv=>⟨⟨ψ,hu⟩,⟨ψ,hv⟩⟩;have i1:=ih l[k].left ⟨s.seen.set k true,s.nF+1,s.bad⟩ (V:=tM.au [a8,a9]) ra g (O _ _ _ c g4).1 g3 (O _ _ _ c g4).2 g5 (by simp [E]) ω ω;have hm:=wV l f l[k].left ⟨s.seen.set k true,s.nF+1,s.bad⟩;have b0:=I2 l f l[k].left ⟨s.seen.set k true,s.nF+1,s.bad⟩;have e:gj l (f+1) (k:Int) s=(.node l[k].ln (gj l f l[k].left ⟨s.seen.set k true,s.nF+1,s.bad⟩).1 (gj l f l[k].right (gj l f l[k].left ⟨s.seen.set k true,s.nF+1,s.bad⟩).2).1,(gj l f l[k].right (gj l f l[k].left ⟨s.seen.set k true,s.nF+1,s.bad⟩).2).2):=by{simp only [gj,A,B,y,Ð,Ý];rw [i,m];simp [z]};rw [e];clear e;dsimp only;generalize gj l f l[k].left ⟨s.seen.set k true,s.nF+1,s.bad⟩=q1 at *;obtain ⟨t1,s1⟩:=q1;dsimp only at i1 hm b0 ⊢;refine i1.s ?_;rintro r vO oX ⟨p,rfl,d,e1,e2⟩;refine ⟨p,rfl,_,_,_,_,_,e1,_,e2,λP oY PO Nv f1 f2 f3 f4 f5=>?_⟩;have c0:tM.Le P:=λb o h=>oY b o (oX b o h);have i2:=ih l[k].right s1 (V:=P.au [PO,Nv]) ra f1 (O _ _ _ f2 f4).1 f3 (O _ _ _ f2 f4).2 f5 (by rw [hm.2];simp [E]) ω ω;generalize gj l f l[k].right s1=q2 at *;obtain ⟨t2,s2⟩:=q2;dsimp only at i2 ⊢;refine i2.s ?_;rintro r EL tO ⟨q,rfl,hq,e3,e4⟩;refine ⟨q,rfl,_,_,_,_,_,e3,_,e4,λNa qI=>?_⟩;have b5:P.Le EL:=λb o h=>tO b o h;have K:EL.Le Na:=λb o h=>qI b o h;have b6:vO.Le P:=λb o h=>oY b o h;refine (RO ((hw z).le (rI.m aA)) (d.le aA) (hq.le K)).s ?_;rintro r Rk Ng ⟨u,rfl,hu⟩;exact ⟨u,rfl,λXF CO g c=>⟨u,rfl,hu.le CO,g,c⟩⟩
def Uf {l:zA Nd}(Z:∀x∈l,Bd x.ln)(root:Int)(h:NS V p n c l):À 42 #[hF #[Ô Ŵ root,yG p n c]] V λr W=>(tQ l root=none->∃q,r=å #[qvJ q,dB false])/\(∀t,tQ l root=some t->∃q,r=å #[qvJ q,dB true]/\RT W q t):=by have v:=h.len;subst v;refine Tk V _ ⟨λa I J=>?_,λa=>⟨ω,Wx6 _,?_,λV2 K j k u w m y z=>?_⟩⟩;{have a:65536<l.length:=by{simp at a;omega};have e:tQ l root=none:=by{unfold tQ;rw [Ä a]};exact ⟨λ_=>⟨_,rfl⟩,λt d=>by rw [e] at d;cases d⟩};{have a:¬65536<l.length:=by{simp at a;omega};omega};have a:¬65536<l.length:=by{simp at a;omega};simp only [Ý] at u m ⊢;have A:List.replicate l.length (Value.bool false)=qR (List.replicate l.length false):=by{simp [qR]};rw [A] at m;have B:(List.replicate l.length false).count false=l.length:=ψ;refine (NB Z ω (l.length+1) root ⟨List.replicate l.length false,0,false⟩ (V:=V2.au [j,k]) ra u ⟨ψ,w⟩ m ⟨ψ,y⟩ z ψ ω ω).s ?_;rintro r C L ⟨q,rfl,D,E,F⟩;have g:tQ l root=if (gj l (l.length+1) root ⟨List.replicate l.length false,0,false⟩).2.bad=true\/(gj l (l.length+1) root ⟨List.replicate l.length false,0,false⟩).2.nF≠l.length then none else some (gj l (l.length+1) root ⟨List.replicate l.length false,0,false⟩).1:=by{unfold tQ;rw [Ã a]};rw [g];clear g;generalize gj l (l.length+1) root ⟨List.replicate l.length false,0,false⟩=r0 at *;obtain ⟨t,s⟩:=r0;refine ⟨q,rfl,_,_,_,_,_,E,_,F,λi M N=>?_,λi=>⟨λf O P=>?_,λf G H=>?_⟩⟩;{rw [Ä (.inl i)];exact ⟨λ_=>⟨_,rfl⟩,λt d=>by cases d⟩};{have f:s.nF≠l.length:=by{simp at f;omega};rw [Ä (.inr f)];exact ⟨λ_=>⟨_,rfl⟩,λt d=>by cases d⟩};have f:s.nF=l.length:=by{simp at f;omega};dsimp only at i ⊢;rw [Ã (by rw [i,f];simp)];exact ⟨λe=>(by cases e),λt1 d=>by cases d;exact ⟨q,rfl,RT.le (V:=C) (V':=G) (λb o h=>H b o h) D⟩⟩
def ae.monoH {f:FuncId}{args:Array um}{R E:um->un->Prop}(h:À f args V R)(F:∀r V',V.Le V'->(∀b,V'.H b->V.H b)->R r V'->E r V'):À f args V E:=
 ⟨h.1,h.2.s λ_ c ⟨r,he,a,d⟩=>⟨r,he,a,F r _ (V.Vg c a) (λ_ e=>e) d⟩⟩
def mB {b:Nat}(h:vs≠[]):vb vs n b=b:=by cases vs with|nil=>exact Å rfl h|cons v r=>rfl
theorem NR.push {vs sp:zA um}{l:zA Nd}(h:NR V vs l)(hl:l.length*8<=vs.length){ln:L3}{x y:Int}{b1:ut}{E:OA}{F c1:Nat}{b2:ut}{M:OA}{N O:Nat}{b3:ut}{Z:OA}{n3 c3:Nat}(hL:RL V (hF #[dB b1,yG E F c1,dB b2,yG M N O,dB b3,yG Z n3 c3]) ln.1 ln.2.1 ln.2.2):NR V (vs.take (l.length*8)++[dB b1,yG E F c1,dB b2,yG M N O,dB b3,yG Z n3 c3,Ô Ŵ x,Ô Ŵ y]++sp) (l++[⟨ln,x,y⟩]):=by intro i d a;rcases ē i l.length with b|b;{rw [ĳ b] at a;have ⟨c,e,f,g,k,m,n,o,p,q,r,s,z,u⟩:=h i d a;refine ⟨c,e,f,g,k,m,n,o,p,q,r,s,λj v w=>?_,u⟩;have A:j<8:=χ;grind};rw [ň b] at a;have t:i=l.length:=χ;subst t;simp only [Nat.sub_self,List.getElem?_cons_zero,ā] at a;subst a;refine ⟨b1,E,F,c1,b2,M,N,O,b3,Z,n3,c3,λj v w=>?_,.inl hL⟩<;>grind [Nat.add_sub_cancel_left]
theorem NR.set6 {l:zA Nd}(h:NR V vs l){d:Nd}(E:l[k]?=some d){x:Int}:NR V (vs.set (k*8+6) (Ô Ŵ x)) (l.set k ⟨d.ln,x,d.right⟩):=by intro i t a;rw [Qr0] at a;split at a;{rename_i e;subst e;split at a;{cases a;obtain ⟨b1,b,c,f,b2,g,m,n,b3,o,p,q,s,r⟩:=h k d E;refine ⟨b1,b,c,f,b2,g,m,n,b3,o,p,q,λj v u=>?_,r⟩;rw [Qr0];by_cases w:j=6;{subst w;have:=s 6 _ rfl;grind};grind};cases a};rename_i e;obtain ⟨b1,b,c,f,b2,g,m,n,b3,o,p,q,s,r⟩:=h i t a;refine ⟨b1,b,c,f,b2,g,m,n,b3,o,p,q,λj v u=>?_,r⟩<;>grind
theorem NR.set7 {l:zA Nd}(h:NR V vs l){d:Nd}(E:l[k]?=some d){x:Int}:NR V (vs.set (k*8+7) (Ô Ŵ x)) (l.set k ⟨d.ln,d.left,x⟩):=by intro i w a;rw [Qr0] at a;split at a;{rename_i e;subst e;split at a;{cases a;obtain ⟨b1,b,c,f,b2,g,m,n,b3,o,p,q,t,r⟩:=h k d E;refine ⟨b1,b,c,f,b2,g,m,n,b3,o,p,q,λj v u=>?_,r⟩;rw [Qr0];by_cases y:j=7;{subst y;have:=t 7 _ rfl;have s:k*8+7<vs.length:=by{rcases ē (k*8+7) vs.length with h|h;{exact h};rw [Ŧ h] at this;cases this};rw [Ä rfl,Ä s];exact u};grind};cases a};rename_i e;obtain ⟨b1,b,c,f,b2,g,m,n,b3,o,p,q,t,r⟩:=h i w a;refine ⟨b1,b,c,f,b2,g,m,n,b3,o,p,q,λj v u=>?_,r⟩<;>grind
theorem NR.kids {V:un}{l r:zA Nd}{ln:L3}{u v x y:Int}(h:NR V vs (l++⟨ln,u,v⟩::r)):NR V ((vs.set (l.length*8+6) (Ô Ŵ x)).set (l.length*8+7) (Ô Ŵ y)) (l++⟨ln,x,y⟩::r):=by have b:(l++(⟨ln,u,v⟩:Nd)::r)[l.length]?=some ⟨ln,u,v⟩:=ψ;have a:=h.set6 b (x:=x);have c:(l++(⟨ln,u,v⟩:Nd)::r).set l.length ⟨ln,x,v⟩=l++⟨ln,x,v⟩::r:=ψ;rw [c] at a;have d:(l++(⟨ln,x,v⟩:Nd)::r)[l.length]?=some ⟨ln,x,v⟩:=ψ;have e:=a.set7 d (x:=y);grind
theorem NR.take {l:zA Nd}(h:NR V vs l):NR V (vs.take (l.length*8)) l:=by intro i d a;obtain ⟨b1,b,c,e,b2,f,g,k,b3,m,n,o,q,p⟩:=h i d a;refine ⟨b1,b,c,e,b2,f,g,k,b3,m,n,o,λj v r=>?_,p⟩<;>grind
theorem NS.ofRow {V:un}{b c:Nat}{vm:zA um}{l:zA Nd}{ty:TypeId}(M:vm≠[]->V.bo b (.cells vm.toArray ty (0,0)))(E:l.length<=c)(F:NR V vm l):NS V (mA b c) l.length c l:=by refine ⟨rfl,E,⟨_,?_,F.take⟩,?_⟩;{intro i v a;rw [Ĳ] at a;split at a;{rename_i f;have d:vm≠[]:=λe=>by{rw [e] at a;simp at a};refine ⟨⟨b,0,none⟩,by unfold mA;rw [Ã ω],?_⟩<;>grind [add_zero',dM]};cases a};intro e;unfold mA at e;grind
def Nj:List Tr->Nat
 | []=>0
 | t::r=>2*t.size+1+Nj r
def C8 (a b:zA Tr):Nj (a++b)=Nj a+Nj b:=by
 induction a with
 | nil=>simp [Nj]
 | cons t r E=>simp only [Qc1,Nj];omega
def Stk (V:Ó)(vs:List Value)(ts:List Tr):Prop:=∀(i:Nat)(t:Tr),ts[i]?=some t->∃p,vs[i]?=some (.pointer p)/\RT V p t
def Stk.le {V V':un}{ts:zA Tr}(h:Stk V vs ts)(l:V.Le V'):Stk V' vs ts:=λi t a=>by
 have ⟨p,b,c⟩:=h i t a;exact ⟨p,b,c.le l⟩
def Y4 (ts:zA Tr):ts.length<=Nj ts:=by
 induction ts with
 | nil=>simp
 | cons t r E=>simp only [Nj,Ċ];omega
theorem Stk.Zi {sp:zA um}{ts:zA Tr}{x y:Tr}(h:Stk V vs ts)(hm:m<=ts.length)(E:m<=vs.length)(F:RT V p x)(M:RT V q y):Stk V (vs.take m++[qvJ p,qvJ q]++sp) (ts.take m++[x,y]):=by intro i t a;rcases ē i m with b|b;{rw [ĳ (by rw [ë];omega),Ĳ,Ä b] at a;have ⟨r,c,d⟩:=h i t a;grind};rw [ň (by rw [ë];omega),ë,Ħ hm] at a;obtain ⟨j,rfl⟩:∃j,i=m+j:=⟨i-m,ω⟩;rw [Qn2] at a;have e:∀v,([qvJ p,qvJ q]:zA um)[j]?=some v->(vs.take m++[qvJ p,qvJ q]++sp)[m+j]?=some v:=χ;grind
def AT (V:Ó)(v:Value)(root:Int)(l:List Nd):Prop:=∃q n c,v=.agg #[.int Ŵ root,.slice q n c]/\NS V q n c l
def AT.le {V V':un}{root:Int}{l:zA Nd}(h:AT V v root l)(E:V.Le V'):AT V' v root l:=by obtain ⟨q,n,c,e,h⟩:=h;exact ⟨q,n,c,e,h.le E⟩
def Gs {l:zA Nd}(E:∀x∈l,Bd x.ln){root:Int}(h:AT V v root l):À 42 #[v] V λr W=>∃q,r=å #[qvJ q,dB (tQ l root).isSome]/\∀t,tQ l root=some t->RT W q t:=by obtain ⟨p,n,c,rfl,h⟩:=h;refine (Uf E root h).s ?_;rintro r V' _ ⟨b,d⟩;(cases e:tQ l root with|none=>{obtain ⟨q,rfl⟩:=b e;exact ⟨q,rfl,λt a=>by cases a⟩}|some t=>{obtain ⟨q,rfl,f⟩:=d t e;exact ⟨q,rfl,λg a=>by cases a;exact f⟩})
end Go.Proofs.Tryz
