import Derived.Test.YtdhlkpfmlimjfaaGreatDoorC14
import Derived.Test.YtdhlkpfmlimjfaaGreatDoorC8
import Derived.Test.YtdhlkpfmlimjfaaGreatDoorC13
import Derived.Test.YtdhlkpfmlimjfaaGreatDoorC6
import Derived.Test.YtdhlkpfmlimjfaaGreatDoorC10
set_option linter.unusedVariables false
open Go.IntKind (i64 u64 u32)
namespace Go.Proofs.Tryz
open Go.Eng Go.Big
theorem ny {V:View}{v:Value}{q:Rat}(h:RQ V v q){k:Nat}(_s:Sz k q)(_hk:k<=1099511627776):Acts prog 64 #[v] V fun r V'=>RQ V' r (-q):=by
 obtain ⟨p,n,c,d,e,f,rfl,a,b⟩:=h;exact jG q a b
theorem aS {V:View}{z:Int}{p:OA}{n c:Nat}(h:RD V p n c (af z.natAbs)){k:Nat}(_s:Sz k (z:Rat))(_hk:k<=1099511627776) :
  Acts prog 84 #[.agg #[.bool (decide (z<0)),.slice p n c]] V fun r V'=>RQ V' r (z:Rat):=Gu z h
theorem cP {V:View}{l:Value}{bC l_1 cG:Int}(hl:RL V l bC l_1 cG){k:Nat}(aY:Sz k ((bC:Int):Rat))(bf:Sz k ((l_1:Int):Rat))(aX:Sz k ((cG:Int):Rat))(hk:1*k+1<274877906944) :
  Acts prog 99 #[l] V fun r V'=>RP V' r (((l_1:Int):Rat)) (-(((bC:Int):Rat))):=by
 have p:=hl;obtain ⟨l0,a,e,b,f,c,g,d,q,rfl,s,t,w⟩:=hl;refine A_ _ l0 a e _ b f c _ g d q V _ fun x a=>(aS (t.le (a)) bf (by omega)).mono ?_;rintro r V2 e j;have h:=j;obtain ⟨y,z,A,B,C,D,rfl⟩:=j.shape;refine ⟨_,_,_,_,_,_,_,rfl,fun E b=>(aS (s.le (a.trans (e.trans (b)))) aY (by omega)).mono ?_⟩;rintro r F f n;have i:=n;obtain ⟨G,H,I,J,K,L,rfl⟩:=n.shape;have u:=Sz.mono (m:=1*k+0) (aY) (by omega);refine ⟨_,_,_,_,_,_,_,rfl,fun M c=>(ny (i.le (c)) u (by omega)).mono ?_⟩;rintro r N g o;have v:=o;obtain ⟨O,P,Q,R,S,T,rfl⟩:=o.shape;exact ⟨_,_,_,_,_,_,_,rfl,fun U d=>⟨_,_,_,_,_,_,_,_,_,_,_,_,rfl,(h.le (b.trans (f.trans (c.trans (g.trans (d)))))),(v.le (d))⟩⟩
theorem eL {bC:Int}{l_1:Int}{cG:Int}{k:Nat}(aY:Sz k ((bC:Int):Rat))(bf:Sz k ((l_1:Int):Rat))(aX:Sz k ((cG:Int):Rat)):Sz (1*k+0) (((l_1:Int):Rat)):=by
 have a:=Sz.mono (m:=1*k+0) (bf) (by omega);exact Sz.mono a (by omega)
theorem eM {bC:Int}{l_1:Int}{cG:Int}{k:Nat}(aY:Sz k ((bC:Int):Rat))(bf:Sz k ((l_1:Int):Rat))(aX:Sz k ((cG:Int):Rat)):Sz (1*k+0) (-(((bC:Int):Rat))):=by
 have a:=Sz.mono (m:=1*k+0) (aY) (by omega);have b:=Sz.mono (m:=1*k+0) (Sz.neg a) (by omega);exact Sz.mono b (by omega)
theorem lu {V:View}{p:Value}{fy fA:Rat}{q:Value}{o_ pf:Rat}(hp:RP V p fy fA)(hq:RP V q o_ pf){k:Nat}(dH:Sz k fy)(dI:Sz k fA)(kP:Sz k o_)(kQ:Sz k pf)(hk:4*k+3<274877906944) :
  Acts prog 128 #[p,q] V fun r V'=>RQ V' r (((fy)*(o_))+((fA)*(pf))):=by
 have j:=hp;obtain ⟨l,n,o,s,t,u,v,w,x,y,z,A,rfl,B,C⟩:=hp;have D:=hq;obtain ⟨E,F,G,H,I,J,K,L,M,N,O,P,rfl,Q,R⟩:=hq;refine Ba _ l n o s t u _ v w x y z A _ E F G H I J _ K L M N O P V _ fun Y a=>(aI (B.le (a)) (Q.le (a)) dH kP (by omega)).mono ?_;rintro r V2 e f;have b:=f;obtain ⟨Z,MG,MH,Xb,Xc,Xd,rfl⟩:=f.shape;have S:=Sz.mono (m:=2*k+1) (Sz.mul dH kP) (by omega);refine ⟨_,_,_,_,_,_,_,rfl,fun V3 c=>(aI (C.le (a.trans (e.trans (c)))) (R.le (a.trans (e.trans (c)))) dI kQ (by omega)).mono ?_⟩;rintro r V4 T g;have d:=g;obtain ⟨JY,JZ,J0,RG,RH,RJ,rfl⟩:=g.shape;have U:=Sz.mono (m:=2*k+1) (Sz.mul dI kQ) (by omega);refine ⟨_,_,_,_,_,_,_,rfl,fun V5 h=>(cS (b.le (c.trans (T.trans (h)))) (d.le (h)) S U (by omega)).mono ?_⟩;rintro r V6 l6 i;have W:=i;obtain ⟨LD,LG,LH,RK,RM,RO,rfl⟩:=i.shape;exact ⟨_,_,_,_,_,_,_,rfl,fun V7 X=>(W.le (X))⟩
theorem eN {fy:Rat}{fA:Rat}{o_:Rat}{pf:Rat}{k:Nat}(dH:Sz k fy)(dI:Sz k fA)(kP:Sz k o_)(kQ:Sz k pf):Sz (4*k+3) (((fy)*(o_))+((fA)*(pf))):=by
 have a:=Sz.mono (m:=2*k+1) (Sz.mul dH kP) (by omega);have b:=Sz.mono (m:=2*k+1) (Sz.mul dI kQ) (by omega);have c:=Sz.mono (m:=4*k+3) (Sz.add a b) (by omega);exact Sz.mono c (by omega)
theorem gi {V:View}{l:Value}{bC l_1 cG:Int}{p:Value}{fy fA:Rat}(hl:RL V l bC l_1 cG)(hp:RP V p fy fA){k:Nat}(aY:Sz k ((bC:Int):Rat))(bf:Sz k ((l_1:Int):Rat))(aX:Sz k ((cG:Int):Rat))(dH:Sz k fy)(dI:Sz k fA)(hk:5*k+4<274877906944) :
  Acts prog 110 #[l,p] V fun r V'=>RQ V' r ((((((bC:Int):Rat))*(fy))+((((l_1:Int):Rat))*(fA)))+(((cG:Int):Rat))):=by
 have F:=hl;obtain ⟨l0,a,c,b,f,d,g,e,j,rfl,G,H,I⟩:=hl;have J:=hp;obtain ⟨K,L,M,N,O,P,Q,R,S,T,U,W,rfl,X,Y⟩:=hp;refine wa _ l0 a c _ b f d _ g e j _ K L M N O P _ Q R S T U W V _ fun V1 a=>(aS (G.le (a)) aY (by omega)).mono ?_;rintro r V2 c u;have n:=u;obtain ⟨MF,MG,MH,Xb,Xc,Xd,rfl⟩:=u.shape;have v:=Sz.mono (m:=1*k+0) (aY) (by omega);refine ⟨_,_,_,_,_,_,_,rfl,fun V3 b=>(aI (n.le (b)) (X.le (a.trans (c.trans (b)))) v dH (by omega)).mono ?_⟩;rintro r V4 f w;have o:=w;obtain ⟨JY,JZ,J0,RG,RH,RJ,rfl⟩:=w.shape;have x:=Sz.mono (m:=2*k+1) (Sz.mul v dH) (by omega);refine ⟨_,_,_,_,_,_,_,rfl,fun V5 d=>(aS (H.le (a.trans (c.trans (b.trans (f.trans (d)))))) bf (by omega)).mono ?_⟩;rintro r V6 g y;have Z:=y;obtain ⟨LD,LG,LH,RK,RM,RO,rfl⟩:=y.shape;have z:=Sz.mono (m:=1*k+0) (bf) (by omega);refine ⟨_,_,_,_,_,_,_,rfl,fun V7 e=>(aI (Z.le (e)) (Y.le (a.trans (c.trans (b.trans (f.trans (d.trans (g.trans (e)))))))) z dI (by omega)).mono ?_⟩;rintro r V8 j A;have Kc:=A;obtain ⟨U1,U2,U3,Xj,Xk,Xl,rfl⟩:=A.shape;have B:=Sz.mono (m:=2*k+1) (Sz.mul z dI) (by omega);refine ⟨_,_,_,_,_,_,_,rfl,fun V9 q=>(cS (o.le (d.trans (g.trans (e.trans (j.trans (q)))))) (Kc.le (q)) x B (by omega)).mono ?_⟩;rintro r a1 s C;have KD:=C;obtain ⟨Z3,Z7,Z8,Z_,a2,a3,rfl⟩:=C.shape;have xQ:=Sz.mono (m:=4*k+3) (Sz.add x B) (by omega);refine ⟨_,_,_,_,_,_,_,rfl,fun a4 h=>(aS (I.le (a.trans (c.trans (b.trans (f.trans (d.trans (g.trans (e.trans (j.trans (q.trans (s.trans (h)))))))))))) aX (by omega)).mono ?_⟩;rintro r a5 t D;have M8:=D;obtain ⟨a6,a7,a8,a9,b5,b6,rfl⟩:=D.shape;have J4:=Sz.mono (m:=1*k+0) (aX) (by omega);refine ⟨_,_,_,_,_,_,_,rfl,fun b7 i=>(cS (KD.le (h.trans (t.trans (i)))) (M8.le (i)) xQ J4 (by omega)).mono ?_⟩;rintro r b8 cO E;have M9:=E;obtain ⟨b9,c0,c1,c2,c3,c4,rfl⟩:=E.shape;exact ⟨_,_,_,_,_,_,_,rfl,fun c5 dh=>(M9.le (dh))⟩
theorem wQ {V:View}{l:Value}{bC l_1 cG:Int}{p:Value}{fy fA:Rat}(hl:RL V l bC l_1 cG)(hp:RP V p fy fA)(hd0:((((((l_1:Int):Rat)))*((((l_1:Int):Rat))))+(((-(((bC:Int):Rat))))*((-(((bC:Int):Rat)))))).num≠0){k:Nat}(aY:Sz k ((bC:Int):Rat))(bf:Sz k ((l_1:Int):Rat))(aX:Sz k ((cG:Int):Rat))(dH:Sz k fy)(dI:Sz k fA)(hk:8*k+7<274877906944) :
  Acts prog 140 #[l,p] V fun r V'=>RQ V' r ((((fy)*((((l_1:Int):Rat))))+((fA)*((-(((bC:Int):Rat))))))*((((((l_1:Int):Rat)))*((((l_1:Int):Rat))))+(((-(((bC:Int):Rat))))*((-(((bC:Int):Rat))))))⁻¹):=by
 have i:=hl;obtain ⟨l0,f,j,b,g,e,n,h,s,rfl,O,P,Q⟩:=hl;have o:=hp;obtain ⟨x,y,z,A,B,C,D,E,F,G,H,I,rfl,R,S⟩:=hp;refine v_ _ l0 f j _ b g e _ n h s _ x y z A B C _ D E F G H I V _ fun T f=>(cP (i.le (f)) (Sz.mono aY (by omega):Sz (1*k+0) _) (Sz.mono bf (by omega):Sz (1*k+0) _) (Sz.mono aX (by omega):Sz (1*k+0) _) (by omega)).mono ?_;rintro r V2 j t;have a:=t;obtain ⟨U,W,X,Y,Z,JX,Q1,Q2,Q3,Q4,MD,ME,rfl,Ii,Ij⟩:=t;have c:=Sz.mono (m:=1*k+0) ((eL (Sz.mono aY (by omega):Sz (1*k+0) _) (Sz.mono bf (by omega):Sz (1*k+0) _) (Sz.mono aX (by omega):Sz (1*k+0) _))) (by omega);have d:=Sz.mono (m:=1*k+0) ((eM (Sz.mono aY (by omega):Sz (1*k+0) _) (Sz.mono bf (by omega):Sz (1*k+0) _) (Sz.mono aX (by omega):Sz (1*k+0) _))) (by omega);refine ⟨_,_,_,_,_,_,_,_,_,_,_,_,_,_,rfl,fun V3 b=>(lu (o.le (f.trans (j.trans (b)))) (a.le (b)) (Sz.mono dH (by omega):Sz (1*k+0) _) (Sz.mono dI (by omega):Sz (1*k+0) _) (Sz.mono c (by omega):Sz (1*k+0) _) (Sz.mono d (by omega):Sz (1*k+0) _) (by omega)).mono ?_⟩;rintro r V4 g u;have q:=u;obtain ⟨JY,JZ,J0,RG,RH,RJ,rfl⟩:=u.shape;have J:=Sz.mono (m:=4*k+3) ((eN (Sz.mono dH (by omega):Sz (1*k+0) _) (Sz.mono dI (by omega):Sz (1*k+0) _) (Sz.mono c (by omega):Sz (1*k+0) _) (Sz.mono d (by omega):Sz (1*k+0) _))) (by omega);refine ⟨_,_,_,_,_,_,_,rfl,fun V5 e=>(lu (a.le (b.trans (g.trans (e)))) (a.le (b.trans (g.trans (e)))) (Sz.mono c (by omega):Sz (1*k+0) _) (Sz.mono d (by omega):Sz (1*k+0) _) (Sz.mono c (by omega):Sz (1*k+0) _) (Sz.mono d (by omega):Sz (1*k+0) _) (by omega)).mono ?_⟩;rintro r V6 n v;have K:=v;obtain ⟨LD,LG,LH,RK,RM,RO,rfl⟩:=v.shape;have L:=Sz.mono (m:=4*k+3) ((eN (Sz.mono c (by omega):Sz (1*k+0) _) (Sz.mono d (by omega):Sz (1*k+0) _) (Sz.mono c (by omega):Sz (1*k+0) _) (Sz.mono d (by omega):Sz (1*k+0) _))) (by omega);refine ⟨_,_,_,_,_,_,_,rfl,fun V7 h=>(fS (q.le (e.trans (n.trans (h)))) (K.le (h)) hd0 J L (by omega)).mono ?_⟩;rintro r V8 s w;have M:=w;obtain ⟨U1,U2,U3,Xj,Xk,Xl,rfl⟩:=w.shape;exact ⟨_,_,_,_,_,_,_,rfl,fun V9 N=>(M.le (N))⟩
theorem oB {V:View}{l:Value}{bC l_1 cG:Int}(hl:RL V l bC l_1 cG)(hd0:((((((l_1:Int):Rat)))*((((l_1:Int):Rat))))+(((-(((bC:Int):Rat))))*((-(((bC:Int):Rat)))))).num≠0){k:Nat}(aY:Sz k ((bC:Int):Rat))(bf:Sz k ((l_1:Int):Rat))(aX:Sz k ((cG:Int):Rat))(hk:6*k+5<274877906944) :
  Acts prog 80 #[l] V fun r V'=>RP V' r ((-((((cG:Int):Rat))*((((((l_1:Int):Rat)))*((((l_1:Int):Rat))))+(((-(((bC:Int):Rat))))*((-(((bC:Int):Rat))))))⁻¹))*(((bC:Int):Rat))) ((-((((cG:Int):Rat))*((((((l_1:Int):Rat)))*((((l_1:Int):Rat))))+(((-(((bC:Int):Rat))))*((-(((bC:Int):Rat))))))⁻¹))*(((l_1:Int):Rat))):=by
 have t:=hl;obtain ⟨l0,f,i,c,g,d,j,h,p,rfl,P,Q,R⟩:=hl;refine xH _ l0 f i _ c g d _ j h p V _ fun V1 f=>(cP (t.le (f)) (Sz.mono aY (by omega):Sz (1*k+0) _) (Sz.mono bf (by omega):Sz (1*k+0) _) (Sz.mono aX (by omega):Sz (1*k+0) _) (by omega)).mono ?_;rintro r V2 i y;have n:=y;obtain ⟨JS,JT,JU,JV,JW,JX,Q1,Q2,Q3,Q4,MD,ME,rfl,Ii,Ij⟩:=y;have q:=Sz.mono (m:=1*k+0) ((eL (Sz.mono aY (by omega):Sz (1*k+0) _) (Sz.mono bf (by omega):Sz (1*k+0) _) (Sz.mono aX (by omega):Sz (1*k+0) _))) (by omega);have s:=Sz.mono (m:=1*k+0) ((eM (Sz.mono aY (by omega):Sz (1*k+0) _) (Sz.mono bf (by omega):Sz (1*k+0) _) (Sz.mono aX (by omega):Sz (1*k+0) _))) (by omega);refine ⟨_,_,_,_,_,_,_,_,_,_,_,_,_,_,rfl,fun V3 c=>(aS (R.le (f.trans (i.trans (c)))) aX (by omega)).mono ?_⟩;rintro r V4 g z;have u:=z;obtain ⟨JY,JZ,J0,RG,RH,RJ,rfl⟩:=z.shape;have A:=Sz.mono (m:=1*k+0) (aX) (by omega);refine ⟨_,_,_,_,_,_,_,rfl,fun V5 d=>(lu (n.le (c.trans (g.trans (d)))) (n.le (c.trans (g.trans (d)))) (Sz.mono q (by omega):Sz (1*k+0) _) (Sz.mono s (by omega):Sz (1*k+0) _) (Sz.mono q (by omega):Sz (1*k+0) _) (Sz.mono s (by omega):Sz (1*k+0) _) (by omega)).mono ?_⟩;rintro r V6 j B;have S:=B;obtain ⟨LD,LG,LH,RK,RM,RO,rfl⟩:=B.shape;have C:=Sz.mono (m:=4*k+3) ((eN (Sz.mono q (by omega):Sz (1*k+0) _) (Sz.mono s (by omega):Sz (1*k+0) _) (Sz.mono q (by omega):Sz (1*k+0) _) (Sz.mono s (by omega):Sz (1*k+0) _))) (by omega);refine ⟨_,_,_,_,_,_,_,rfl,fun V7 h=>(fS (u.le (d.trans (j.trans (h)))) (S.le (h)) hd0 A C (by omega)).mono ?_⟩;rintro r V8 p D;have T:=D;obtain ⟨U1,U2,U3,Xj,Xk,Xl,rfl⟩:=D.shape;have E:=Sz.mono (m:=5*k+4) (Sz.mul A (dJ C)) (by omega);refine ⟨_,_,_,_,_,_,_,rfl,fun V9 v=>(ny (T.le (v)) E (by omega)).mono ?_⟩;rintro r U o F;have G:=F;obtain ⟨Z3,Z7,Z8,Z_,W,X,rfl⟩:=F.shape;have H:=Sz.mono (m:=5*k+4) (Sz.neg E) (by omega);refine ⟨_,_,_,_,_,_,_,rfl,fun Y a=>(aS (P.le (f.trans (i.trans (c.trans (g.trans (d.trans (j.trans (h.trans (p.trans (v.trans (o.trans (a)))))))))))) aY (by omega)).mono ?_⟩;rintro r Z e I;have M8:=I;obtain ⟨a1,a2,a3,a4,a5,a6,rfl⟩:=I.shape;have J4:=Sz.mono (m:=1*k+0) (aY) (by omega);refine ⟨_,_,_,_,_,_,_,rfl,fun a7 b=>(aI (G.le (a.trans (e.trans (b)))) (M8.le (b)) H J4 (by omega)).mono ?_⟩;rintro r a8 J K;have M9:=K;obtain ⟨a9,b5,b6,b7,b8,b9,rfl⟩:=K.shape;refine ⟨_,_,_,_,_,_,_,rfl,fun c0 w=>(aS (Q.le (f.trans (i.trans (c.trans (g.trans (d.trans (j.trans (h.trans (p.trans (v.trans (o.trans (a.trans (e.trans (b.trans (J.trans (w)))))))))))))))) bf (by omega)).mono ?_⟩;rintro r j9 L M;have Ph:=M;obtain ⟨c1,c2,c3,c4,c5,c6,rfl⟩:=M.shape;have Od:=Sz.mono (m:=1*k+0) (bf) (by omega);refine ⟨_,_,_,_,_,_,_,rfl,fun ng x=>(aI (G.le (a.trans (e.trans (b.trans (J.trans (w.trans (L.trans (x)))))))) (Ph.le (x)) H Od (by omega)).mono ?_⟩;rintro r oo dk N;have Ym:=N;obtain ⟨c7,c8,c9,d0,d1,d2,rfl⟩:=N.shape;exact ⟨_,_,_,_,_,_,_,rfl,fun se O=>⟨_,_,_,_,_,_,_,_,_,_,_,_,rfl,(M9.le (w.trans (L.trans (x.trans (dk.trans (O)))))),(Ym.le (O))⟩⟩
theorem wu {bC:Int}{l_1:Int}{cG:Int}{k:Nat}(aY:Sz k ((bC:Int):Rat))(bf:Sz k ((l_1:Int):Rat))(aX:Sz k ((cG:Int):Rat)):Sz (6*k+5) ((-((((cG:Int):Rat))*((((((l_1:Int):Rat)))*((((l_1:Int):Rat))))+(((-(((bC:Int):Rat))))*((-(((bC:Int):Rat))))))⁻¹))*(((bC:Int):Rat))):=by
 have a:=Sz.mono (m:=1*k+0) ((eL (Sz.mono aY (by omega):Sz (1*k+0) _) (Sz.mono bf (by omega):Sz (1*k+0) _) (Sz.mono aX (by omega):Sz (1*k+0) _))) (by omega);have b:=Sz.mono (m:=1*k+0) ((eM (Sz.mono aY (by omega):Sz (1*k+0) _) (Sz.mono bf (by omega):Sz (1*k+0) _) (Sz.mono aX (by omega):Sz (1*k+0) _))) (by omega);have c:=Sz.mono (m:=1*k+0) (aX) (by omega);have d:=Sz.mono (m:=4*k+3) ((eN (Sz.mono a (by omega):Sz (1*k+0) _) (Sz.mono b (by omega):Sz (1*k+0) _) (Sz.mono a (by omega):Sz (1*k+0) _) (Sz.mono b (by omega):Sz (1*k+0) _))) (by omega);have e:=Sz.mono (m:=5*k+4) (Sz.mul c (dJ d)) (by omega);have f:=Sz.mono (m:=5*k+4) (Sz.neg e) (by omega);have g:=Sz.mono (m:=1*k+0) (aY) (by omega);have h:=Sz.mono (m:=6*k+5) (Sz.mul f g) (by omega);exact Sz.mono h (by omega)
theorem wA {bC:Int}{l_1:Int}{cG:Int}{k:Nat}(aY:Sz k ((bC:Int):Rat))(bf:Sz k ((l_1:Int):Rat))(aX:Sz k ((cG:Int):Rat)):Sz (6*k+5) ((-((((cG:Int):Rat))*((((((l_1:Int):Rat)))*((((l_1:Int):Rat))))+(((-(((bC:Int):Rat))))*((-(((bC:Int):Rat))))))⁻¹))*(((l_1:Int):Rat))):=by
 have a:=Sz.mono (m:=1*k+0) ((eL (Sz.mono aY (by omega):Sz (1*k+0) _) (Sz.mono bf (by omega):Sz (1*k+0) _) (Sz.mono aX (by omega):Sz (1*k+0) _))) (by omega);have b:=Sz.mono (m:=1*k+0) ((eM (Sz.mono aY (by omega):Sz (1*k+0) _) (Sz.mono bf (by omega):Sz (1*k+0) _) (Sz.mono aX (by omega):Sz (1*k+0) _))) (by omega);have c:=Sz.mono (m:=1*k+0) (aX) (by omega);have d:=Sz.mono (m:=4*k+3) ((eN (Sz.mono a (by omega):Sz (1*k+0) _) (Sz.mono b (by omega):Sz (1*k+0) _) (Sz.mono a (by omega):Sz (1*k+0) _) (Sz.mono b (by omega):Sz (1*k+0) _))) (by omega);have e:=Sz.mono (m:=5*k+4) (Sz.mul c (dJ d)) (by omega);have f:=Sz.mono (m:=5*k+4) (Sz.neg e) (by omega);have g:=Sz.mono (m:=1*k+0) (bf) (by omega);have h:=Sz.mono (m:=6*k+5) (Sz.mul f g) (by omega);exact Sz.mono h (by omega)
theorem DY {V:View}{l:Value}{bC l_1 cG:Int}{t:Value}{EP:Rat}(hl:RL V l bC l_1 cG)(ht:RQ V t EP)(hd0:((((((l_1:Int):Rat)))*((((l_1:Int):Rat))))+(((-(((bC:Int):Rat))))*((-(((bC:Int):Rat)))))).num≠0){k:Nat}(aY:Sz k ((bC:Int):Rat))(bf:Sz k ((l_1:Int):Rat))(aX:Sz k ((cG:Int):Rat))(vC:Sz k EP)(hk:18*k+16<274877906944) :
  Acts prog 49 #[l,t] V fun r V'=>RP V' r (((-((((cG:Int):Rat))*((((((l_1:Int):Rat)))*((((l_1:Int):Rat))))+(((-(((bC:Int):Rat))))*((-(((bC:Int):Rat))))))⁻¹))*(((bC:Int):Rat)))+(EP)*(((l_1:Int):Rat))) (((-((((cG:Int):Rat))*((((((l_1:Int):Rat)))*((((l_1:Int):Rat))))+(((-(((bC:Int):Rat))))*((-(((bC:Int):Rat))))))⁻¹))*(((l_1:Int):Rat)))+(EP)*(-(((bC:Int):Rat)))):=by
 have a:=hl;obtain ⟨l0,b,e,c,f,d,n,g,s,rfl,A,B,C⟩:=hl;have h:=ht;obtain ⟨t0,t1,t2,t3,t4,t5,rfl⟩:=ht.shape;refine Dy _ l0 b e _ c f d _ n g s _ t0 t1 t2 t3 t4 t5 V _ fun D b=>(oB (a.le (b)) hd0 (Sz.mono aY (by omega):Sz (1*k+0) _) (Sz.mono bf (by omega):Sz (1*k+0) _) (Sz.mono aX (by omega):Sz (1*k+0) _) (by omega)).mono ?_;rintro r V2 e o;have i:=o;obtain ⟨E,F,G,H,I,J,K,L,M,N,O,P,rfl,Q,R⟩:=o;have u:=Sz.mono (m:=6*k+5) ((wu (Sz.mono aY (by omega):Sz (1*k+0) _) (Sz.mono bf (by omega):Sz (1*k+0) _) (Sz.mono aX (by omega):Sz (1*k+0) _))) (by omega);have v:=Sz.mono (m:=6*k+5) ((wA (Sz.mono aY (by omega):Sz (1*k+0) _) (Sz.mono bf (by omega):Sz (1*k+0) _) (Sz.mono aX (by omega):Sz (1*k+0) _))) (by omega);refine ⟨_,_,_,_,_,_,_,_,_,_,_,_,_,_,rfl,fun S c=>(cP (a.le (b.trans (e.trans (c)))) (Sz.mono aY (by omega):Sz (1*k+0) _) (Sz.mono bf (by omega):Sz (1*k+0) _) (Sz.mono aX (by omega):Sz (1*k+0) _) (by omega)).mono ?_⟩;rintro r T f p;have j:=p;obtain ⟨U,W,X,Y,Z,UT,ZG,ZH,ZI,ZJ,Xe,Xf,rfl,Ss,Su⟩:=p;have w:=Sz.mono (m:=1*k+0) ((eL (Sz.mono aY (by omega):Sz (1*k+0) _) (Sz.mono bf (by omega):Sz (1*k+0) _) (Sz.mono aX (by omega):Sz (1*k+0) _))) (by omega);have x:=Sz.mono (m:=1*k+0) ((eM (Sz.mono aY (by omega):Sz (1*k+0) _) (Sz.mono bf (by omega):Sz (1*k+0) _) (Sz.mono aX (by omega):Sz (1*k+0) _))) (by omega);refine ⟨_,_,_,_,_,_,_,_,_,_,_,_,_,_,rfl,fun V5 d=>(gE (i.le (c.trans (f.trans (d)))) (h.le (b.trans (e.trans (c.trans (f.trans (d)))))) (j.le (d)) (Sz.mono u (by omega):Sz (6*k+5) _) (Sz.mono v (by omega):Sz (6*k+5) _) (Sz.mono vC (by omega):Sz (6*k+5) _) (Sz.mono w (by omega):Sz (6*k+5) _) (Sz.mono x (by omega):Sz (6*k+5) _) (by omega)).mono ?_⟩;rintro r V6 n q;have oL:=q;obtain ⟨UU,UW,UX,UY,UZ,U0,ZK,ZL,ZM,ZN,Xg,Xi,rfl,y,z⟩:=q;exact ⟨_,_,_,_,_,_,_,_,_,_,_,_,_,_,rfl,fun V7 g=>⟨_,_,_,_,_,_,_,_,_,_,_,_,rfl,(y.le (g)),(z.le (g))⟩⟩
theorem RA.shape {V:View}{v:Value}{q:Rat}(h:RA V v q):∃b p n c p' n' c',v=.agg #[.bool b,.slice p n c,.slice p' n' c']:=by
 obtain ⟨p,n,c,p',n',c',e,-⟩:=h;exact ⟨_,_,_,_,_,_,_,e⟩
def LO (V:View)(v:Value)(x y:Rat):Prop:=∃b p n c p' n' c' d q m e q' m' e',v=.agg #[.bool b,.slice p n c,.slice p' n' c',.bool d,.slice q m e,.slice q' m' e'] /\
 RA V (.agg #[.bool b,.slice p n c,.slice p' n' c']) x/\RA V (.agg #[.bool d,.slice q m e,.slice q' m' e']) y
theorem LO.le {V V':View}{v:Value}{x y:Rat}(h:LO V v x y)(l:V.Le V'):LO V' v x y:=by
 obtain ⟨b,p,n,c,g,i,j,d,q,m,e,k,o,r,rfl,a,f⟩:=h;exact ⟨_,_,_,_,_,_,_,_,_,_,_,_,_,_,rfl,a.le l,f.le l⟩
theorem DS {V:View}{v:Value}{x y:Rat}(h:LO V v x y){k:Nat}(s1:Sz k x)(s2:Sz k y)(hk:k<=1099511627776) :
  Acts prog 51 #[v] V fun r V'=>RPt V' r x y:=by
 obtain ⟨b,p,n,c,s,t,z,d,q,m,e,A,B,C,rfl,D,E⟩:=h;refine rY b p n c s t z d q m e A B C V _ fun H g=>(yl (D.le g) s1 hk).mono ?_;rintro r V2 F i;have a:=i;obtain ⟨u,v,w,rfl⟩:=i.shape;refine ⟨_,_,_,rfl,fun I j=>(yl (E.le (g.trans (F.trans j))) s2 hk).mono ?_⟩;rintro r J G l;have f:=l;obtain ⟨u,v,w,rfl⟩:=l.shape;exact ⟨_,_,_,rfl,fun K o=>⟨_,_,_,_,_,_,rfl,a.le (j.trans (G.trans o)),f.le o⟩⟩
theorem wI {V:View}{l p:Value}{bC l_1 cG fy fA:Rat}(hl:r_ V l bC l_1 cG)(hp:RPt V p fy fA){k:Nat}(s0:Sz k bC)(s1:Sz k l_1)(s2:Sz k cG)(s3:Sz k fy)(s4:Sz k fA)(hk:16*k+16<274877906944) :
  Acts prog 106 #[l,p] V fun r V'=>r=.int .i64 (bC*fy+l_1*fA+cG).num.sign:=by
 have a:=hl;have b:=hp;obtain ⟨a0,d,e,f,h,i,j,m,n,rfl,-,-,-⟩:=hl;obtain ⟨o,q,s,t,x,y,rfl,-,-⟩:=hp;refine vN a0 d e f h i j m n o q s t x y V _ fun B c=>(lj (a.le c) (b.le c) s0 s1 s2 s3 s4 (by omega)).mono ?_;rintro r V2 C g;have z:=g;obtain ⟨u,v,w,rfl⟩:=g.shape;refine ⟨_,_,_,rfl,fun D A=>(fD (z.le A) (j8 s0 s1 s2 s3 s4) (by omega)).mono ?_⟩;rintro r E F rfl;exact ⟨_,rfl,fun G H=>rfl⟩
theorem rA {V:View}{v:Value}{q:Rat}(h:RQ V v q){k:Nat}(s:Sz k q)(hk:k<=1099511627776):Acts prog 55 #[v] V fun r V'=>RA V' r q:=by
 obtain ⟨p,n,c,f,g,i,rfl,j,l⟩:=h;have y:=ae s.1;have z:=ae s.2;refine A7 _ p n c f g i V _ fun A a=>(iS ⟨_,_,_,rfl,j.le a⟩ (by omega)).mono ?_;rintro r V2 m ⟨B,C,D,rfl,o⟩;refine ⟨_,_,_,_,rfl,fun E b=>(ch q _ (l.le (a.trans (m.trans b)))).mono ?_⟩;rintro r F t ⟨G,H,I,rfl,u⟩;refine ⟨_,_,_,rfl,fun J d=>(rq (u.le d) (by omega)).mono ?_⟩;rintro r K w ⟨L,M,N,rfl,x⟩;exact ⟨_,_,_,rfl,fun O e=>⟨_,_,_,_,_,_,rfl,o.le (b.trans (t.trans (d.trans (w.trans e)))),x.le e⟩⟩
theorem rC {V:View}{v:Value}{x y:Rat}(h:RP V v x y){k:Nat}(s1:Sz k x)(s2:Sz k y)(hk:k<=1099511627776):Acts prog 22 #[v] V fun r V'=>LO V' r x y:=by
 obtain ⟨i,j,l,m,n,o,p,q,s,t,u,w,rfl,z,A⟩:=h;refine Bf _ i j l m n o _ p q s t u w V _ fun D c=>(rA (z.le c) s1 hk).mono ?_;rintro r V2 B d;have a:=d;obtain ⟨_,_,_,_,_,_,_,rfl⟩:=d.shape;refine ⟨_,_,_,_,_,_,_,rfl,fun E e=>(rA (A.le (c.trans (B.trans e))) s2 hk).mono ?_⟩;rintro r F C f;have b:=f;obtain ⟨_,_,_,_,_,_,_,rfl⟩:=f.shape;exact ⟨_,_,_,_,_,_,_,rfl,fun G g=>⟨_,_,_,_,_,_,_,_,_,_,_,_,_,_,rfl,a.le (e.trans (C.trans g)),b.le g⟩⟩
theorem tU {V:View}(n:Int)(d:Nat)(h0:-1000<=n)(h1:n<=1000)(hd0:d≠0)(hd:d<=1000) :
  Acts prog 104 #[.int .i64 n,.int .i64 (d:Int)] V fun r V'=>RQ V' r (mkRat n d):=by
 refine Dq n d V _ fun l o=>(yw n (by omega) (by omega)).mono ?_;rintro r V2 q ⟨p,m,c,rfl,g⟩;rw [aG (by omega)];refine ⟨_,_,_,_,rfl,fun s b=>(cU d (by omega)).mono ?_⟩;rintro r t e ⟨u,v,w,rfl,f⟩;refine ⟨_,_,_,rfl,fun x a=>(ko n (g.le (b.trans (e.trans a))) (f.le a) (Nat.le_trans (ae (k:=10) (by omega)) (by omega)) (Nat.le_trans (ae (k:=10) (by omega)) (by omega)) hd0).mono ?_⟩;rintro r y z h;have i:=h;obtain ⟨_,_,_,_,_,_,rfl⟩:=h.shape;exact ⟨_,_,_,_,_,_,_,rfl,fun A j=>i.le j⟩
theorem Ly:∀x:Fin 9,Sz 10 (mkRat (2*((x.1:Int)-4)+1) 2)/\Sz 10 (mkRat (3*((x.1:Int)-4)+1) 3):=by unfold Sz;decide +kernel
theorem Sn {V:View}{tb:Nat}{p:OA}{n c:Nat}{at_:Int}(hr:Gd V p n)(hn:n<=400)(hw:kY V tb p n c at_)(hx:V.X tb)(h0:0<=at_) :
  Acts prog 50 #[.pointer (some ⟨tb,0,none⟩)] V fun r V'=>∃(q:Rat)(at':Int),RQ V' r q/\Sz 10 q/\0<=at'/\kY V' tb p n c at':=by
 refine sU tb p n c at_ V _ hw hx fun w l g z A=>(ji (V:=w.lend [g]) 9 (hr.le fun b o h=>l b o h) hn z ⟨by simp,A⟩ h0 (by omega) (by omega)).mono ?_;rintro r V2 B ⟨x,M,rfl,N,O,t1,j⟩;refine ⟨_,rfl,_,_,_,_,j,fun C D E F G=>(ji (V:=C.lend [E]) 6 (hr.le fun b o h=>D b o (B b o (l b o h))) hn F ⟨by simp,G⟩ t1 (by omega) (by omega)).mono ?_⟩;rintro r P Q ⟨y,a,rfl,R,S,t2,k⟩;obtain ⟨i,rfl⟩:∃i:Nat,x=i:=⟨x.toNat,by omega⟩;obtain ⟨m,s⟩:=Ly ⟨i,by omega⟩;dsimp only at m s;have H:i64.wrap ((i:Int)-4)=(i:Int)-4:=i64w (by omega);have I:i64.wrap (i64.wrap (2*((i:Int)-4))+1)=2*((i:Int)-4)+1:=by rw [i64w (x:=2*((i:Int)-4)) (by omega),i64w (by omega)]
 have J:i64.wrap (i64.wrap (3*((i:Int)-4))+1)=3*((i:Int)-4)+1:=by rw [i64w (x:=3*((i:Int)-4)) (by omega),i64w (by omega)]
 rw [H,I,J];refine ⟨_,rfl,_,_,_,_,k,fun _ T U=>(tU (2*((i:Int)-4)+1) 2 (by omega) (by omega) (by omega) (by omega)).mono ?_,fun _=>⟨fun _ W Y=>(tU (3*((i:Int)-4)+1) 3 (by omega) (by omega) (by omega) (by omega)).mono ?_,fun _ K L=>(eE ((i:Int)-4) (by omega) (by omega)).mono ?_⟩⟩
 ·rintro r t u h;have d:=h;obtain ⟨_,_,_,_,_,_,rfl⟩:=h.shape;exact ⟨_,_,_,_,_,_,_,rfl,fun v e f=>⟨_,a,d.le e,m,t2,f⟩⟩
 ·rintro r t u h;have d:=h;obtain ⟨_,_,_,_,_,_,rfl⟩:=h.shape;exact ⟨_,_,_,_,_,_,_,rfl,fun v e f=>⟨_,a,d.le e,s,t2,f⟩⟩
 ·rintro r t u h;have d:=h;obtain ⟨_,_,_,_,_,_,rfl⟩:=h.shape;exact ⟨_,_,_,_,_,_,_,rfl,fun v e f=>⟨_,a,d.le e,DD (by omega),t2,f⟩⟩
theorem Kt {V:View}{tb:Nat}{p:OA}{n c:Nat}{at_:Int}(hr:Gd V p n)(hn:n<=400)(hw:kY V tb p n c at_)(hx:V.X tb)(h0:0<=at_) :
  Acts prog 47 #[.pointer (some ⟨tb,0,none⟩)] V fun r V'=>∃(x y:Rat)(at':Int),RP V' r x y/\Sz 10 x/\Sz 10 y/\0<=at'/\kY V' tb p n c at':=by
 refine mP tb p n c at_ V _ hw hx fun v t e w z=>(Sn (V:=v.lend [e]) (hr.le fun b o h=>t b o h) hn w ⟨by simp,z⟩ h0).mono ?_;rintro r V2 A ⟨x,L,B,C,t1,f⟩;obtain ⟨M,N,O,P,Q,R,rfl,g,i⟩:=B;refine ⟨_,_,_,_,_,_,_,rfl,_,_,_,_,f,fun D u E F G=>(Sn (V:=D.lend [E]) (hr.le fun b o h=>u b o (A b o (t b o h))) hn F ⟨by simp,G⟩ t1).mono ?_⟩;rintro r H I ⟨y,j,k,J,t2,l⟩;obtain ⟨S,T,U,W,Y,Z,rfl,m,q⟩:=k;have d:∀{s:View},H.shut.Le s->V2.Le s:=fun a b o h=>a b o (I b o (u b o h));exact ⟨_,_,_,_,_,_,_,rfl,_,_,_,_,l,fun s a K=>⟨x,y,j,⟨_,_,_,_,_,_,_,_,_,_,_,_,rfl,⟨_,_,_,_,_,_,rfl,g.le (d a),i.le (d a)⟩,⟨_,_,_,_,_,_,rfl,m.le fun b o h=>a b o h,q.le fun b o h=>a b o h⟩⟩,C,J,t2,K⟩⟩
theorem zO {V:View}{l p:Value}{bC l_1 cG:Int}{fy fA:Rat}(hl:RL V l bC l_1 cG)(hp:RP V p fy fA){k:Nat}(s0:Sz k ((bC:Int):Rat))(s1:Sz k ((l_1:Int):Rat))(s2:Sz k ((cG:Int):Rat))(s3:Sz k fy)(s4:Sz k fA)(hk:16*k+16<274877906944) :
  Acts prog 58 #[l,p] V fun r V'=>r=.int .i64 ((bC:Rat)*fy+(l_1:Rat)*fA+(cG:Rat)).num.sign:=by
 have a:=hl;have b:=hp;obtain ⟨a0,d,e,f,g,h,i,j,m,rfl,-,-,-⟩:=hl;obtain ⟨n,o,q,s,t,u,v,w,x,y,z,A,rfl,-,-⟩:=hp;refine xL _ a0 d e _ f g h _ i j m _ n o q s t u _ v w x y z A V _ fun D c=>(gi (a.le c) (b.le c) s0 s1 s2 s3 s4 (by omega)).mono ?_;rintro r V2 E ⟨F,G,H,I,J,K,rfl,B,L⟩;refine ⟨_,_,_,_,_,_,_,rfl,fun M C=>(te _ (B.le C)).mono ?_⟩;rintro r N O rfl;exact ⟨_,rfl,fun P Q=>rfl⟩
theorem c_ref04_Rev {V:View}{l:Value}{a b c:Int}(hl:RL V l a b c):Acts prog 44 #[l] V fun r V'=>RL V' r (-a) (-b) (-c):=by
 obtain ⟨a0,k,m,n,o,p,q,s,t,rfl,u,v,w⟩:=hl;refine Bb _ a0 k m _ n o p _ q s t V _ fun A d=>(gC a (u.le d)).mono ?_;rintro r V2 h ⟨B,C,D,rfl,x⟩;refine ⟨_,_,_,_,rfl,fun E e=>(gC b (v.le (d.trans (h.trans e)))).mono ?_⟩;rintro r F i ⟨G,H,I,rfl,y⟩;refine ⟨_,_,_,_,rfl,fun J f=>(gC c (w.le (d.trans (h.trans (e.trans (i.trans f)))))).mono ?_⟩;rintro r K j ⟨L,M,N,rfl,z⟩;exact ⟨_,_,_,_,rfl,fun O g=>⟨_,_,_,_,_,_,_,_,_,rfl,x.le (e.trans (i.trans (f.trans (j.trans g)))),y.le (f.trans (j.trans g)),z.le g⟩⟩
end Go.Proofs.Tryz
namespace Go.Eng
open Go.Big
theorem RR.zero (V:View):RR V (.agg #[.int .i64 0,.int .i64 0,.pointer none]) 0:=.inl ⟨rfl,by unfold Wd;decide⟩
end Go.Eng
namespace Go.Proofs.Tryz
open Go.Eng Go.Big
structure Sp where
 lo:Rat
 hi:Rat
 a:Bool
 b:Bool
def Sp.can (s:Sp):Prop:=(s.a=true->s.lo=0)/\(s.b=true->s.hi=0)
def Sp.sz (k:Nat)(s:Sp):Prop:=Sz k s.lo/\Sz k s.hi
def Sp.zero:Sp:=⟨0,0,false,false⟩
def kX (k:Nat)(l:L3):Prop:=Sz k (l.1:Rat)/\Sz k (l.2.1:Rat)/\Sz k (l.2.2:Rat)
def Fh (V:View)(v:Value)(s:Sp):Prop:=∃(x1 x2:Int)(p:OA)(y1 y2:Int)(q:OA),v=.agg #[.int .i64 x1,.int .i64 x2,.pointer p,.int .i64 y1,.int .i64 y2,.pointer q,.bool s.a,.bool s.b] /\
 RR V (.agg #[.int .i64 x1,.int .i64 x2,.pointer p]) s.lo/\RR V (.agg #[.int .i64 y1,.int .i64 y2,.pointer q]) s.hi
theorem Fh.le {V V':View}{v:Value}{s:Sp}(h:Fh V v s)(l:V.Le V'):Fh V' v s:=by
 obtain ⟨a,b,p,c,d,q,e,f,g⟩:=h;exact ⟨a,b,p,c,d,q,e,f.le l,g.le l⟩
def RLi (V:View)(v:Value)(l:L3):Prop:=r_ V v (l.1:Rat) (l.2.1:Rat) (l.2.2:Rat)
theorem RLi.le {V V':View}{v:Value}{l:L3}(h:RLi V v l)(e:V.Le V'):RLi V' v l:=r_.le h e
def MN (V:View)(v:Value)(l:L3)(s:Sp):Prop:=∃(x1 x2:Int)(p:OA)(y1 y2:Int)(q:OA)(z1 z2:Int)(r:OA)(u1 u2:Int)(t:OA)(w1 w2:Int)(o:OA),
 v=.agg #[.int .i64 x1,.int .i64 x2,.pointer p,.int .i64 y1,.int .i64 y2,.pointer q,.int .i64 z1,.int .i64 z2,.pointer r,.int .i64 u1,.int .i64 u2,.pointer t,.int .i64 w1,.int .i64 w2,.pointer o,.bool s.a,.bool s.b] /\
 RLi V (.agg #[.int .i64 x1,.int .i64 x2,.pointer p,.int .i64 y1,.int .i64 y2,.pointer q,.int .i64 z1,.int .i64 z2,.pointer r]) l /\
 Fh V (.agg #[.int .i64 u1,.int .i64 u2,.pointer t,.int .i64 w1,.int .i64 w2,.pointer o,.bool s.a,.bool s.b]) s
theorem MN.le {V V':View}{v:Value}{l:L3}{s:Sp}(h:MN V v l s)(e:V.Le V'):MN V' v l s:=by
 obtain ⟨a,b,p,c,d,q,f,g,r,i,j,t,k,m,o,rfl,n,u⟩:=h;exact ⟨a,b,p,c,d,q,f,g,r,i,j,t,k,m,o,rfl,n.le e,u.le e⟩
def Kj (V:View)(v:Value)(b:Bool)(xs ys:List Nat):Prop:=∃p n c p' n' c',v=.agg #[.bool b,.slice p n c,.slice p' n' c']/\RD V p n c xs/\RD V p' n' c' ys
theorem Kj.le {V V':View}{v:Value}{b:Bool}{xs ys:List Nat}(h:Kj V v b xs ys)(l:V.Le V'):Kj V' v b xs ys:=by
 obtain ⟨p,n,c,a,d,f,e,g,i⟩:=h;exact ⟨p,n,c,a,d,f,e,g.le l,i.le l⟩
theorem Kj.nil {V:View}:Kj V (.agg #[.bool false,.slice none 0 0,.slice none 0 0]) false [] []:=⟨_,_,_,_,_,_,rfl,RD.nil,RD.nil⟩
def RE (V:View)(v:Value)(q:Rat)(no:Bool):Prop:=(no=true->Kj V v false [] [])/\(no=false->RA V v q)
theorem RE.le {V V':View}{v:Value}{q:Rat}{no:Bool}(h:RE V v q no)(l:V.Le V'):RE V' v q no:=⟨fun e=>(h.1 e).le l,fun e=>(h.2 e).le l⟩
theorem RE.shape {V:View}{v:Value}{q:Rat}{no:Bool}(h:RE V v q no):∃b p n c p' n' c',v=.agg #[.bool b,.slice p n c,.slice p' n' c']:=by
 cases no with
 | true=>obtain ⟨_,_,_,_,_,_,e,-⟩:=h.1 rfl;exact ⟨_,_,_,_,_,_,_,e⟩
 | false=>exact (h.2 rfl).shape
def Rf (V:View)(v:Value)(s:Sp):Prop:=∃b p n c p' n' c' d q m e q' m' e',v=.agg #[.bool b,.slice p n c,.slice p' n' c',.bool d,.slice q m e,.slice q' m' e',.bool s.a,.bool s.b] /\
 RE V (.agg #[.bool b,.slice p n c,.slice p' n' c']) s.lo s.a/\RE V (.agg #[.bool d,.slice q m e,.slice q' m' e']) s.hi s.b
theorem Rf.le {V V':View}{v:Value}{s:Sp}(h:Rf V v s)(l:V.Le V'):Rf V' v s:=by
 obtain ⟨b,p,n,c,g,i,j,d,q,m,e,k,o,r,rfl,a,f⟩:=h;exact ⟨_,_,_,_,_,_,_,_,_,_,_,_,_,_,rfl,a.le l,f.le l⟩
def Of (V:View)(v:Value)(l:L3)(s:Sp):Prop:=∃b1 p1 n1 c1 b2 p2 n2 c2 b3 p3 n3 c3 b p n c p' n' c' d q m e q' m' e',
 v=.agg #[.bool b1,.slice p1 n1 c1,.bool b2,.slice p2 n2 c2,.bool b3,.slice p3 n3 c3,.bool b,.slice p n c,.slice p' n' c',.bool d,.slice q m e,.slice q' m' e',.bool s.a,.bool s.b] /\
 RL V (.agg #[.bool b1,.slice p1 n1 c1,.bool b2,.slice p2 n2 c2,.bool b3,.slice p3 n3 c3]) l.1 l.2.1 l.2.2/\Rf V (.agg #[.bool b,.slice p n c,.slice p' n' c',.bool d,.slice q m e,.slice q' m' e',.bool s.a,.bool s.b]) s
theorem Of.le {V V':View}{v:Value}{l:L3}{s:Sp}(h:Of V v l s)(e:V.Le V'):Of V' v l s:=by
 obtain ⟨b1,i,j,k,b2,o,r,t,b3,u,w,x,b,p,n,c,y,z,A,d,q,m,f,B,C,D,rfl,a,g⟩:=h;exact ⟨_,_,_,_,_,_,_,_,_,_,_,_,_,_,_,_,_,_,_,_,_,_,_,_,_,_,rfl,a.le e,g.le e⟩
def DG (V:View)(v:Value)(s:Sp):Prop:=∃b p n c p' n' c' d q m e q' m' e',v=.agg #[.bool b,.slice p n c,.slice p' n' c',.bool d,.slice q m e,.slice q' m' e',.bool s.a,.bool s.b] /\
 RQ V (.agg #[.bool b,.slice p n c,.slice p' n' c']) s.lo/\RQ V (.agg #[.bool d,.slice q m e,.slice q' m' e']) s.hi
theorem DG.le {V V':View}{v:Value}{s:Sp}(h:DG V v s)(l:V.Le V'):DG V' v s:=by
 obtain ⟨b,p,n,c,g,i,j,d,q,m,e,k,o,r,rfl,a,f⟩:=h;exact ⟨_,_,_,_,_,_,_,_,_,_,_,_,_,_,rfl,a.le l,f.le l⟩
def RF (V:View)(v:Value)(l:L3)(s:Sp):Prop:=∃b1 p1 n1 c1 b2 p2 n2 c2 b3 p3 n3 c3 b p n c p' n' c' d q m e q' m' e',
 v=.agg #[.bool b1,.slice p1 n1 c1,.bool b2,.slice p2 n2 c2,.bool b3,.slice p3 n3 c3,.bool b,.slice p n c,.slice p' n' c',.bool d,.slice q m e,.slice q' m' e',.bool s.a,.bool s.b] /\
 RL V (.agg #[.bool b1,.slice p1 n1 c1,.bool b2,.slice p2 n2 c2,.bool b3,.slice p3 n3 c3]) l.1 l.2.1 l.2.2/\DG V (.agg #[.bool b,.slice p n c,.slice p' n' c',.bool d,.slice q m e,.slice q' m' e',.bool s.a,.bool s.b]) s
theorem RF.le {V V':View}{v:Value}{l:L3}{s:Sp}(h:RF V v l s)(e:V.Le V'):RF V' v l s:=by
 obtain ⟨b1,i,j,k,b2,o,r,t,b3,u,w,x,b,p,n,c,y,z,A,d,q,m,f,B,C,D,rfl,a,g⟩:=h;exact ⟨_,_,_,_,_,_,_,_,_,_,_,_,_,_,_,_,_,_,_,_,_,_,_,_,_,_,rfl,a.le e,g.le e⟩
def ai (l:L3)(x y:Rat):Rat:=(l.1:Rat)*x+(l.2.1:Rat)*y+(l.2.2:Rat)
def fm (l:L3):Rat:=(l.1:Rat)*(l.1:Rat)+(l.2.1:Rat)*(l.2.1:Rat)
def Ao (l:L3)(x y:Rat):Rat:=((l.2.1:Rat)*x-(l.1:Rat)*y)*(fm l)⁻¹
def f_ (l:L3)(t:Rat):Rat:=(l.2.1:Rat)*t-(l.1:Rat)*(l.2.2:Rat)*(fm l)⁻¹
def gy (l:L3)(t:Rat):Rat:=-((l.1:Rat)*t)-(l.2.1:Rat)*(l.2.2:Rat)*(fm l)⁻¹
def revL (l:L3):L3:=(-l.1,-l.2.1,-l.2.2)
def Sp.neg (s:Sp):Sp:=⟨if s.b then 0 else -s.hi,if s.a then 0 else -s.lo,s.b,s.a⟩
def Sp.emp (s:Sp):Bool:=!s.a&&!s.b&&decide (eY s.lo s.hi≥0)
def Nz (l:L3):Prop:=¬(l.1=0/\l.2.1=0)
theorem sq_nonneg (x:Int):0<=x*x:=by
 rw [←Int.natAbs_mul_self];exact Int.natCast_nonneg _
theorem I2 (l:L3):fm l=((l.1*l.1+l.2.1*l.2.1:Int):Rat):=by unfold fm;simp
theorem Nz.norm {l:L3}(h:Nz l):fm l≠0:=by
 rw [I2];have d:=sq_nonneg l.1;have f:=sq_nonneg l.2.1
 have a:l.1*l.1+l.2.1*l.2.1≠0:=by
  intro e;have b:l.1*l.1=0:=by omega
  have c:l.2.1*l.2.1=0:=by omega
  exact h ⟨(Int.mul_eq_zero.1 b).elim id id,(Int.mul_eq_zero.1 c).elim id id⟩
 exact_mod_cast a
theorem I5 {q:Rat}(h:q≠0):q.num≠0:=fun e=>h (Rat.num_eq_zero.1 e)
theorem TC {V:View}{l t:Value}{L:L3}{x:Rat}(hl:RLi V l L)(ht:RR V t x){k:Nat}(sl:kX k L)(s1:Sz k x)(hk:20*k+19<274877906944) :
  Acts prog 210 #[l,t] V fun r V'=>RPt V' r (f_ L x) (gy L x):=by
 refine (BB hl ht sl.1 sl.2.1 sl.2.2 s1 hk).mono ?_;rintro r V2 c g;have a:f_ L x=((L.1:Rat)*((-(L.2.2:Rat))*((L.1:Rat)*(L.1:Rat)+(L.2.1:Rat)*(L.2.1:Rat))⁻¹))+((L.2.1:Rat)*x):=by unfold f_ fm;grind
 have b:gy L x=((L.2.1:Rat)*((-(L.2.2:Rat))*((L.1:Rat)*(L.1:Rat)+(L.2.1:Rat)*(L.2.1:Rat))⁻¹))+((-(L.1:Rat))*x):=by unfold gy fm;grind
 rw [a,b];exact g
theorem AG {L:L3}{x:Rat}{k:Nat}(sl:kX k L)(s1:Sz k x):Sz (20*k+19) (f_ L x):=by
 have a:f_ L x=((L.1:Rat)*((-(L.2.2:Rat))*((L.1:Rat)*(L.1:Rat)+(L.2.1:Rat)*(L.2.1:Rat))⁻¹))+((L.2.1:Rat)*x):=by unfold f_ fm;grind
 rw [a];exact xR sl.1 sl.2.1 sl.2.2 s1
theorem AH {L:L3}{x:Rat}{k:Nat}(sl:kX k L)(s1:Sz k x):Sz (20*k+19) (gy L x):=by
 have a:gy L x=((L.2.1:Rat)*((-(L.2.2:Rat))*((L.1:Rat)*(L.1:Rat)+(L.2.1:Rat)*(L.2.1:Rat))⁻¹))+((-(L.1:Rat))*x):=by unfold gy fm;grind
 rw [a];exact xS sl.1 sl.2.1 sl.2.2 s1
theorem pG (q:Rat):q.num.sign=0↔q=0:=by rw [Int.sign_eq_zero_iff_zero,Rat.num_eq_zero]
theorem En {V:View}{l p:Value}{L:L3}{x y:Rat}(hl:RLi V l L)(hp:RPt V p x y){k:Nat}(sl:kX k L)(s1:Sz k x)(s2:Sz k y)(hk:16*k+16<274877906944) :
  Acts prog 106 #[l,p] V fun r V'=>r=.int .i64 (ai L x y).num.sign:=wI hl hp sl.1 sl.2.1 sl.2.2 s1 s2 hk
theorem k_Reverse {V:View}{l:Value}{L:L3}(hl:RLi V l L){k:Nat}(sl:kX k L)(hk:1*k+1<274877906944) :
  Acts prog 198 #[l] V fun r V'=>RLi V' r (revL L):=by
 refine (qh hl sl.1 sl.2.1 sl.2.2 hk).mono ?_;rintro r V2 a g;unfold RLi revL;simpa using g
theorem kX.rev {k:Nat}{L:L3}(h:kX k L):kX k (revL L):=by
 unfold kX revL;simp only [Rat.intCast_neg];exact ⟨h.1.neg,h.2.1.neg,h.2.2.neg⟩
theorem EJ {L:L3}(h:Nz L):((((((L.2.1:Int):Rat)))*((((L.2.1:Int):Rat))))+(((-(((L.1:Int):Rat))))*((-(((L.1:Int):Rat)))))).num≠0:=by
 have:(((((L.2.1:Int):Rat)))*((((L.2.1:Int):Rat))))+(((-(((L.1:Int):Rat))))*((-(((L.1:Int):Rat)))))=fm L:=by unfold fm;grind
 rw [this];exact I5 h.norm
theorem Li {V:View}{l p:Value}{L:L3}{x y:Rat}(hl:RL V l L.1 L.2.1 L.2.2)(hp:RP V p x y)(hz:Nz L){k:Nat}(sl:kX k L)(s1:Sz k x)(s2:Sz k y)(hk:8*k+7<274877906944) :
  Acts prog 140 #[l,p] V fun r V'=>RQ V' r (Ao L x y):=by
 refine (wQ hl hp (EJ hz) sl.1 sl.2.1 sl.2.2 s1 s2 hk).mono ?_;rintro r V2 a g
 have e:Ao L x y=((((x)*((((L.2.1:Int):Rat))))+((y)*((-(((L.1:Int):Rat))))))*((((((L.2.1:Int):Rat)))*((((L.2.1:Int):Rat))))+(((-(((L.1:Int):Rat))))*((-(((L.1:Int):Rat))))))⁻¹):=by
  unfold Ao fm;grind
 rw [e];exact g
theorem QM {V:View}{l t:Value}{L:L3}{x:Rat}(hl:RL V l L.1 L.2.1 L.2.2)(ht:RQ V t x)(hz:Nz L){k:Nat}(sl:kX k L)(s1:Sz k x)(hk:18*k+16<274877906944) :
  Acts prog 49 #[l,t] V fun r V'=>RP V' r (f_ L x) (gy L x):=by
 refine (DY hl ht (EJ hz) sl.1 sl.2.1 sl.2.2 s1 hk).mono ?_;rintro r V2 c g;have a:f_ L x=(((-((((L.2.2:Int):Rat))*((((((L.2.1:Int):Rat)))*((((L.2.1:Int):Rat))))+(((-(((L.1:Int):Rat))))*((-(((L.1:Int):Rat))))))⁻¹))*(((L.1:Int):Rat)))+(x)*(((L.2.1:Int):Rat))):=by unfold f_ fm;grind
 have b:gy L x=(((-((((L.2.2:Int):Rat))*((((((L.2.1:Int):Rat)))*((((L.2.1:Int):Rat))))+(((-(((L.1:Int):Rat))))*((-(((L.1:Int):Rat))))))⁻¹))*(((L.2.1:Int):Rat)))+(x)*(-(((L.1:Int):Rat)))):=by unfold gy fm;grind
 rw [a,b];exact g
theorem EI {V:View}{l p:Value}{L:L3}{x y:Rat}(hl:RL V l L.1 L.2.1 L.2.2)(hp:RP V p x y){k:Nat}(sl:kX k L)(s1:Sz k x)(s2:Sz k y)(hk:16*k+16<274877906944) :
  Acts prog 58 #[l,p] V fun r V'=>r=.int .i64 (ai L x y).num.sign:=zO hl hp sl.1 sl.2.1 sl.2.2 s1 s2 hk
structure R0 (V:View) (vs:List Value) (i:Int) (f a b c:Rat):Prop where
 h0:0<=i
 h3:i<=3
 row:∃(x1 x2:Int)(p:OA)(y1 y2:Int)(q:OA)(z1 z2:Int)(r:OA),vs=[.int .i64 x1,.int .i64 x2,.pointer p,.int .i64 y1,.int .i64 y2,.pointer q,.int .i64 z1,.int .i64 z2,.pointer r] /\
  RR V (.agg #[.int .i64 x1,.int .i64 x2,.pointer p]) (if 0<i then a*f else a)/\RR V (.agg #[.int .i64 y1,.int .i64 y2,.pointer q]) (if 1<i then b*f else b)/\RR V (.agg #[.int .i64 z1,.int .i64 z2,.pointer r]) (if 2<i then c*f else c)
theorem R0.le {V V':View}{vs:List Value}{i:Int}{f a b c:Rat}(h:R0 V vs i f a b c)(l:V.Le V'):R0 V' vs i f a b c:=by
 obtain ⟨d,g,j,k,p,m,n,q,o,s,r,e,t,u,v⟩:=h;exact ⟨d,g,j,k,p,m,n,q,o,s,r,e,t.le l,u.le l,v.le l⟩
def NW (b:Bool)(xs ys:List Nat):Rat:=mkRat (aQ b xs) (val ys)
def NH (b:Bool)(xs ys:List Nat):Bool:=kW b xs&&decide (af (val ys)=ys)&&!decide (ys=[])&&decide (Nat.gcd (val xs) (val ys)=1)
def U9 (b:Bool)(xs ys:List Nat):Bool:=!b&&decide (xs=[])&&decide (ys=[])
def M4 (b:Bool)(xs ys:List Nat)(no:Bool):Rat:=if no then 0 else NW b xs ys
def Ib (b:Bool)(xs ys:List Nat)(no:Bool):Bool:=if no then U9 b xs ys else NH b xs ys
theorem FM {q:Rat}:NH (decide (q.num<0)) (af q.num.natAbs) (af q.den)=true/\NW (decide (q.num<0)) (af q.num.natAbs) (af q.den)=q:=by
 constructor
 ·unfold NH
  have a:kW (decide (q.num<0)) (af q.num.natAbs)=true:=by
   unfold kW;rw [ab];by_cases h:q.num<0
   ·have:af q.num.natAbs≠[]:=fun e=>by have:=bw.1 e;omega
    simp [h,this]
   ·simp [h]
  have b:af q.den≠[]:=fun e=>q.den_nz (bw.1 e);rw [a,ab,ab];simp [b,q.reduced]
 ·unfold NW;rw [aA,ab,Rat.mkRat_self]
theorem DO {V:View}{v:Value}{s:Sp}(h:Fh V v s){k:Nat}(hs:s.sz k)(hk:2*k<1099511627776) :
  Acts prog 202 #[v] V fun r V'=>r=.bool s.emp:=by
 obtain ⟨f,g,p,i,j,q,rfl,l,m⟩:=h;refine sI f g p i j q s.a s.b V _ ⟨fun c=>⟨fun d n e=>(kf (l.le e) (m.le e) hs.1 hs.2 (by omega)).mono ?_,fun d o t=>?_⟩,fun c u w=>?_⟩
 ·rintro r V2 x rfl;exact ⟨_,rfl,fun y z=>by rw [Bool.not_eq_true'] at c d;simp [Sp.emp,c,d]⟩
 ·rw [Bool.not_eq_false'] at d;simp [Sp.emp,d]
 ·rw [Bool.not_eq_false'] at c;simp [Sp.emp,c]
def Rg (V:View)(v:Value)(b1:Bool)(LJ LL:List Nat)(b2:Bool)(LK LM:List Nat)(na nb:Bool):Prop:=∃p n c p' n' c' q m e q' m' e',v=.agg #[.bool b1,.slice p n c,.slice p' n' c',.bool b2,.slice q m e,.slice q' m' e',.bool na,.bool nb] /\
 Kj V (.agg #[.bool b1,.slice p n c,.slice p' n' c']) b1 LJ LL/\Kj V (.agg #[.bool b2,.slice q m e,.slice q' m' e']) b2 LK LM
theorem Rg.le {V V':View}{v:Value}{b1:Bool}{LJ LL:List Nat}{b2:Bool}{LK LM:List Nat}{na nb:Bool}(h:Rg V v b1 LJ LL b2 LK LM na nb)(l:V.Le V'):Rg V' v b1 LJ LL b2 LK LM na nb:=by
 obtain ⟨p,n,c,d,f,g,q,m,e,i,j,k,rfl,a,b⟩:=h;exact ⟨_,_,_,_,_,_,_,_,_,_,_,_,rfl,a.le l,b.le l⟩
def QU (b1:Bool)(LJ LL:List Nat)(b2:Bool)(LK LM:List Nat)(na nb:Bool):Sp:=⟨M4 b1 LJ LL na,M4 b2 LK LM nb,na,nb⟩
def okW (b1:Bool)(LJ LL:List Nat)(b2:Bool)(LK LM:List Nat)(na nb:Bool):Bool:=Ib b1 LJ LL na&&Ib b2 LK LM nb&&!(QU b1 LJ LL b2 LK LM na nb).emp
def Xr (l:L3)(s:Sp):Prop:=okL l=true/\s.can/\s.emp=false
theorem RE.raw {V:View}{v:Value}{q:Rat}{no:Bool}(h:RE V v q no)(hc:no=true->q=0):∃b xs ys,Kj V v b xs ys/\Ib b xs ys no=true/\M4 b xs ys no=q/\(∀k,Sz k q->xs.length<=k/\ys.length<=k):=by
 cases no with
 | true=>
  exact ⟨false,[],[],h.1 rfl,rfl,by rw [hc rfl];rfl,fun k _=>⟨Nat.zero_le _,Nat.zero_le _⟩⟩
 | false=>
  obtain ⟨p,n,c,f,g,i,rfl,d,e⟩:=h.2 rfl;exact ⟨_,_,_,⟨_,_,_,_,_,_,rfl,d,e⟩,FM.1,FM.2,fun k a=>⟨ae a.1,ae a.2⟩⟩
theorem RLi.api {V:View}{r:Value}{l:L3}(h:RL V r ((l.1:Rat)).num ((l.2.1:Rat)).num ((l.2.2:Rat)).num):RL V r l.1 l.2.1 l.2.2:=by
 simpa [Rat.num_intCast] using h
theorem uX {l:L3}(h:okL l=true):Nz l:=by
 unfold okL at h;intro e;simp [e.1,e.2] at h
def Cp (x y:Rat):Rat:=if 0<eY y x then y else x
def Cs (x y:Rat):Rat:=if eY y x<0 then y else x
theorem mq (x y:Rat):(x<y/\eY x y=-1)\/(x=y/\eY x y=0)\/(y<x/\eY x y=1):=by
 by_cases a:x<y
 ·exact .inl ⟨a,zS.1 a⟩
 ·by_cases b:x=y
  ·exact .inr (.inl ⟨b,iV.1 b⟩)
  ·have c:y<x:=by grind
   exact .inr (.inr ⟨c,tg.1 c⟩)
theorem Sp.kx {s:Sp}:s.emp=false↔(s.a=true\/s.b=true\/s.lo<s.hi):=by
 unfold Sp.emp;rcases mq s.lo s.hi with ⟨h,e⟩|⟨h,e⟩|⟨h,e⟩<;>rw [e]<;>cases s.a<;>cases s.b<;>simp<;>grind
def Sp.meet (v w:Sp):Sp:=⟨if v.a then w.lo else if w.a then v.lo else Cp v.lo w.lo,if v.b then w.hi else if w.b then v.hi else Cs v.hi w.hi,if v.a then w.a else false,if v.b then w.b else false⟩
theorem Sp.Cq {v w:Sp}(h1:v.can)(h2:w.can):(v.meet w).can:=by
 unfold Sp.meet;constructor<;>dsimp only
 ·cases hv:v.a with
  | false=>intro h;cases h
  | true=>exact fun h=>h2.1 h
 ·cases hv:v.b with
  | false=>intro h;cases h
  | true=>exact fun h=>h2.2 h
def Sp.bX (s:Sp):Rat:=if s.a then (if s.b then 0 else s.hi-((1:Int):Rat)) else if s.b then s.lo+((1:Int):Rat) else (s.lo+s.hi)*((2:Int):Rat)⁻¹
theorem Sp.FX {s:Sp}(h:s.emp=false):(s.a=false->s.lo<s.bX)/\(s.b=false->s.bX<s.hi):=by
 rw [Sp.kx] at h;unfold Sp.bX;cases ha:s.a<;>cases hb:s.b<;>simp [ha,hb] at h⊢<;> grind
def dC (m l:L3):Rat:=((m.1:Rat)*(l.2.1:Rat))+((m.2.1:Rat)*(-(l.1:Rat)))
def jB (m l:L3):Rat:=ai m (f_ l 0) (gy l 0)
theorem vH (m l:L3)(t:Rat):ai m (f_ l t) (gy l t)=jB m l+dC m l*t:=by
 unfold jB ai dC f_ gy;grind
def dB (m l:L3):Rat:=-(jB m l*(dC m l)⁻¹)
def cN (l:L3)(s:Sp)(m:L3):Sp:=
 if (dC m l).num.sign==0 then s else if (dC m l).num.sign==1 then s.meet ⟨dB m l,0,false,true⟩ else s.meet ⟨0,dB m l,true,false⟩
def dq (l:L3)(s:Sp)(m:L3):Bool:=
 if (dC m l).num.sign==0 then decide ((jB m l).num.sign>0) else !(cN l s m).emp
theorem kN (q:Rat):(q=0/\q.num.sign=0)\/(0<q/\q.num.sign=1)\/(q<0/\q.num.sign=-1):=by
 have a:=@Cw q;have b:=@Cx q;have c:=@Rat.num_eq_zero q;rcases Int.lt_trichotomy q.num 0 with h|h|h
 ·exact .inr (.inr ⟨a.1 h,Int.sign_eq_neg_one_of_neg h⟩)
 ·exact .inl ⟨c.1 h,by rw [h];rfl⟩
 ·exact .inr (.inl ⟨b.1 h,Int.sign_eq_one_of_pos h⟩)
theorem H6 {l:L3}{s:Sp}{m:L3}(he:s.emp=false)(hb:dq l s m=true):(cN l s m).emp=false:=by
 unfold dq at hb;split at hb
 ·rename_i h;unfold cN;rw [if_pos h];exact he
 ·simpa using hb
theorem H7 {l:L3}{s:Sp}{m:L3}(hc:s.can):(cN l s m).can:=by
 unfold cN;split
 ·exact hc
 ·split
  ·exact Sp.Cq hc ⟨(fun h=>nomatch h),fun _=>rfl⟩
  ·exact Sp.Cq hc ⟨fun _=>rfl,(fun h=>nomatch h)⟩
theorem val_rev (m:L3)(x y:Rat):ai (revL m) x y=-ai m x y:=by
 unfold ai revL;simp only [Rat.intCast_neg];grind
def br (l m:L3):Rat:=((l.1:Rat)*(m.2.1:Rat))-((l.2.1:Rat)*(m.1:Rat))
def Mr (l m:L3):Rat:=(((l.2.1:Rat)*(m.2.2:Rat))-((l.2.2:Rat)*(m.2.1:Rat)))*(br l m)⁻¹
def Ms (l m:L3):Rat:=(((l.2.2:Rat)*(m.1:Rat))-((l.1:Rat)*(m.2.2:Rat)))*(br l m)⁻¹
theorem kX.af {k:Nat}{l:L3}(h:kX k l)(hk:k<=1099511627776):(af l.1.natAbs).length<=1099511627776/\(af l.2.1.natAbs).length<=1099511627776/\(af l.2.2.natAbs).length<=1099511627776:=by
 have d1:=ae (show l.1.natAbs<2^k from h.1.1);have d2:=ae (show l.2.1.natAbs<2^k from h.2.1.1);have d3:=ae (show l.2.2.natAbs<2^k from h.2.2.1);exact ⟨by omega,by omega,by omega⟩
def Rc (V:View)(ad:Addr)(l:L3)(s:Sp):Prop:=∃xs:List Value,Of V (.agg xs.toArray) l s/\∀i x,xs[i]?=some x->V.at (ad.add i) x
theorem Rc.le {V V':View}{ad:Addr}{l:L3}{s:Sp}(h:Rc V ad l s)(e:V.Le V'):Rc V' ad l s:=by
 obtain ⟨xs,a,b⟩:=h;exact ⟨xs,a.le e,fun i x c=>e.at (b i x c)⟩
structure MM (V:View) (p:OA) (n:Nat) (fs:List (L3×Sp)):Prop where
 len:n=fs.length
 at_:∀(i:Nat)(h:i<fs.length),∃ad,addrAdd p (i*14)=some ad/\Rc V ad fs[i].1 fs[i].2
theorem MM.le {V V':View}{p:OA}{n:Nat}{fs:List (L3×Sp)}(h:MM V p n fs)(e:V.Le V'):MM V' p n fs:=⟨h.len,fun i a=>by obtain ⟨b,c,d⟩:=h.at_ i a;exact ⟨b,c,d.le e⟩⟩
theorem rJ {p:OA}{j:Nat}{ad:Addr}(h:addrAdd p j=some ad):p.isSome=true:=by
 cases p with
 | none=>cases h
 | some a=>rfl
def Rh (V:View)(ad:Addr)(s:Sp):Prop:=∃xs:List Value,DG V (.agg xs.toArray) s/\∀i x,xs[i]?=some x->V.at (ad.add i) x
theorem Rh.le {V V':View}{ad:Addr}{s:Sp}(h:Rh V ad s)(e:V.Le V'):Rh V' ad s:=by
 obtain ⟨xs,a,b⟩:=h;exact ⟨xs,a.le e,fun i x c=>e.at (b i x c)⟩
structure RZ (V:View) (p:OA) (n:Nat) (ss:List Sp):Prop where
 len:n=ss.length
 at_:∀(i:Nat)(h:i<ss.length),∃ad,addrAdd p (i*8)=some ad/\Rh V ad ss[i]
theorem RZ.le {V V':View}{p:OA}{n:Nat}{ss:List Sp}(h:RZ V p n ss)(e:V.Le V'):RZ V' p n ss:=⟨h.len,fun i a=>by obtain ⟨b,c,d⟩:=h.at_ i a;exact ⟨b,c,d.le e⟩⟩
def Sp.la (s:Sp)(t:Rat):Int:=if s.a then 1 else eY t s.lo
def Sp.lb (s:Sp)(t:Rat):Int:=if s.b then -1 else eY t s.hi
theorem DV {V:View}{v:Value}{q:Rat}(h:RQ V v q):Acts prog 64 #[v] V fun r V'=>RQ V' r (-q):=by
 obtain ⟨p,n,c,d,e,f,rfl,a,b⟩:=h;exact jG q a b
theorem Xs.ex {V:View}{v:Value}{l:L3}{s:Sp}(h:MN V v l s):∃(x1 x2:Int)(p:OA)(y1 y2:Int)(q:OA)(z1 z2:Int)(r:OA)(u1 u2:Int)(t:OA)(w1 w2:Int)(o:OA),
 v=.agg #[.int .i64 x1,.int .i64 x2,.pointer p,.int .i64 y1,.int .i64 y2,.pointer q,.int .i64 z1,.int .i64 z2,.pointer r,.int .i64 u1,.int .i64 u2,.pointer t,.int .i64 w1,.int .i64 w2,.pointer o,.bool s.a,.bool s.b]:=by
 obtain ⟨_,_,_,_,_,_,_,_,_,_,_,_,_,_,_,e,-⟩:=h;exact ⟨_,_,_,_,_,_,_,_,_,_,_,_,_,_,_,e⟩
theorem DQ {V:View}{v w:Value}{x y:Rat}(hx:RR V v x)(hy:RR V w y){k:Nat}(sx:Sz k x)(sy:Sz k y)(hk:2*k<1099511627776) :
  Acts prog 200 #[v,w] V fun r V'=>RR V' r (Cp x y):=by
 have g:=hx;have i:=hy;obtain ⟨a,b,c,rfl⟩:=hx.shape;obtain ⟨d,e,f,rfl⟩:=hy.shape;refine C9 a b c d e f V _ fun o j=>(kf (i.le j) (g.le j) sy sx (by omega)).mono ?_;rintro r V2 l rfl;unfold Cp;exact ⟨_,rfl,fun h p m=>by rw [if_pos (of_decide_eq_true h)];exact i.le (j.trans (l.trans m)),fun h q n=>by rw [if_neg (of_decide_eq_false h)];exact g.le (j.trans (l.trans n))⟩
theorem DR {V:View}{v w:Value}{x y:Rat}(hx:RR V v x)(hy:RR V w y){k:Nat}(sx:Sz k x)(sy:Sz k y)(hk:2*k<1099511627776) :
  Acts prog 201 #[v,w] V fun r V'=>RR V' r (Cs x y):=by
 have g:=hx;have i:=hy;obtain ⟨a,b,c,rfl⟩:=hx.shape;obtain ⟨d,e,f,rfl⟩:=hy.shape;refine C_ a b c d e f V _ fun o j=>(kf (i.le j) (g.le j) sy sx (by omega)).mono ?_;rintro r V2 l rfl;unfold Cs;exact ⟨_,rfl,fun h p m=>by rw [if_pos (of_decide_eq_true h)];exact i.le (j.trans (l.trans m)),fun h q n=>by rw [if_neg (of_decide_eq_false h)];exact g.le (j.trans (l.trans n))⟩
theorem Sp.Ah {v w:Sp}{k:Nat}(h1:v.sz k)(h2:w.sz k):(v.meet w).sz k:=by
 unfold Sp.meet Sp.sz Cp Cs;constructor<;>dsimp only
 ·split
  ·exact h2.1
  ·split
   ·exact h1.1
   ·split
    ·exact h2.1
    ·exact h1.1
 ·split
  ·exact h2.2
  ·split
   ·exact h1.2
   ·split
    ·exact h2.2
    ·exact h1.2
theorem yi {V:View}{v w:Value}{s t:Sp}(h:Fh V v s)(h':Fh V w t){k:Nat}(hs:s.sz k)(ht:t.sz k)(hk:2*k<1099511627776) :
  Acts prog 157 #[v,w] V fun r V'=>∃u,r=.tuple #[u,.bool (!(s.meet t).emp)]/\Fh V' u (s.meet t):=by
 obtain ⟨S,T,p,l,m,q,rfl,U,y⟩:=h;obtain ⟨W,X,o,Y,Z,j,rfl,g1,g2⟩:=h';have TU:s.a=true->(s.meet t).lo=t.lo/\(s.meet t).a=t.a:=fun e=>by simp [Sp.meet,e]
 have C:s.a=false->t.a=false->(s.meet t).lo=Cp s.lo t.lo:=fun e f=>by simp [Sp.meet,e,f]
 have D:s.a=false->t.a=true->(s.meet t).lo=s.lo:=fun e f=>by simp [Sp.meet,e,f]
 have WV:s.a=false->(s.meet t).a=s.a:=fun e=>by simp [Sp.meet,e]
 have n:s.b=true->(s.meet t).hi=t.hi/\(s.meet t).b=t.b:=fun e=>by simp [Sp.meet,e]
 have E:s.b=false->t.b=false->(s.meet t).hi=Cs s.hi t.hi:=fun e f=>by simp [Sp.meet,e,f]
 have F:s.b=false->t.b=true->(s.meet t).hi=s.hi:=fun e f=>by simp [Sp.meet,e,f]
 have x:s.b=false->(s.meet t).b=s.b:=fun e=>by simp [Sp.meet,e]
 refine vL S T p l m q s.a s.b W X o Y Z j t.a t.b V _ ⟨fun z i=>RR i (.agg #[.int .i64 z.1,.int .i64 z.2.1,.pointer z.2.2.1]) (s.meet t).lo/\RR i (.agg #[.int .i64 z.2.2.2.1,.int .i64 z.2.2.2.2.1,.pointer z.2.2.2.2.2.1]) s.hi/\z.2.2.2.2.2.2.1=(s.meet t).a/\z.2.2.2.2.2.2.2=s.b,⟨fun c=>?_,fun c=>⟨fun d i G=>(DQ (U.le G) (g1.le G) hs.1 ht.1 hk).mono ?_,fun d=>?_⟩⟩,?_⟩
 ·refine ⟨(W,X,o,l,m,q,t.a,s.b),by and_intros<;>rfl,?_,y,(TU c).2.symm,rfl⟩;rw [(TU c).1];exact g1
 ·rintro r V2 l2 g;rw [Bool.not_eq_true'] at d;have H:=g;obtain ⟨I,J,K,rfl⟩:=g.shape;refine ⟨_,_,_,rfl,(I,J,K,l,m,q,s.a,s.b),by and_intros<;>rfl,?_,y.le (G.trans l2),(WV c).symm,rfl⟩;rw [C c d];exact H
 ·rw [Bool.not_eq_false'] at d;refine ⟨(S,T,p,l,m,q,s.a,s.b),by and_intros<;>rfl,?_,y,(WV c).symm,rfl⟩;rw [D c d];exact U
 ·rintro ⟨L,M,N,z4,z5,z6,z7,z8⟩ V3 O ⟨A,k2,k3,k4⟩;dsimp only at A k2 k3 k4;subst k3 k4;refine ⟨rfl,fun z i=>RR i (.agg #[.int .i64 z.1,.int .i64 z.2.1,.pointer z.2.2.1]) (s.meet t).lo/\RR i (.agg #[.int .i64 z.2.2.2.1,.int .i64 z.2.2.2.2.1,.pointer z.2.2.2.2.2.1]) (s.meet t).hi/\z.2.2.2.2.2.2.1=(s.meet t).a/\z.2.2.2.2.2.2.2=(s.meet t).b,⟨fun c=>?_,fun c=>⟨fun d V4 P=>(DR (y.le (O.trans P)) (g2.le (O.trans P)) hs.2 ht.2 hk).mono ?_,fun d=>?_⟩⟩,?_⟩
  ·refine ⟨(L,M,N,Y,Z,j,(s.meet t).a,t.b),by and_intros<;>rfl,A,?_,rfl,(n c).2.symm⟩;rw [(n c).1];exact g2.le O
  ·rintro r V5 l5 g;rw [Bool.not_eq_true'] at d;have H:=g;obtain ⟨I,J,K,rfl⟩:=g.shape;refine ⟨_,_,_,rfl,(L,M,N,I,J,K,(s.meet t).a,s.b),by and_intros<;>rfl,A.le (P.trans l5),?_,rfl,(x c).symm⟩;rw [E c d];exact H
  ·rw [Bool.not_eq_false'] at d;refine ⟨(L,M,N,z4,z5,z6,(s.meet t).a,s.b),by and_intros<;>rfl,A,?_,rfl,(x c).symm⟩;rw [F c d];exact k2
  ·rintro ⟨l,m,y3,y4,y5,y6,y7,y8⟩ V6 l6 ⟨Q,R,j3,j4⟩;dsimp only at Q R j3 j4;subst j3 j4;refine ⟨rfl,fun V7 B=>(DO ⟨_,_,_,_,_,_,rfl,Q.le B,R.le B⟩ (Sp.Ah hs ht) hk).mono ?_⟩;rintro r V8 l8 rfl;exact ⟨_,rfl,fun V9 l9=>⟨_,rfl,_,_,_,_,_,_,rfl,Q.le (B.trans (l8.trans l9)),R.le (B.trans (l8.trans l9))⟩⟩
theorem mJ {L M:L3}{k:Nat}(sl:kX k L)(sm:kX k M):Sz (4*k+3) (dC M L):=cM sm.1 sm.2.1 sl.2.1 sl.1.neg
theorem HH {L M:L3}:(((M.1:Rat)*((L.1:Rat)*(((-(L.2.2:Rat))*(((L.1:Rat)*(L.1:Rat))+((L.2.1:Rat)*(L.2.1:Rat)))⁻¹))))+((M.2.1:Rat)*((L.2.1:Rat)*(((-(L.2.2:Rat))*(((L.1:Rat)*(L.1:Rat))+((L.2.1:Rat)*(L.2.1:Rat)))⁻¹)))))+(M.2.2:Rat)=jB M L:=by
 unfold jB ai f_ gy fm;grind
theorem mI {L M:L3}{k:Nat}(sl:kX k L)(sm:kX k M):Sz (50*k+49) (jB M L):=by
 rw [←HH];exact Sz.mono (j8 (k:=10*k+9) (sm.1.mono (by omega)) (sm.2.1.mono (by omega)) (sm.2.2.mono (by omega)) (df sl.1 sl.2.1 sl.2.2) (dg sl.1 sl.2.1 sl.2.2)) (by omega)
theorem tz {L M:L3}{k:Nat}(sl:kX k L)(sm:kX k M):Sz (60*k+60) (dB M L):=Sz.mono ((mI sl sm).mul (dJ (mJ sl sm))).neg (by omega)
theorem MB (k:Nat)(hk:0<k):Sz k (0:Rat):=⟨by show (0:Int).natAbs<_;exact Nat.lt_of_lt_of_le (by decide) (Nat.one_le_two_pow),Nat.one_lt_two_pow (by omega)⟩
theorem Bv {V:View}{l v m:Value}{L:L3}{s:Sp}{M:L3}(hl:RLi V l L)(hv:Fh V v s)(hm:RLi V m M){k:Nat}(sl:kX k L)(hs:s.sz k)(sm:kX k M)(hk:200*k+200<274877906944) :
  Acts prog 167 #[l,v,m] V fun r V'=>∃w,r=.tuple #[w,.bool (dq L s M)]/\Fh V' w (cN L s M):=by
 have f:=hl;have b:=hv;have g:=hm;obtain ⟨_,_,_,_,_,_,_,_,_,rfl,-,-,-⟩:=hl;obtain ⟨_,_,_,_,_,_,rfl,-,-⟩:=hv;obtain ⟨_,_,_,_,_,_,_,_,_,rfl,-,-,-⟩:=hm;have h:s.sz (60*k+60):=⟨hs.1.mono (by omega),hs.2.mono (by omega)⟩;have z:=MB (60*k+60) (by omega);refine xu _ _ _ _ _ _ _ _ _ _ _ _ _ _ _ _ _ _ _ _ _ _ _ _ _ _ V _ fun V1 B=>(gL (g.le B) sm.1 sm.2.1 sm.2.2 (by omega)).mono ?_;rintro r V2 l2 g1;have C:=g1;obtain ⟨_,_,_,_,_,_,rfl,-,-⟩:=g1;refine ⟨_,_,_,_,_,_,rfl,fun V3 D=>(ki (f.le (B.trans (l2.trans D))) sl.1 sl.2.1 sl.2.2 (by omega)).mono ?_⟩;rintro r V4 l4 g2;have E:=g2;obtain ⟨_,_,_,_,_,_,rfl,-,-⟩:=g2;refine ⟨_,_,_,_,_,_,rfl,fun V5 F=>(kj (C.le (D.trans (l4.trans F))) (E.le F) sm.1 sm.2.1 sl.2.1 sl.1.neg (by omega)).mono ?_⟩;rintro r G l6 g3;have H:RR G r (dC M L):=g3;obtain ⟨_,_,_,rfl⟩:=g3.shape;have i:V.Le G:=B.trans (l2.trans (D.trans (l4.trans (F.trans l6))));refine ⟨_,_,_,rfl,fun V7 I=>(mR (f.le (i.trans I)) sl.1 sl.2.1 sl.2.2 (by omega)).mono ?_⟩;rintro r V8 l8 g4;have Kc:=g4;obtain ⟨_,_,_,_,_,_,rfl,-,-⟩:=g4;refine ⟨_,_,_,_,_,_,rfl,fun V9 J=>(lj (k:=10*k+9) (g.le (i.trans (I.trans (l8.trans J)))) (Kc.le J) (sm.1.mono (by omega)) (sm.2.1.mono (by omega)) (sm.2.2.mono (by omega)) (df sl.1 sl.2.1 sl.2.2) (dg sl.1 sl.2.1 sl.2.2) (by omega)).mono ?_⟩;rintro r j K N;rw [HH] at N;have O:=N;obtain ⟨_,_,_,rfl⟩:=N.shape;have e:G.Le j:=I.trans (l8.trans (J.trans K));refine ⟨_,_,_,rfl,fun a1 n=>(fD (H.le (e.trans n)) (mJ sl sm) (by omega)).mono ?_⟩;rintro r P Q rfl;have a:j.Le P:=n.trans Q;refine ⟨_,rfl,fun c a2 o=>(fD (O.le (a.trans o)) (mI sl sm) (by omega)).mono ?_,fun c=>⟨fun R j9 S=>(zH (O.le (a.trans S)) (H.le (e.trans (a.trans S))) (mI sl sm) (mJ sl sm) (by omega)).mono ?_,fun R tE T=>(zH (O.le (a.trans T)) (H.le (e.trans (a.trans T))) (mI sl sm) (mJ sl sm) (by omega)).mono ?_⟩⟩
 ·rintro r a3 cO rfl;have p:dq L s M=decide ((jB M L).num.sign>0):=by unfold dq;rw [if_pos c]
  have d:cN L s M=s:=by unfold cN;rw [if_pos c]
  rw [p,d];exact ⟨_,rfl,fun a4 dh=>⟨_,rfl,b.le (i.trans (e.trans (a.trans (o.trans (cO.trans dh)))))⟩⟩
 ·have d:cN L s M=s.meet ⟨dB M L,0,false,true⟩:=by unfold cN;rw [if_neg (by rw [c];exact Bool.false_ne_true),if_pos R]
  have p:dq L s M=!(s.meet ⟨dB M L,0,false,true⟩).emp:=by rw [←d];unfold dq;rw [if_neg (by rw [c];exact Bool.false_ne_true)]
  rw [p,d];rintro r ng U q;have W:=q;obtain ⟨_,_,_,rfl⟩:=q.shape;refine ⟨_,_,_,rfl,fun oo u=>(iQ (W.le u) ((mI sl sm).mul (dJ (mJ sl sm))) (by omega)).mono ?_⟩;rintro r X Y x;have Z:RR X r (dB M L):=x;obtain ⟨_,_,_,rfl⟩:=x.shape;refine ⟨_,_,_,rfl,fun DB y=>(yi (t:=⟨dB M L,0,false,true⟩) (b.le (i.trans (e.trans (a.trans (S.trans (U.trans (u.trans (Y.trans y)))))))) ⟨_,_,_,_,_,_,rfl,Z.le y,RR.zero _⟩ h ⟨tz sl sm,z⟩ (by omega)).mono ?_⟩;rintro r pZ fN ⟨w,rfl,A⟩;have Ph:=A;obtain ⟨_,_,_,_,_,_,rfl,-,-⟩:=A;exact ⟨_,_,_,_,_,_,_,_,_,rfl,fun rf iN=>⟨_,rfl,Ph.le iN⟩⟩
 ·have d:cN L s M=s.meet ⟨0,dB M L,true,false⟩:=by unfold cN;rw [if_neg (by rw [c];exact Bool.false_ne_true),if_neg (by rw [R];exact Bool.false_ne_true)]
  have p:dq L s M=!(s.meet ⟨0,dB M L,true,false⟩).emp:=by rw [←d];unfold dq;rw [if_neg (by rw [c];exact Bool.false_ne_true)]
  rw [p,d];rintro r ng U q;have W:=q;obtain ⟨_,_,_,rfl⟩:=q.shape;refine ⟨_,_,_,rfl,fun oo u=>(iQ (W.le u) ((mI sl sm).mul (dJ (mJ sl sm))) (by omega)).mono ?_⟩;rintro r X Y x;have Z:RR X r (dB M L):=x;obtain ⟨_,_,_,rfl⟩:=x.shape;refine ⟨_,_,_,rfl,fun DB y=>(yi (t:=⟨0,dB M L,true,false⟩) (b.le (i.trans (e.trans (a.trans (T.trans (U.trans (u.trans (Y.trans y)))))))) ⟨_,_,_,_,_,_,rfl,RR.zero _,Z.le y⟩ h ⟨z,tz sl sm⟩ (by omega)).mono ?_⟩;rintro r pZ fN ⟨w,rfl,A⟩;have Ph:=A;obtain ⟨_,_,_,_,_,_,rfl,-,-⟩:=A;exact ⟨_,_,_,_,_,_,_,_,_,rfl,fun rf iN=>⟨_,rfl,Ph.le iN⟩⟩
structure DF (V:View) (p:OA) (n:Nat) (fs:List (L3×Sp)):Prop where
 len:n=fs.length
 at_:∀(i:Nat)(h:i<fs.length),∃ad,addrAdd p (i*17)=some ad/\∃xs:List Value,MN V (.agg xs.toArray) fs[i].1 fs[i].2/\∀j x,xs[j]?=some x->V.at (ad.add j) x
theorem DF.le {V V':View}{p:OA}{n:Nat}{fs:List (L3×Sp)}(h:DF V p n fs)(e:V.Le V'):DF V' p n fs:=⟨h.len,fun i a=>by obtain ⟨b,c,xs,d,f⟩:=h.at_ i a;exact ⟨b,c,xs,d.le e,fun j x g=>e.at (f j x g)⟩⟩
theorem DF.nil {V:View}:DF V none 0 []:=⟨rfl,fun i a=>by simp at a⟩
theorem DF.one {V:View}{bk:Nat}{xs:List Value}{ty:TypeId}{l:L3}{s:Sp}(hb:V.bg bk (.cells xs.toArray ty (0,0)))(hf:MN V (.agg xs.toArray) l s):DF V (some ⟨bk,0,none⟩) 1 [(l,s)]:=by
 refine ⟨rfl,fun i a=>?_⟩;obtain rfl:i=0:=by simpa using a
 refine ⟨⟨bk,0,none⟩,by simp [addrAdd,add_zero'],_,hf,fun j x b=>?_⟩;rw [add_zero'];exact blk_at hb b
theorem KA {L M:L3}:((L.1:Rat)=(M.1:Rat)/\(L.2.1:Rat)=(M.2.1:Rat)/\(L.2.2:Rat)=(M.2.2:Rat))↔L=M:=by
 constructor
 ·rintro ⟨a,b,c⟩;exact Prod.ext (Rat.intCast_inj.1 a) (Prod.ext (Rat.intCast_inj.1 b) (Rat.intCast_inj.1 c))
 ·rintro rfl;exact ⟨rfl,rfl,rfl⟩
theorem KT {V:View}{v w:Value}{L M:L3}(hl:RLi V v L)(hm:RLi V w M){k:Nat}(sl:kX k L)(sm:kX k M)(hk:k+k<1099511627776) :
  Acts prog 197 #[v,w] V fun r V'=>r=.bool (decide (L=M)):=by
 refine (Bz hl hm sl.1 sl.2.1 sl.2.2 sm.1 sm.2.1 sm.2.2 hk).mono ?_;rintro r V' l rfl;rw [decide_eq_decide.2 KA]
theorem Rv (V:View):RQ V (.agg #[.bool false,.slice none 0 0,.slice none 0 0]) 0:=by have:=RQ.zero (V:=V);simpa using this
theorem zP {V:View}:Acts prog 75 #[] V fun r V'=>DG V' r ⟨0,0,true,true⟩:=
 xN V _ fun a b=>⟨_,_,_,_,_,_,_,_,_,_,_,_,_,_,rfl,Rv _,Rv _⟩
theorem vk {V:View}{v:Value}{s:Sp}(h:DG V v s):∃b p n c p' n' c' d q m e q' m' e',v=.agg #[.bool b,.slice p n c,.slice p' n' c',.bool d,.slice q m e,.slice q' m' e',.bool s.a,.bool s.b]:=by
 obtain ⟨_,_,_,_,_,_,_,_,_,_,_,_,_,_,e,-⟩:=h;exact ⟨_,_,_,_,_,_,_,_,_,_,_,_,_,_,e⟩
end Go.Proofs.Tryz
namespace Go.Proofs.Tryz
open Go.Eng
set_option maxRecDepth 100000
end Go.Proofs.Tryz
namespace Go.Proofs.Tryz
open Go.Eng Go.Big
def Re (V:View)(v:Value)(b1:Bool)(xs:List Nat)(b2:Bool)(ys:List Nat)(b3:Bool)(zs:List Nat):Prop:=∃p n c q m e s i j,v=.agg #[.bool b1,.slice p n c,.bool b2,.slice q m e,.bool b3,.slice s i j]/\RD V p n c xs/\RD V q m e ys/\RD V s i j zs
theorem Re.le {V V':View}{v:Value}{b1:Bool}{xs:List Nat}{b2:Bool}{ys:List Nat}{b3:Bool}{zs:List Nat}(h:Re V v b1 xs b2 ys b3 zs)(l:V.Le V'):Re V' v b1 xs b2 ys b3 zs:=by
 obtain ⟨p,n,c,q,m,e,s,i,j,rfl,a,b,d⟩:=h;exact ⟨_,_,_,_,_,_,_,_,_,rfl,a.le l,b.le l,d.le l⟩
def WU (b1:Bool)(xs:List Nat)(b2:Bool)(ys:List Nat)(b3:Bool)(zs:List Nat):L3:=(aQ b1 xs,aQ b2 ys,aQ b3 zs)
structure FW where
 b1:Bool
 xs:List Nat
 b2:Bool
 ys:List Nat
 b3:Bool
 zs:List Nat
 c1:Bool
 us:List Nat
 vs:List Nat
 c2:Bool
 ws:List Nat
 ts:List Nat
 na:Bool
 nb:Bool
def FW.ln (f:FW):L3:=WU f.b1 f.xs f.b2 f.ys f.b3 f.zs
def FW.sp (f:FW):Sp:=QU f.c1 f.us f.vs f.c2 f.ws f.ts f.na f.nb
def FW.ok (f:FW):Bool:=uY f.b1 f.xs f.b2 f.ys f.b3 f.zs&&okW f.c1 f.us f.vs f.c2 f.ws f.ts f.na f.nb
structure FW.short (f:FW):Prop where
 x:f.xs.length<=1000000
 y:f.ys.length<=1000000
 z:f.zs.length<=1000000
 u:f.us.length<=1000000
 v:f.vs.length<=1000000
 w:f.ws.length<=1000000
 t:f.ts.length<=1000000
def Rd (V:View)(v:Value)(f:FW):Prop:=∃p1 n1 d1 p2 n2 d2 p3 n3 d3 p n c p' n' c' q m e q' m' e',
 v=.agg #[.bool f.b1,.slice p1 n1 d1,.bool f.b2,.slice p2 n2 d2,.bool f.b3,.slice p3 n3 d3,.bool f.c1,.slice p n c,.slice p' n' c',.bool f.c2,.slice q m e,.slice q' m' e',.bool f.na,.bool f.nb] /\
 Re V (.agg #[.bool f.b1,.slice p1 n1 d1,.bool f.b2,.slice p2 n2 d2,.bool f.b3,.slice p3 n3 d3]) f.b1 f.xs f.b2 f.ys f.b3 f.zs /\
 Rg V (.agg #[.bool f.c1,.slice p n c,.slice p' n' c',.bool f.c2,.slice q m e,.slice q' m' e',.bool f.na,.bool f.nb]) f.c1 f.us f.vs f.c2 f.ws f.ts f.na f.nb
theorem Rd.le {V V':View}{v:Value}{f:FW}(h:Rd V v f)(l:V.Le V'):Rd V' v f:=by
 obtain ⟨d,g,d1,i,j,d2,k,o,d3,p,n,c,r,s,t,q,m,e,u,w,x,rfl,a,b⟩:=h;exact ⟨_,_,_,_,_,_,_,_,_,_,_,_,_,_,_,_,_,_,_,_,_,rfl,a.le l,b.le l⟩
theorem jj {V:View}(z w:Int){p q:OA}{n c m e:Nat}(ha:RD V p n c (af z.natAbs))(hb:RD V q m e (af w.natAbs))(hm:(af z.natAbs).length<=1099511627776)(hn:(af w.natAbs).length<=1099511627776) :
  Acts prog 122 #[.agg #[.bool (decide (z<0)),.slice p n c],.agg #[.bool (decide (w<0)),.slice q m e]] V fun r V'=>r=.int .i64 (z-w).sign:=by
 refine vT _ p n c _ q m e V _ fun i a=>(gC w (hb.le a)).mono ?_;rintro r V2 d ⟨j,k,l,rfl,f⟩;refine ⟨_,_,_,_,rfl,fun o b=>(qi z (-w) (ha.le (a.trans (d.trans b))) (f.le b) hm (by rw [Int.natAbs_neg];exact hn)).mono ?_⟩;rintro r s t ⟨u,v,x,rfl,g⟩;refine ⟨_,_,_,_,rfl,fun y h=>(kr _ (g.le h)).mono ?_⟩;rintro r A B rfl;exact ⟨_,rfl,fun C D=>by rw [Int.sub_eq_add_neg]⟩
def kZ (l m:L3):Int:=if (l.1-m.1).sign≠0 then (l.1-m.1).sign else if (l.2.1-m.2.1).sign≠0 then (l.2.1-m.2.1).sign else (l.2.2-m.2.2).sign
theorem zR {l m:L3}:kZ l m=0↔l=m:=by
 have e:∀{a b:Int},(a-b).sign=0↔a=b:=fun {a b}=>by rw [Int.sign_eq_zero_iff_zero];omega
 unfold kZ;constructor
 ·intro h;by_cases c:(l.1-m.1).sign=0
  ·rw [if_neg (by simpa using c)] at h;by_cases d:(l.2.1-m.2.1).sign=0
   ·rw [if_neg (by simpa using d)] at h;exact Prod.ext (e.1 c) (Prod.ext (e.1 d) (e.1 h))
   ·rw [if_pos d] at h;exact absurd h d
  ·rw [if_pos c] at h;exact absurd h c
 ·rintro rfl;simp
theorem iT {V:View}{v w:Value}{l m:L3}(hl:RL V v l.1 l.2.1 l.2.2)(hm:RL V w m.1 m.2.1 m.2.2){k:Nat}(sl:kX k l)(sm:kX k m)(hk:k<=1099511627776) :
  Acts prog 74 #[v,w] V fun r V'=>r=.int .i64 (kZ l m):=by
 obtain ⟨d1,d2,d3⟩:=sl.af hk;obtain ⟨f,g,i⟩:=sm.af hk;obtain ⟨_,_,_,_,_,_,_,_,_,rfl,j,n,o⟩:=hl;obtain ⟨_,_,_,_,_,_,_,_,_,rfl,b1,b2,b3⟩:=hm;refine A9 _ _ _ _ _ _ _ _ _ _ _ _ _ _ _ _ _ _ _ _ _ _ _ _ V _ fun p a=>(jj _ _ (j.le a) (b1.le a) d1 f).mono ?_;rintro r V2 b rfl;unfold kZ;refine ⟨_,rfl,fun h q s=>?_,fun h t c=>(jj _ _ (n.le (a.trans (b.trans c))) (b2.le (a.trans (b.trans c))) d2 g).mono ?_⟩
 ·rw [bne_iff_ne] at h;rw [if_pos h]
 ·rw [bne_eq_false_iff_eq] at h;rw [if_neg (by rw [h];decide)];rintro r u d rfl;refine ⟨_,rfl,fun h x y=>?_,fun h z e=>(jj _ _ (o.le (a.trans (b.trans (c.trans (d.trans e))))) (b3.le (a.trans (b.trans (c.trans (d.trans e))))) d3 i).mono ?_⟩
  ·rw [bne_iff_ne] at h;rw [if_pos h]
  ·rw [bne_eq_false_iff_eq] at h;rw [if_neg (by rw [h];decide)];rintro r A B rfl;exact ⟨_,rfl,fun C D=>rfl⟩
theorem BK {l m:L3}:(kZ l m==(0:Int))=decide (l=m):=by
 by_cases h:l=m
 ·rw [decide_eq_true h,beq_iff_eq];exact zR.2 h
 ·rw [decide_eq_false h,beq_eq_false_iff_ne];exact fun e=>h (zR.1 e)
def Hz (u:Value):Prop:=u=.agg #[.bool false,.slice none 0 0,.slice none 0 0,.bool false,.slice none 0 0,.slice none 0 0]
theorem Jr {V:View}{v w:Value}{l m:L3}(hl:RL V v l.1 l.2.1 l.2.2)(hm:RL V w m.1 m.2.1 m.2.2){k:Nat}(sl:kX k l)(sm:kX k m)(hk:20*k+20<274877906944) :
  Acts prog 48 #[v,w] V fun r V'=>∃u,r=.tuple #[u,.bool (decide (br l m≠0))]/\(br l m=0->Hz u)/\(br l m≠0->RP V' u (Mr l m) (Ms l m)):=by
 have e0:((l.1:Int):Rat)*((m.2.1:Int):Rat)-((m.1:Int):Rat)*((l.2.1:Int):Rat)=br l m:=by unfold br;grind
 have e1:((l.2.1:Int):Rat)*((m.2.2:Int):Rat)-((m.2.1:Int):Rat)*((l.2.2:Int):Rat)=((l.2.1:Rat)*(m.2.2:Rat))-((l.2.2:Rat)*(m.2.1:Rat)):=by grind
 have e2:((m.1:Int):Rat)*((l.2.2:Int):Rat)-((l.1:Int):Rat)*((m.2.2:Int):Rat)=((l.2.2:Rat)*(m.1:Rat))-((l.1:Rat)*(m.2.2:Rat)):=by grind
 obtain ⟨a,b,i⟩:=sl;obtain ⟨j,n,o⟩:=sm;obtain ⟨_,_,_,_,_,_,_,_,_,rfl,a1,a2,a3⟩:=hl;obtain ⟨_,_,_,_,_,_,_,_,_,rfl,b1,b2,b3⟩:=hm;refine xI _ _ _ _ _ _ _ _ _ _ _ _ _ _ _ _ _ _ _ _ _ _ _ _ V _ fun V1 C=>(aS (a1.le C) a (by omega)).mono ?_;rintro r V2 R VU;have SE:=VU;obtain ⟨_,_,_,_,_,_,rfl⟩:=VU.shape;refine ⟨_,_,_,_,_,_,_,rfl,fun V3 D=>(aS (b2.le (C.trans (R.trans (D)))) n (by omega)).mono ?_⟩;rintro r V4 S VV;have SF:=VV;obtain ⟨_,_,_,_,_,_,rfl⟩:=VV.shape;refine ⟨_,_,_,_,_,_,_,rfl,fun V5 E=>(aI (SE.le (D.trans (S.trans (E)))) (SF.le E) a n (by omega)).mono ?_⟩;rintro r V6 l6 VW;have SG:=VW;obtain ⟨_,_,_,_,_,_,rfl⟩:=VW.shape;refine ⟨_,_,_,_,_,_,_,rfl,fun V7 T=>(aS (b1.le (C.trans (R.trans (D.trans (S.trans (E.trans (l6.trans (T)))))))) j (by omega)).mono ?_⟩;rintro r V8 l8 VX;have SH:=VX;obtain ⟨_,_,_,_,_,_,rfl⟩:=VX.shape;refine ⟨_,_,_,_,_,_,_,rfl,fun V9 U=>(aS (a2.le (C.trans (R.trans (D.trans (S.trans (E.trans (l6.trans (T.trans (l8.trans (U)))))))))) b (by omega)).mono ?_⟩;rintro r a6 q VY;have SI:=VY;obtain ⟨_,_,_,_,_,_,rfl⟩:=VY.shape;refine ⟨_,_,_,_,_,_,_,rfl,fun a7 e=>(aI (SH.le (U.trans (q.trans (e)))) (SI.le e) j b (by omega)).mono ?_⟩;rintro r a8 F VZ;have SJ:=VZ;obtain ⟨_,_,_,_,_,_,rfl⟩:=VZ.shape;refine ⟨_,_,_,_,_,_,_,rfl,fun a9 s=>(fT (SG.le (T.trans (l8.trans (U.trans (q.trans (e.trans (F.trans (s)))))))) (SJ.le s) (a.mul n) (j.mul b) (by omega)).mono ?_⟩;rintro r b5 cO SK;rw [e0] at SK;have p:=SK;obtain ⟨_,_,_,_,_,_,rfl,SL,-⟩:=SK;have sD:Sz (4*k+3) (((l.1:Int):Rat)*((m.2.1:Int):Rat)-((m.1:Int):Rat)*((l.2.1:Int):Rat)):=Sz.mono ((a.mul n).sub (j.mul b)) (by omega);rw [e0] at sD;refine ⟨_,_,_,_,_,_,_,rfl,fun b6 dh=>(te _ (SL.le dh)).mono ?_⟩;rintro r j9 cQ rfl;refine ⟨_,rfl,fun t ng ck=>?_,fun t=>?_⟩
 ·rw [beq_iff_eq,pG] at t;rw [t];exact ⟨_,rfl,fun _=>rfl,fun h=>absurd rfl h⟩
 ·rw [beq_eq_false_iff_ne,ne_eq,pG] at t;rw [decide_eq_true t];have G:¬(br l m).num=0:=fun h=>t (Rat.num_eq_zero.1 h);intro ng ck;have H:V.Le ng:=(C.trans (R.trans (D.trans (S.trans (E.trans (l6.trans (T.trans (l8.trans (U.trans (q.trans (e.trans (F.trans (s.trans (cO.trans (dh.trans (cQ.trans (ck)))))))))))))))))
  replace p:=p.le (dh.trans (cQ.trans (ck)))
  refine (aS (a2.le H) b (by omega)).mono ?_;rintro r oo I Wc;have SM:=Wc;obtain ⟨_,_,_,_,_,_,rfl⟩:=Wc.shape;refine ⟨_,_,_,_,_,_,_,rfl,fun se x=>(aS (b3.le (H.trans (I.trans (x)))) o (by omega)).mono ?_⟩;rintro r DB J We;have SN:=We;obtain ⟨_,_,_,_,_,_,rfl⟩:=We.shape;refine ⟨_,_,_,_,_,_,_,rfl,fun pZ y=>(aI (SM.le (x.trans (J.trans (y)))) (SN.le y) b o (by omega)).mono ?_⟩;rintro r rf W Wf;have SO:=Wf;obtain ⟨_,_,_,_,_,_,rfl⟩:=Wf.shape;refine ⟨_,_,_,_,_,_,_,rfl,fun tE K=>(aS (b2.le (H.trans (I.trans (x.trans (J.trans (y.trans (W.trans (K)))))))) n (by omega)).mono ?_⟩;rintro r Ge X Wg;have SP:=Wg;obtain ⟨_,_,_,_,_,_,rfl⟩:=Wg.shape;refine ⟨_,_,_,_,_,_,_,rfl,fun DH c=>(aS (a3.le (H.trans (I.trans (x.trans (J.trans (y.trans (W.trans (K.trans (X.trans (c)))))))))) i (by omega)).mono ?_⟩;rintro r LS f Wh;have SQ:=Wh;obtain ⟨_,_,_,_,_,_,rfl⟩:=Wh.shape;refine ⟨_,_,_,_,_,_,_,rfl,fun Oh d=>(aI (SP.le (c.trans (f.trans (d)))) (SQ.le d) n i (by omega)).mono ?_⟩;rintro r Oi Ae Wi;have SR:=Wi;obtain ⟨_,_,_,_,_,_,rfl⟩:=Wi.shape;refine ⟨_,_,_,_,_,_,_,rfl,fun Rj Y=>(fT (SO.le (K.trans (X.trans (c.trans (f.trans (d.trans (Ae.trans (Y)))))))) (SR.le Y) (b.mul o) (n.mul i) (by omega)).mono ?_⟩;rintro r Kl wD SS;rw [e1] at SS;have Nb:=SS;obtain ⟨_,_,_,_,_,_,rfl⟩:=SS.shape;have sX:Sz (4*k+3) (((l.2.1:Rat)*(m.2.2:Rat))-((l.2.2:Rat)*(m.2.1:Rat))):=by rw [←e1];exact Sz.mono ((b.mul o).sub (n.mul i)) (by omega)
  have Z:V.Le Kl:=(H.trans (I.trans (x.trans (J.trans (y.trans (W.trans (K.trans (X.trans (c.trans (f.trans (d.trans (Ae.trans (Y.trans (wD))))))))))))))
  replace p:=p.le (I.trans (x.trans (J.trans (y.trans (W.trans (K.trans (X.trans (c.trans (f.trans (d.trans (Ae.trans (Y.trans (wD)))))))))))))
  refine ⟨_,_,_,_,_,_,_,rfl,fun R6 z=>(aS (b1.le (Z.trans z)) j (by omega)).mono ?_⟩;rintro r Rk L Wj;have SU:=Wj;obtain ⟨_,_,_,_,_,_,rfl⟩:=Wj.shape;refine ⟨_,_,_,_,_,_,_,rfl,fun OK A=>(aS (a3.le (Z.trans (z.trans (L.trans (A))))) i (by omega)).mono ?_⟩;rintro r R7 M Wk;have SW:=Wk;obtain ⟨_,_,_,_,_,_,rfl⟩:=Wk.shape;refine ⟨_,_,_,_,_,_,_,rfl,fun Xu B=>(aI (SU.le (A.trans (M.trans (B)))) (SW.le B) j i (by omega)).mono ?_⟩;rintro r b7 Rq Wl;have SX:=Wl;obtain ⟨_,_,_,_,_,_,rfl⟩:=Wl.shape;refine ⟨_,_,_,_,_,_,_,rfl,fun b8 N=>(aS (a1.le (Z.trans (z.trans (L.trans (A.trans (M.trans (B.trans (Rq.trans (N))))))))) a (by omega)).mono ?_⟩;rintro r b9 KW Wm;have SY:=Wm;obtain ⟨_,_,_,_,_,_,rfl⟩:=Wm.shape;refine ⟨_,_,_,_,_,_,_,rfl,fun c0 O=>(aS (b3.le (Z.trans (z.trans (L.trans (A.trans (M.trans (B.trans (Rq.trans (N.trans (KW.trans (O))))))))))) o (by omega)).mono ?_⟩;rintro r c1 Rr Wn;have SZ:=Wn;obtain ⟨_,_,_,_,_,_,rfl⟩:=Wn.shape;refine ⟨_,_,_,_,_,_,_,rfl,fun c2 P=>(aI (SY.le (O.trans (Rr.trans (P)))) (SZ.le P) a o (by omega)).mono ?_⟩;rintro r c3 TP Wo;have S0:=Wo;obtain ⟨_,_,_,_,_,_,rfl⟩:=Wo.shape;refine ⟨_,_,_,_,_,_,_,rfl,fun c4 Rs=>(fT (SX.le (N.trans (KW.trans (O.trans (Rr.trans (P.trans (TP.trans (Rs)))))))) (S0.le Rs) (j.mul i) (a.mul o) (by omega)).mono ?_⟩;rintro r c5 WO S1;rw [e2] at S1;have S2:=S1;obtain ⟨_,_,_,_,_,_,rfl⟩:=S1.shape;have sY:Sz (4*k+3) (((l.2.2:Rat)*(m.1:Rat))-((l.1:Rat)*(m.2.2:Rat))):=by rw [←e2];exact Sz.mono ((j.mul i).sub (a.mul o)) (by omega)
  replace p:=p.le (z.trans (L.trans (A.trans (M.trans (B.trans (Rq.trans (N.trans (KW.trans (O.trans (Rr.trans (P.trans (TP.trans (Rs.trans (WO))))))))))))))
  replace Nb:=Nb.le (z.trans (L.trans (A.trans (M.trans (B.trans (Rq.trans (N.trans (KW.trans (O.trans (Rr.trans (P.trans (TP.trans (Rs.trans (WO))))))))))))))
  refine ⟨_,_,_,_,_,_,_,rfl,fun c6 g=>(fS (Nb.le g) (p.le g) G sX sD (by omega)).mono ?_⟩;rintro r R8 Q gr;have a4:=gr;obtain ⟨_,_,_,_,_,_,rfl⟩:=gr.shape;refine ⟨_,_,_,_,_,_,_,rfl,fun Vc P8=>(fS (S2.le (g.trans (Q.trans (P8)))) (p.le (g.trans (Q.trans (P8)))) G sY sD (by omega)).mono ?_⟩;rintro r R9 Zh gs;have a5:=gs;obtain ⟨_,_,_,_,_,_,rfl⟩:=gs.shape;exact ⟨_,_,_,_,_,_,_,rfl,fun Vd WQ=>⟨_,rfl,fun h=>absurd h t,fun _=>⟨_,_,_,_,_,_,_,_,_,_,_,_,rfl,a4.le (P8.trans (Zh.trans (WQ))),a5.le WQ⟩⟩⟩
def MZ:L3:=(0,0,0)
theorem Fq {a b:L3}:kZ a b<0↔(a.1<b.1\/a.1=b.1/\(a.2.1<b.2.1\/a.2.1=b.2.1/\a.2.2<b.2.2)):=by
 have s:∀{x y:Int},(x<y/\(x-y).sign=-1)\/(x=y/\(x-y).sign=0)\/(y<x/\(x-y).sign=1):=by
  intro x y;rcases Int.lt_trichotomy x y with h|h|h
  ·exact .inl ⟨h,Int.sign_eq_neg_one_of_neg (by omega)⟩
  ·exact .inr (.inl ⟨h,by rw [h,Int.sub_self];rfl⟩)
  ·exact .inr (.inr ⟨h,Int.sign_eq_one_of_pos (by omega)⟩)
 unfold kZ;rcases @s a.1 b.1 with ⟨d,c⟩|⟨d,c⟩|⟨d,c⟩<;>rcases @s a.2.1 b.2.1 with ⟨h2,e2⟩|⟨h2,e2⟩|⟨h2,e2⟩<;>rcases @s a.2.2 b.2.2 with ⟨h3,e3⟩|⟨h3,e3⟩|⟨h3,e3⟩<;>rw [c,e2,e3]<;>simp<;>omega
def J6 (V:View)(v:Value)(c:L3):Prop:=r_ V v c.1 c.2.1 c.2.2/\Bd c
theorem J6.le {V V':View}{v:Value}{c:L3}(h:J6 V v c)(l:V.Le V'):J6 V' v c:=⟨h.1.le l,h.2⟩
theorem J6.shape {V:View}{v:Value}{c:L3}(h:J6 V v c):∃(x y:Int)(p:OA)(xb yb:Int)(pb:OA)(xc yc:Int)(pc:OA),v=.agg #[.int .i64 x,.int .i64 y,.pointer p,.int .i64 xb,.int .i64 yb,.pointer pb,.int .i64 xc,.int .i64 yc,.pointer pc]:=by
 obtain ⟨⟨a,b,p,d,f,q,g,i,r,e,-⟩,-⟩:=h;exact ⟨_,_,_,_,_,_,_,_,_,e⟩
end Go.Proofs.Tryz
namespace Go.Proofs.Tryz
open Go.Big
section
variable {α:Type} {c:α->α->Int} {d:α}
structure PQ (c:α->α->Int) (d:α) (l0 l:List α) (a0 b0 a b:Nat):Prop where
 Rx:re d l0 l a0 b0
 ha:a0<=a
 hab:a<=b
 hb:b<=b0
 lo:wH c d l a0 a
 hi:wH c d l b b0
 s1:Sep c d l a0 a b0
 s2:Sep c d l a0 b b0
 pre:0<a->∀k,a<=k->k<b->¬c (l.getD k d) (l.getD (a-1) d)<0
variable {l0 l m:List α} {a0 b0 a b mid:Nat}
theorem PQ.start {l:List α}(h:a<=b)(hp:0<a->∀k,a<=k->k<b->¬c (l.getD k d) (l.getD (a-1) d)<0):PQ c d l l a b a b:=
 ⟨.refl _ _ _,Nat.le_refl _,h,Nat.le_refl _,.short (by omega),.short (by omega),fun p q e f=>by omega,fun p q e f g i=>by omega,hp⟩
theorem PQ.change (h:PQ c d l0 l a0 b0 a b)(hs:re d l m a b):PQ c d l0 m a0 b0 a b:=
 ⟨h.Rx.trans (hs.wide h.ha h.hb),h.ha,h.hab,h.hb,hs.asc h.lo (.inl (Nat.le_refl _)),hs.asc h.hi (.inr (Nat.le_refl _)),hs.sep h.s1 (.inr (.inl ⟨Nat.le_refl _,h.hb⟩)),hs.sep h.s2 (.inl ⟨h.ha,Nat.le_refl _⟩),fun f k g i=>by
  obtain ⟨j,n,o,e⟩:=hs.mem k g i;rw [e,hs.out (a-1) (by omega)];exact h.pre f j n o⟩
theorem PQ.fin (h:PQ c d l0 l a0 b0 a b)(hs:re d l m a b)(ha:wH c d m a b):re d l0 m a0 b0/\wH c d m a0 b0:=by
 have e:=h.change hs;refine ⟨e.Rx,e.lo.join (ha.join e.hi fun p q j f g i=>e.s2 p q (by have:=h.ha;omega) f g i) e.s1⟩
theorem PQ.left (ho:Ord c)(h:PQ c d l0 l a0 b0 a b)(hm:a<=mid)(hm':mid<b)(h1:∀k,a<=k->k<mid->c (l.getD k d) (l.getD mid d)<0)(h2:∀k,mid<k->k<b->¬c (l.getD k d) (l.getD mid d)<0)
  (hs:re d l m a mid)(ha:wH c d m a mid):PQ c d l0 m a0 b0 (mid+1) b:=by
 have n:=h.ha;have o:=h.hb;have em:m.getD mid d=l.getD mid d:=hs.out mid (by omega)
 have below:∀k,a<=k->k<mid->¬c (m.getD mid d) (m.getD k d)<0:=fun k f g=>by
  obtain ⟨r,i,j,e⟩:=hs.mem k f g;rw [em,e];exact ho.Om _ _ (h1 r i j)
 have t1:=hs.sep h.s1 (.inr (.inl ⟨Nat.le_refl _,by omega⟩));have t2:=hs.sep h.s2 (.inl ⟨n,by omega⟩);have up:∀q,mid<q->q<b->¬c (m.getD q d) (m.getD mid d)<0:=fun q f g=>by rw [em,hs.out q (by omega)];exact h2 q f g
 refine ⟨h.Rx.trans (hs.wide n (by omega)),by omega,by omega,o,(hs.asc h.lo (.inl (Nat.le_refl _))).join (m:=a) (fun p q f g i=>?_) fun p q f g i j=>t1 p q f g i (by omega),hs.asc h.hi (.inr (by omega)),fun p q f g i j=>?_,t2,fun _ k f g=>up k (by omega) g⟩
 ·by_cases e:q=mid
  ·subst e;exact below p f g
  ·exact ha p q f g (by omega)
 ·by_cases s:b<=q
  ·exact t2 p q f (by omega) s j
  ·by_cases t:p<a
   ·exact t1 p q f t (by omega) j
   ·have u:=up q (by omega) (by omega);by_cases e:p=mid
    ·subst e;exact u
    ·exact ho.tr _ _ _ u (below p (by omega) (by omega))
theorem PQ.right (ho:Ord c)(h:PQ c d l0 l a0 b0 a b)(hm:a<=mid)(hm':mid<b)(h1:∀k,a<=k->k<mid->c (l.getD k d) (l.getD mid d)<0)(h2:∀k,mid<k->k<b->¬c (l.getD k d) (l.getD mid d)<0)
  (hs:re d l m (mid+1) b)(ha:wH c d m (mid+1) b):PQ c d l0 m a0 b0 a mid:=by
 have s:=h.ha;have r:=h.hb;have em:m.getD mid d=l.getD mid d:=hs.out mid (by omega)
 have up:∀q,mid<q->q<b->¬c (m.getD q d) (m.getD mid d)<0:=fun q g f=>by
  obtain ⟨t,i,j,e⟩:=hs.mem q (by omega) f;rw [em,e];exact h2 t (by omega) j
 have below:∀k,a<=k->k<mid->¬c (m.getD mid d) (m.getD k d)<0:=fun k g f=>by
  rw [em,hs.out k (by omega)];exact ho.Om _ _ (h1 k g f)
 have t1:=hs.sep h.s1 (.inr (.inl ⟨by omega,r⟩));have t2:=hs.sep h.s2 (.inl ⟨by omega,Nat.le_refl _⟩);have t3:=hs.asc h.hi (.inr (Nat.le_refl _));refine ⟨h.Rx.trans (hs.wide (by omega) r),s,hm,by omega,hs.asc h.lo (.inl (by omega)),fun p q g f i=>?_,t1,fun p q g f i j=>?_,fun v k g f=>?_⟩
 ·by_cases n:q<b
  ·by_cases e:p=mid
   ·subst e;exact up q f n
   ·exact ha p q (by omega) f n
  ·by_cases o:p<b
   ·exact t2 p q (by omega) o (by omega) i
   ·exact t3 p q (by omega) f i
 ·by_cases n:b<=q
  ·exact t2 p q g (by omega) n j
  ·by_cases o:p<a
   ·exact t1 p q g o (by omega) j
   ·have u:=below p (by omega) f;by_cases e:q=mid
    ·subst e;exact u
    ·exact ho.tr _ _ _ (up q (by omega) (by omega)) u
 ·rw [hs.out k (by omega),hs.out (a-1) (by omega)];exact h.pre v k g (by omega)
structure HQ (c:α->α->Int) (d:α) (l:List α) (f i n:Nat):Prop where
 hp:Hp c d l f 0 i none
 asc:wH c d l (f+i) (f+n)
 sep:Sep c d l f (f+i) (f+n)
theorem HQ.start {f n:Nat}(h:Hp c d l f 0 n none):HQ c d l f n n:=⟨h,.short (by omega),fun p q a b e g=>by omega⟩
theorem HQ.step (ho:Ord c){f k n:Nat}(h:HQ c d l f (k+1) n)(hk:k+1<=n)(hl:f+n<=l.length)(hs:re d (rR d l f (f+k)) m f (f+k))(hm:Hp c d m f 0 k none):HQ c d m f k n:=by
 have a:=fun x=>nN (d:=d) (l:=l) (i:=f) (j:=f+k) (k:=x) (by omega) (by omega);have out:∀q,f+k<q->m.getD q d=l.getD q d:=fun q u=>by rw [hs.out q (by omega),a,if_neg (by omega),if_neg (by omega)]
 have top:m.getD (f+k) d=l.getD f d:=by rw [hs.out (f+k) (by omega),a,if_pos rfl]
 refine ⟨hm,fun p q r b g=>?_,fun p q r b g s=>?_⟩
 ·rw [out q (by omega)];by_cases e:p=f+k
  ·rw [e,top];exact h.sep f q (Nat.le_refl _) (by omega) (by omega) g
  ·rw [out p (by omega)];exact h.asc p q (by omega) b g
 ·have hp:∃j,j<k+1/\m.getD p d=l.getD (f+j) d:=by
   obtain ⟨o,v,w,e⟩:=hs.mem p r b;rw [e,a,if_neg (by omega)];split
   ·exact ⟨k,by omega,rfl⟩
   ·exact ⟨o-f,by omega,by rw [show f+(o-f)=o by omega]⟩
  obtain ⟨j,t,e⟩:=hp;rw [e];by_cases eq:q=f+k
  ·rw [eq,top];exact h.hp.top ho j t
  ·rw [out q (by omega)];exact h.sep (f+j) q (by omega) (by omega) (by omega) s
theorem HQ.fin {f n:Nat}(h:HQ c d l f 0 n):wH c d l f (f+n):=by have:=h.asc;simpa using this
structure PT (P:α->Prop) (d:α) (l:List α) (a b i j:Nat):Prop where
 hi:a<i
 KL:i<=j+1
 hj:j<b
 lo:∀k,a<k->k<i->P (l.getD k d)
 up:∀k,j<k->k<b->¬P (l.getD k d)
variable {P:α->Prop} {i j:Nat}
theorem PT.start (h:a+1<b):PT P d l a b (a+1) (b-1):=⟨by omega,by omega,by omega,fun k c e=>by omega,fun k c e=>by omega⟩
theorem PT.swap (h:PT P d l a b i j)(KL:i<=j)(hl:b<=l.length)(h1:¬P (l.getD i d))(h2:P (l.getD j d)):PT P d (rR d l i j) a b (i+1) (j-1)/\(rR d l i j).getD a d=l.getD a d/\re d l (rR d l i j) a b:=by
 have n:=h.hi;have m:=h.hj;have ne:i≠j:=fun e=>h1 (e▸h2);have c:=fun x=>nN (d:=d) (l:=l) (i:=i) (j:=j) (k:=x) (by omega) (by omega);refine ⟨⟨by omega,by omega,by omega,fun k f g=>?_,fun k f g=>?_⟩,by rw [c,if_neg (by omega),if_neg (by omega)],re.rR (by omega) (by omega) (by omega) m hl⟩
 ·rw [c,if_neg (by omega)];by_cases e:k=i
  ·rw [if_pos e];exact h2
  ·rw [if_neg e];exact h.lo k f (by omega)
 ·rw [c];by_cases e:k=j
  ·rw [if_pos e];exact h1
  ·rw [if_neg e,if_neg (by omega)];exact h.up k (by omega) g
theorem PT.fin (ho:Ord c)(h:PT (fun x=>c x (l.getD a d)<0) d l a b i j)(KL:¬i<=j)(hl:b<=l.length):re d l (rR d l j a) a b/\a<=j/\j<b /\
  (∀k,a<=k->k<j->c ((rR d l j a).getD k d) ((rR d l j a).getD j d)<0)/\(∀k,j<k->k<b->¬c ((rR d l j a).getD k d) ((rR d l j a).getD j d)<0):=by
 have p:=h.hi;have q:=h.KL;have g:=h.hj;have f:=fun x=>nN (d:=d) (l:=l) (i:=j) (j:=a) (k:=x) (by omega) (by omega)
 have m:(rR d l j a).getD j d=l.getD a d:=by
  rw [f];by_cases e:j=a
  ·rw [if_pos e,e]
  ·rw [if_neg e,if_pos rfl]
 refine ⟨re.rR (by omega) g (Nat.le_refl _) (by omega) hl,by omega,g,fun k n o=>?_,fun k n o=>?_⟩
 ·rw [m,f];by_cases e:k=a
  ·rw [if_pos e];exact h.lo j (by omega) (by omega)
  ·rw [if_neg e,if_neg (by omega)];exact h.lo k (by omega) (by omega)
 ·rw [m,f,if_neg (by omega),if_neg (by omega)];exact h.up k n o
end
end Go.Proofs.Tryz
namespace Go.Proofs.Tryz
open Go.Eng Go.Big
structure LQ (V:View) (n:Nat) (vs:List Value) (l:List L3):Prop where
 row:Row 9 J6 V vs l
 len:n=l.length
 Pa:l.length<50
theorem LQ.le {V V':View}{n:Nat}{vs:List Value}{l:List L3}(h:LQ V n vs l)(e:V.Le V'):LQ V' n vs l:=⟨h.row.le fun _ _ g=>J6.le g e,h.len,h.Pa⟩
theorem LQ.get {V:View}{n:Nat}{vs:List Value}{l:List L3}(h:LQ V n vs l){k:Nat}(hk:k<l.length):∃(x y:Int)(p:OA)(xb yb:Int)(pb:OA)(xc yc:Int)(pc:OA),
  ((0+k*9)+9<=vs.length/\(vs.drop (0+k*9)).take 9=[.int .i64 x,.int .i64 y,.pointer p,.int .i64 xb,.int .i64 yb,.pointer pb,.int .i64 xc,.int .i64 yc,.pointer pc])/\J6 V (.agg #[.int .i64 x,.int .i64 y,.pointer p,.int .i64 xb,.int .i64 yb,.pointer pb,.int .i64 xc,.int .i64 yc,.pointer pc]) (l.getD k MZ):=by
 obtain ⟨xs,-,b,c,f⟩:=h.row.get (d:=MZ) hk (by decide);have a:=b;obtain ⟨x,y,p,xb,yb,pb,xc,yc,pc,e⟩:=b.shape;have e:=congrArg Array.toList (Value.agg.inj e);dsimp only at e;subst e;rw [Nat.zero_add];exact ⟨x,y,p,xb,yb,pb,xc,yc,pc,⟨c,f⟩,a⟩
theorem LQ.swap {V:View}{n:Nat}{vs:List Value}{l:List L3}(h:LQ V n vs l){i j:Nat}(hi:i<l.length)(hj:j<l.length){x y:Int}{p:OA}{xb yb:Int}{pb:OA}{xc yc:Int}{pc:OA}{x' y':Int}{p':OA}{Ob Oc:Int}{pb':OA}{LI U4:Int}{pc':OA}
  (h1:J6 V (.agg #[.int .i64 x,.int .i64 y,.pointer p,.int .i64 xb,.int .i64 yb,.pointer pb,.int .i64 xc,.int .i64 yc,.pointer pc]) (l.getD i MZ))(h2:J6 V (.agg #[.int .i64 x',.int .i64 y',.pointer p',.int .i64 Ob,.int .i64 Oc,.pointer pb',.int .i64 LI,.int .i64 U4,.pointer pc']) (l.getD j MZ)) :
  (0+i*9)+9<=vs.length/\(0+j*9)+9<=(cI vs (0+i*9) [.int .i64 x',.int .i64 y',.pointer p',.int .i64 Ob,.int .i64 Oc,.pointer pb',.int .i64 LI,.int .i64 U4,.pointer pc']).length /\
  LQ V n (cI (cI vs (0+i*9) [.int .i64 x',.int .i64 y',.pointer p',.int .i64 Ob,.int .i64 Oc,.pointer pb',.int .i64 LI,.int .i64 U4,.pointer pc']) (0+j*9) [.int .i64 x,.int .i64 y,.pointer p,.int .i64 xb,.int .i64 yb,.pointer pb,.int .i64 xc,.int .i64 yc,.pointer pc]) (rR MZ l i j):=by
 obtain ⟨-,-,-,a,-⟩:=h.row.get (d:=MZ) hi (by decide);obtain ⟨-,-,-,b,-⟩:=h.row.get (d:=MZ) hj (by decide);rw [Nat.zero_add,Nat.zero_add];refine ⟨a,by rw [rQ (by exact a)];exact b,h.row.swap hi hj (by decide) rfl rfl h1 h2,by rw [pJ];exact h.len,by rw [pJ];exact h.Pa⟩
def cV (l:L3):L3:=if l.1<0\/l.1=0/\l.2.1<0 then revL l else l
def Tr.wZ:Tr->List L3
 | .leaf _=>[]
 | .node l a b=>l::(a.wZ++b.wZ)
theorem mC:∀t:Tr,t.wZ.length=t.size
 | .leaf _=>rfl
 | .node _ a b=>by simp only [Tr.wZ,List.length_cons,List.length_append,mC a,mC b,Tr.size]
theorem mB {p:L3->Prop}:∀{t:Tr},t.All p->∀x∈t.wZ,p x
 | .leaf _,_,x,h=>by cases h
 | .node l a b,⟨h1,h2,h3⟩,x,h=>by
  rcases List.mem_cons.1 h with rfl|h
  ·exact h1
  ·rcases List.mem_append.1 h with h|h
   ·exact mB h2 x h
   ·exact mB h3 x h
theorem Bd.rev {l:L3}(h:Bd l):Bd (revL l):=by
 obtain ⟨a,b,c⟩:=h;unfold Bd revL;simp only [Int.natAbs_neg];exact ⟨a,b,c⟩
theorem Bd.can {l:L3}(h:Bd l):Bd (cV l):=by
 unfold cV;split
 ·exact h.rev
 ·exact h
theorem Bd.szl {l:L3}(h:Bd l):kX 1000 l:=⟨h.sz.1,h.sz.2.1,h.sz.2.2⟩
def lnS:List Tr->List L3
 | []=>[]
 | t::r=>t.wZ.map cV++lnS r
end Go.Proofs.Tryz
