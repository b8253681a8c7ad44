import Derived.Test.YtapnijmlbakblaaGreatDoorS14
import Derived.Test.YtapnijmlbakblaaGreatDoorS8
import Derived.Test.YtapnijmlbakblaaGreatDoorS9
import Derived.Test.YtapnijmlbakblaaGreatDoorS13
set_option linter.unusedVariables false
open Go.IntKind (i64 u64 u32)
namespace Go.Proofs.Tryz
open Go.Eng Go.Big
theorem uW {V:View}{v:Value}{q:Rat}(h:RQ V v q){k:Nat}(_s:Sz k q)(_hk:k<=1099511627776):ae prog 80 #[v] V fun r V'=>RQ V' r (-q):=by
 obtain ⟨p,n,c,d,e,f,rfl,a,b⟩:=h;exact mV q a b
theorem bf {V:View}{z:Int}{p:OA}{n c:Nat}(h:RD V p n c (ai z.natAbs)){k:Nat}(_s:Sz k (z:Rat))(_hk:k<=1099511627776) :
  ae prog 102 #[.agg #[.bool (decide (z<0)),.slice p n c]] V fun r V'=>RQ V' r (z:Rat):=Hq z h
theorem lZ {V:View}{l:Value}{bI l_1 cJ:Int}(hl:RL V l bI l_1 cJ){k:Nat}(bd:Sz k ((bI:Int):Rat))(bg:Sz k ((l_1:Int):Rat))(aX:Sz k ((cJ:Int):Rat))(hk:1*k+1<274877906944) :
  ae prog 49 #[l] V fun r V'=>RP V' r (((l_1:Int):Rat)) (-(((bI:Int):Rat))):=by
 have p:=hl;obtain ⟨q,a,e,b,f,c,g,d,s,rfl,t,u,x⟩:=hl;refine BR _ q a e _ b f c _ g d s V _ fun y a=>(bf (u.le (a)) bg (by omega)).mono ?_;rintro r V2 e j;have h:=j;obtain ⟨z,A,B,C,D,E,rfl⟩:=j.shape;refine ⟨_,_,_,_,_,_,_,rfl,fun F b=>(bf (t.le (a.trans (e.trans (b)))) bd (by omega)).mono ?_⟩;rintro r G f n;have i:=n;obtain ⟨H,I,J,K,L,M,rfl⟩:=n.shape;have v:=Sz.mono (m:=1*k+0) (bd) (by omega);refine ⟨_,_,_,_,_,_,_,rfl,fun N c=>(uW (i.le (c)) v (by omega)).mono ?_⟩;rintro r O g o;have w:=o;obtain ⟨P,Q,R,S,T,U,rfl⟩:=o.shape;exact ⟨_,_,_,_,_,_,_,rfl,fun W d=>⟨_,_,_,_,_,_,_,_,_,_,_,_,rfl,(h.le (b.trans (f.trans (c.trans (g.trans (d)))))),(w.le (d))⟩⟩
theorem eZ {bI:Int}{l_1:Int}{cJ:Int}{k:Nat}(bd:Sz k ((bI:Int):Rat))(bg:Sz k ((l_1:Int):Rat))(aX:Sz k ((cJ:Int):Rat)):Sz (1*k+0) (((l_1:Int):Rat)):=by
 have a:=Sz.mono (m:=1*k+0) (bg) (by omega);exact Sz.mono a (by omega)
theorem e_ {bI:Int}{l_1:Int}{cJ:Int}{k:Nat}(bd:Sz k ((bI:Int):Rat))(bg:Sz k ((l_1:Int):Rat))(aX:Sz k ((cJ:Int):Rat)):Sz (1*k+0) (-(((bI:Int):Rat))):=by
 have a:=Sz.mono (m:=1*k+0) (bd) (by omega);have b:=Sz.mono (m:=1*k+0) (Sz.neg a) (by omega);exact Sz.mono b (by omega)
theorem l_ {V:View}{p:Value}{eo eu:Rat}{q:Value}{sP sQ:Rat}(hp:RP V p eo eu)(hq:RP V q sP sQ){k:Nat}(dj:Sz k eo)(c_:Sz k eu)(nO:Sz k sP)(nP:Sz k sQ)(hk:4*k+3<274877906944) :
  ae prog 103 #[p,q] V fun r V'=>RQ V' r (((eo)*(sP))+((eu)*(sQ))):=by
 have l:=hp;obtain ⟨n,o,s,t,u,v,w,x,y,z,A,B,rfl,C,D⟩:=hp;have E:=hq;obtain ⟨F,G,H,I,J,K,L,M,N,O,P,b,rfl,Q,R⟩:=hq;refine BS _ n o s t u v _ w x y z A B _ F G H I J K _ L M N O P b V _ fun Y a=>(aV (C.le (a)) (Q.le (a)) dj nO (by omega)).mono ?_;rintro r V2 f g;have c:=g;obtain ⟨Z,M7,M8,Y5,Y6,Y7,rfl⟩:=g.shape;have S:=Sz.mono (m:=2*k+1) (Sz.mul dj nO) (by omega);refine ⟨_,_,_,_,_,_,_,rfl,fun V3 d=>(aV (D.le (a.trans (f.trans (d)))) (R.le (a.trans (f.trans (d)))) c_ nP (by omega)).mono ?_⟩;rintro r V4 T h;have e:=h;obtain ⟨Ix,Iy,Iz,TL,TM,TN,rfl⟩:=h.shape;have U:=Sz.mono (m:=2*k+1) (Sz.mul c_ nP) (by omega);refine ⟨_,_,_,_,_,_,_,rfl,fun V5 i=>(cC (c.le (d.trans (T.trans (i)))) (e.le (i)) S U (by omega)).mono ?_⟩;rintro r V6 l6 j;have W:=j;obtain ⟨M9,M_,Na,TO,TP,TQ,rfl⟩:=j.shape;exact ⟨_,_,_,_,_,_,_,rfl,fun V7 X=>(W.le (X))⟩
theorem fe {eo:Rat}{eu:Rat}{sP:Rat}{sQ:Rat}{k:Nat}(dj:Sz k eo)(c_:Sz k eu)(nO:Sz k sP)(nP:Sz k sQ):Sz (4*k+3) (((eo)*(sP))+((eu)*(sQ))):=by
 have a:=Sz.mono (m:=2*k+1) (Sz.mul dj nO) (by omega);have b:=Sz.mono (m:=2*k+1) (Sz.mul c_ nP) (by omega);have c:=Sz.mono (m:=4*k+3) (Sz.add a b) (by omega);exact Sz.mono c (by omega)
theorem xS {V:View}{l:Value}{bI l_1 cJ:Int}{p:Value}{eo eu:Rat}(hl:RL V l bI l_1 cJ)(hp:RP V p eo eu){k:Nat}(bd:Sz k ((bI:Int):Rat))(bg:Sz k ((l_1:Int):Rat))(aX:Sz k ((cJ:Int):Rat))(dj:Sz k eo)(c_:Sz k eu)(hk:5*k+4<274877906944) :
  ae prog 120 #[l,p] V fun r V'=>RQ V' r ((((((bI:Int):Rat))*(eo))+((((l_1:Int):Rat))*(eu)))+(((cJ:Int):Rat))):=by
 have E:=hl;obtain ⟨F,a,c,b,f,d,g,e,h,rfl,G,H,I⟩:=hl;have J:=hp;obtain ⟨K,L,M,N,O,P,Q,R,S,T,U,W,rfl,X,Y⟩:=hp;refine xh _ F a c _ b f d _ g e h _ K L M N O P _ Q R S T U W V _ fun V1 a=>(bf (G.le (a)) bd (by omega)).mono ?_;rintro r V2 c q;have i:=q;obtain ⟨M6,M7,M8,Y5,Y6,Y7,rfl⟩:=q.shape;have s:=Sz.mono (m:=1*k+0) (bd) (by omega);refine ⟨_,_,_,_,_,_,_,rfl,fun V3 b=>(aV (i.le (b)) (X.le (a.trans (c.trans (b)))) s dj (by omega)).mono ?_⟩;rintro r V4 f t;have j:=t;obtain ⟨Ix,Iy,Iz,TL,TM,TN,rfl⟩:=t.shape;have u:=Sz.mono (m:=2*k+1) (Sz.mul s dj) (by omega);refine ⟨_,_,_,_,_,_,_,rfl,fun V5 d=>(bf (H.le (a.trans (c.trans (b.trans (f.trans (d)))))) bg (by omega)).mono ?_⟩;rintro r V6 g v;have Z:=v;obtain ⟨M9,M_,Na,TO,TP,TQ,rfl⟩:=v.shape;have w:=Sz.mono (m:=1*k+0) (bg) (by omega);refine ⟨_,_,_,_,_,_,_,rfl,fun V7 e=>(aV (Z.le (e)) (Y.le (a.trans (c.trans (b.trans (f.trans (d.trans (g.trans (e)))))))) w c_ (by omega)).mono ?_⟩;rintro r V8 h x;have Gp:=x;obtain ⟨TR,TS,TT,Zb,Zc,Zd,rfl⟩:=x.shape;have y:=Sz.mono (m:=2*k+1) (Sz.mul w c_) (by omega);refine ⟨_,_,_,_,_,_,_,rfl,fun V9 n=>(cC (j.le (d.trans (g.trans (e.trans (h.trans (n)))))) (Gp.le (n)) u y (by omega)).mono ?_⟩;rintro r gu o z;have ya:=z;obtain ⟨a0,a1,a2,a3,a4,a5,rfl⟩:=z.shape;have yV:=Sz.mono (m:=4*k+3) (Sz.add u y) (by omega);refine ⟨_,_,_,_,_,_,_,rfl,fun fg A=>(bf (I.le (a.trans (c.trans (b.trans (f.trans (d.trans (g.trans (e.trans (h.trans (n.trans (o.trans (A)))))))))))) aX (by omega)).mono ?_⟩;rintro r ib cu B;have OU:=B;obtain ⟨a6,a7,a8,a9,b0,b5,rfl⟩:=B.shape;have K8:=Sz.mono (m:=1*k+0) (aX) (by omega);refine ⟨_,_,_,_,_,_,_,rfl,fun lG C=>(cC (ya.le (A.trans (cu.trans (C)))) (OU.le (C)) yV K8 (by omega)).mono ?_⟩;rintro r j8 dF D;have OV:=D;obtain ⟨b6,b7,b8,b9,c0,c1,rfl⟩:=D.shape;exact ⟨_,_,_,_,_,_,_,rfl,fun kK dw=>(OV.le (dw))⟩
theorem xQ {V:View}{l:Value}{bI l_1 cJ:Int}{p:Value}{eo eu:Rat}(hl:RL V l bI l_1 cJ)(hp:RP V p eo eu)(hd0:((((((l_1:Int):Rat)))*((((l_1:Int):Rat))))+(((-(((bI:Int):Rat))))*((-(((bI:Int):Rat)))))).num≠0){k:Nat}(bd:Sz k ((bI:Int):Rat))(bg:Sz k ((l_1:Int):Rat))(aX:Sz k ((cJ:Int):Rat))(dj:Sz k eo)(c_:Sz k eu)(hk:8*k+7<274877906944) :
  ae prog 61 #[l,p] V fun r V'=>RQ V' r ((((eo)*((((l_1:Int):Rat))))+((eu)*((-(((bI:Int):Rat))))))*((((((l_1:Int):Rat)))*((((l_1:Int):Rat))))+(((-(((bI:Int):Rat))))*((-(((bI:Int):Rat))))))⁻¹):=by
 have i:=hl;obtain ⟨x,f,j,b,g,e,n,h,s,rfl,P,Q,R⟩:=hl;have o:=hp;obtain ⟨y,z,A,B,C,D,E,F,G,H,I,J,rfl,S,T⟩:=hp;refine xf _ x f j _ b g e _ n h s _ y z A B C D _ E F G H I J V _ fun U f=>(lZ (i.le (f)) (Sz.mono bd (by omega):Sz (1*k+0) _) (Sz.mono bg (by omega):Sz (1*k+0) _) (Sz.mono aX (by omega):Sz (1*k+0) _) (by omega)).mono ?_;rintro r V2 j t;have a:=t;obtain ⟨W,X,Y,Z,Ij,Ik,SX,SY,SZ,S0,Oa,Ob,rfl,HB,HC⟩:=t;have c:=Sz.mono (m:=1*k+0) ((eZ (Sz.mono bd (by omega):Sz (1*k+0) _) (Sz.mono bg (by omega):Sz (1*k+0) _) (Sz.mono aX (by omega):Sz (1*k+0) _))) (by omega);have d:=Sz.mono (m:=1*k+0) ((e_ (Sz.mono bd (by omega):Sz (1*k+0) _) (Sz.mono bg (by omega):Sz (1*k+0) _) (Sz.mono aX (by omega):Sz (1*k+0) _))) (by omega);refine ⟨_,_,_,_,_,_,_,_,_,_,_,_,_,_,rfl,fun V3 b=>(l_ (o.le (f.trans (j.trans (b)))) (a.le (b)) (Sz.mono dj (by omega):Sz (1*k+0) _) (Sz.mono c_ (by omega):Sz (1*k+0) _) (Sz.mono c (by omega):Sz (1*k+0) _) (Sz.mono d (by omega):Sz (1*k+0) _) (by omega)).mono ?_⟩;rintro r V4 g u;have q:=u;obtain ⟨Ix,Iy,Iz,TL,TM,TN,rfl⟩:=u.shape;have K:=Sz.mono (m:=4*k+3) ((fe (Sz.mono dj (by omega):Sz (1*k+0) _) (Sz.mono c_ (by omega):Sz (1*k+0) _) (Sz.mono c (by omega):Sz (1*k+0) _) (Sz.mono d (by omega):Sz (1*k+0) _))) (by omega);refine ⟨_,_,_,_,_,_,_,rfl,fun V5 e=>(l_ (a.le (b.trans (g.trans (e)))) (a.le (b.trans (g.trans (e)))) (Sz.mono c (by omega):Sz (1*k+0) _) (Sz.mono d (by omega):Sz (1*k+0) _) (Sz.mono c (by omega):Sz (1*k+0) _) (Sz.mono d (by omega):Sz (1*k+0) _) (by omega)).mono ?_⟩;rintro r V6 n v;have L:=v;obtain ⟨M9,M_,Na,TO,TP,TQ,rfl⟩:=v.shape;have M:=Sz.mono (m:=4*k+3) ((fe (Sz.mono c (by omega):Sz (1*k+0) _) (Sz.mono d (by omega):Sz (1*k+0) _) (Sz.mono c (by omega):Sz (1*k+0) _) (Sz.mono d (by omega):Sz (1*k+0) _))) (by omega);refine ⟨_,_,_,_,_,_,_,rfl,fun V7 h=>(iR (q.le (e.trans (n.trans (h)))) (L.le (h)) hd0 K M (by omega)).mono ?_⟩;rintro r V8 s w;have N:=w;obtain ⟨TR,TS,TT,Zb,Zc,Zd,rfl⟩:=w.shape;exact ⟨_,_,_,_,_,_,_,rfl,fun V9 O=>(N.le (O))⟩
theorem pI {V:View}{l:Value}{bI l_1 cJ:Int}(hl:RL V l bI l_1 cJ)(hd0:((((((l_1:Int):Rat)))*((((l_1:Int):Rat))))+(((-(((bI:Int):Rat))))*((-(((bI:Int):Rat)))))).num≠0){k:Nat}(bd:Sz k ((bI:Int):Rat))(bg:Sz k ((l_1:Int):Rat))(aX:Sz k ((cJ:Int):Rat))(hk:6*k+5<274877906944) :
  ae prog 48 #[l] V fun r V'=>RP V' r ((-((((cJ:Int):Rat))*((((((l_1:Int):Rat)))*((((l_1:Int):Rat))))+(((-(((bI:Int):Rat))))*((-(((bI:Int):Rat))))))⁻¹))*(((bI:Int):Rat))) ((-((((cJ:Int):Rat))*((((((l_1:Int):Rat)))*((((l_1:Int):Rat))))+(((-(((bI:Int):Rat))))*((-(((bI:Int):Rat))))))⁻¹))*(((l_1:Int):Rat))):=by
 have s:=hl;obtain ⟨Q,c,f,a,d,b,g,e,j,rfl,R,S,T⟩:=hl;refine yK _ Q c f _ a d b _ g e j V _ fun V1 c=>(lZ (s.le (c)) (Sz.mono bd (by omega):Sz (1*k+0) _) (Sz.mono bg (by omega):Sz (1*k+0) _) (Sz.mono aX (by omega):Sz (1*k+0) _) (by omega)).mono ?_;rintro r V2 f z;have h:=z;obtain ⟨Ie,Ig,Ih,Ii,Ij,Ik,SX,SY,SZ,S0,Oa,Ob,rfl,HB,HC⟩:=z;have n:=Sz.mono (m:=1*k+0) ((eZ (Sz.mono bd (by omega):Sz (1*k+0) _) (Sz.mono bg (by omega):Sz (1*k+0) _) (Sz.mono aX (by omega):Sz (1*k+0) _))) (by omega);have o:=Sz.mono (m:=1*k+0) ((e_ (Sz.mono bd (by omega):Sz (1*k+0) _) (Sz.mono bg (by omega):Sz (1*k+0) _) (Sz.mono aX (by omega):Sz (1*k+0) _))) (by omega);refine ⟨_,_,_,_,_,_,_,_,_,_,_,_,_,_,rfl,fun V3 a=>(bf (T.le (c.trans (f.trans (a)))) aX (by omega)).mono ?_⟩;rintro r V4 d A;have t:=A;obtain ⟨Ix,Iy,Iz,TL,TM,TN,rfl⟩:=A.shape;have B:=Sz.mono (m:=1*k+0) (aX) (by omega);refine ⟨_,_,_,_,_,_,_,rfl,fun V5 b=>(l_ (h.le (a.trans (d.trans (b)))) (h.le (a.trans (d.trans (b)))) (Sz.mono n (by omega):Sz (1*k+0) _) (Sz.mono o (by omega):Sz (1*k+0) _) (Sz.mono n (by omega):Sz (1*k+0) _) (Sz.mono o (by omega):Sz (1*k+0) _) (by omega)).mono ?_⟩;rintro r V6 g C;have U:=C;obtain ⟨M9,M_,Na,TO,TP,TQ,rfl⟩:=C.shape;have D:=Sz.mono (m:=4*k+3) ((fe (Sz.mono n (by omega):Sz (1*k+0) _) (Sz.mono o (by omega):Sz (1*k+0) _) (Sz.mono n (by omega):Sz (1*k+0) _) (Sz.mono o (by omega):Sz (1*k+0) _))) (by omega);refine ⟨_,_,_,_,_,_,_,rfl,fun V7 e=>(iR (t.le (b.trans (g.trans (e)))) (U.le (e)) hd0 B D (by omega)).mono ?_⟩;rintro r V8 j E;have W:=E;obtain ⟨TR,TS,TT,Zb,Zc,Zd,rfl⟩:=E.shape;have F:=Sz.mono (m:=5*k+4) (Sz.mul B (fE D)) (by omega);refine ⟨_,_,_,_,_,_,_,rfl,fun V9 u=>(uW (W.le (u)) F (by omega)).mono ?_⟩;rintro r gu i G;have H:=G;obtain ⟨X,Y,Z,a0,a1,a2,rfl⟩:=G.shape;have I:=Sz.mono (m:=5*k+4) (Sz.neg F) (by omega);refine ⟨_,_,_,_,_,_,_,rfl,fun fg p=>(bf (R.le (c.trans (f.trans (a.trans (d.trans (b.trans (g.trans (e.trans (j.trans (u.trans (i.trans (p)))))))))))) bd (by omega)).mono ?_⟩;rintro r ib v J;have OU:=J;obtain ⟨a3,a4,a5,a6,a7,a8,rfl⟩:=J.shape;have K8:=Sz.mono (m:=1*k+0) (bd) (by omega);refine ⟨_,_,_,_,_,_,_,rfl,fun lG q=>(aV (H.le (p.trans (v.trans (q)))) (OU.le (q)) I K8 (by omega)).mono ?_⟩;rintro r j8 K L;have OV:=L;obtain ⟨a9,b0,b5,b6,b7,b8,rfl⟩:=L.shape;refine ⟨_,_,_,_,_,_,_,rfl,fun kK w=>(bf (S.le (c.trans (f.trans (a.trans (d.trans (b.trans (g.trans (e.trans (j.trans (u.trans (i.trans (p.trans (v.trans (q.trans (K.trans (w)))))))))))))))) bg (by omega)).mono ?_⟩;rintro r mS M N;have OW:=N;obtain ⟨b9,c0,c1,c2,c3,c4,rfl⟩:=N.shape;have P1:=Sz.mono (m:=1*k+0) (bg) (by omega);refine ⟨_,_,_,_,_,_,_,rfl,fun pk x=>(aV (H.le (p.trans (v.trans (q.trans (K.trans (w.trans (M.trans (x)))))))) (OW.le (x)) I P1 (by omega)).mono ?_⟩;rintro r uC d_ O;have y:=O;obtain ⟨c5,c6,c7,c8,c9,d0,rfl⟩:=O.shape;exact ⟨_,_,_,_,_,_,_,rfl,fun uD P=>⟨_,_,_,_,_,_,_,_,_,_,_,_,rfl,(OV.le (w.trans (M.trans (x.trans (d_.trans (P)))))),(y.le (P))⟩⟩
theorem xp {bI:Int}{l_1:Int}{cJ:Int}{k:Nat}(bd:Sz k ((bI:Int):Rat))(bg:Sz k ((l_1:Int):Rat))(aX:Sz k ((cJ:Int):Rat)):Sz (6*k+5) ((-((((cJ:Int):Rat))*((((((l_1:Int):Rat)))*((((l_1:Int):Rat))))+(((-(((bI:Int):Rat))))*((-(((bI:Int):Rat))))))⁻¹))*(((bI:Int):Rat))):=by
 have a:=Sz.mono (m:=1*k+0) ((eZ (Sz.mono bd (by omega):Sz (1*k+0) _) (Sz.mono bg (by omega):Sz (1*k+0) _) (Sz.mono aX (by omega):Sz (1*k+0) _))) (by omega);have b:=Sz.mono (m:=1*k+0) ((e_ (Sz.mono bd (by omega):Sz (1*k+0) _) (Sz.mono bg (by omega):Sz (1*k+0) _) (Sz.mono aX (by omega):Sz (1*k+0) _))) (by omega);have c:=Sz.mono (m:=1*k+0) (aX) (by omega);have d:=Sz.mono (m:=4*k+3) ((fe (Sz.mono a (by omega):Sz (1*k+0) _) (Sz.mono b (by omega):Sz (1*k+0) _) (Sz.mono a (by omega):Sz (1*k+0) _) (Sz.mono b (by omega):Sz (1*k+0) _))) (by omega);have e:=Sz.mono (m:=5*k+4) (Sz.mul c (fE d)) (by omega);have f:=Sz.mono (m:=5*k+4) (Sz.neg e) (by omega);have g:=Sz.mono (m:=1*k+0) (bd) (by omega);have h:=Sz.mono (m:=6*k+5) (Sz.mul f g) (by omega);exact Sz.mono h (by omega)
theorem xq {bI:Int}{l_1:Int}{cJ:Int}{k:Nat}(bd:Sz k ((bI:Int):Rat))(bg:Sz k ((l_1:Int):Rat))(aX:Sz k ((cJ:Int):Rat)):Sz (6*k+5) ((-((((cJ:Int):Rat))*((((((l_1:Int):Rat)))*((((l_1:Int):Rat))))+(((-(((bI:Int):Rat))))*((-(((bI:Int):Rat))))))⁻¹))*(((l_1:Int):Rat))):=by
 have a:=Sz.mono (m:=1*k+0) ((eZ (Sz.mono bd (by omega):Sz (1*k+0) _) (Sz.mono bg (by omega):Sz (1*k+0) _) (Sz.mono aX (by omega):Sz (1*k+0) _))) (by omega);have b:=Sz.mono (m:=1*k+0) ((e_ (Sz.mono bd (by omega):Sz (1*k+0) _) (Sz.mono bg (by omega):Sz (1*k+0) _) (Sz.mono aX (by omega):Sz (1*k+0) _))) (by omega);have c:=Sz.mono (m:=1*k+0) (aX) (by omega);have d:=Sz.mono (m:=4*k+3) ((fe (Sz.mono a (by omega):Sz (1*k+0) _) (Sz.mono b (by omega):Sz (1*k+0) _) (Sz.mono a (by omega):Sz (1*k+0) _) (Sz.mono b (by omega):Sz (1*k+0) _))) (by omega);have e:=Sz.mono (m:=5*k+4) (Sz.mul c (fE d)) (by omega);have f:=Sz.mono (m:=5*k+4) (Sz.neg e) (by omega);have g:=Sz.mono (m:=1*k+0) (bg) (by omega);have h:=Sz.mono (m:=6*k+5) (Sz.mul f g) (by omega);exact Sz.mono h (by omega)
theorem EL {V:View}{l:Value}{bI l_1 cJ:Int}{t:Value}{FG:Rat}(hl:RL V l bI l_1 cJ)(ht:RQ V t FG)(hd0:((((((l_1:Int):Rat)))*((((l_1:Int):Rat))))+(((-(((bI:Int):Rat))))*((-(((bI:Int):Rat)))))).num≠0){k:Nat}(bd:Sz k ((bI:Int):Rat))(bg:Sz k ((l_1:Int):Rat))(aX:Sz k ((cJ:Int):Rat))(wE:Sz k FG)(hk:18*k+16<274877906944) :
  ae prog 17 #[l,t] V fun r V'=>RP V' r (((-((((cJ:Int):Rat))*((((((l_1:Int):Rat)))*((((l_1:Int):Rat))))+(((-(((bI:Int):Rat))))*((-(((bI:Int):Rat))))))⁻¹))*(((bI:Int):Rat)))+(FG)*(((l_1:Int):Rat))) (((-((((cJ:Int):Rat))*((((((l_1:Int):Rat)))*((((l_1:Int):Rat))))+(((-(((bI:Int):Rat))))*((-(((bI:Int):Rat))))))⁻¹))*(((l_1:Int):Rat)))+(FG)*(-(((bI:Int):Rat)))):=by
 have a:=hl;obtain ⟨B,b,e,c,f,d,n,g,C,rfl,J,K,L⟩:=hl;have h:=ht;obtain ⟨t0,t1,t2,t3,t4,t5,rfl⟩:=ht.shape;refine Ee _ B b e _ c f d _ n g C _ t0 t1 t2 t3 t4 t5 V _ fun M b=>(pI (a.le (b)) hd0 (Sz.mono bd (by omega):Sz (1*k+0) _) (Sz.mono bg (by omega):Sz (1*k+0) _) (Sz.mono aX (by omega):Sz (1*k+0) _) (by omega)).mono ?_;rintro r V2 e o;have i:=o;obtain ⟨N,O,P,Q,R,S,T,U,W,X,Y,Z,rfl,HB,HC⟩:=o;have D:=Sz.mono (m:=6*k+5) ((xp (Sz.mono bd (by omega):Sz (1*k+0) _) (Sz.mono bg (by omega):Sz (1*k+0) _) (Sz.mono aX (by omega):Sz (1*k+0) _))) (by omega);have E:=Sz.mono (m:=6*k+5) ((xq (Sz.mono bd (by omega):Sz (1*k+0) _) (Sz.mono bg (by omega):Sz (1*k+0) _) (Sz.mono aX (by omega):Sz (1*k+0) _))) (by omega);refine ⟨_,_,_,_,_,_,_,_,_,_,_,_,_,_,rfl,fun V3 c=>(lZ (a.le (b.trans (e.trans (c)))) (Sz.mono bd (by omega):Sz (1*k+0) _) (Sz.mono bg (by omega):Sz (1*k+0) _) (Sz.mono aX (by omega):Sz (1*k+0) _) (by omega)).mono ?_⟩;rintro r V4 f p;have j:=p;obtain ⟨WO,WQ,WR,WS,WT,WU,q,s,u,v,Y8,Y9,rfl,UE,UF⟩:=p;have F:=Sz.mono (m:=1*k+0) ((eZ (Sz.mono bd (by omega):Sz (1*k+0) _) (Sz.mono bg (by omega):Sz (1*k+0) _) (Sz.mono aX (by omega):Sz (1*k+0) _))) (by omega);have G:=Sz.mono (m:=1*k+0) ((e_ (Sz.mono bd (by omega):Sz (1*k+0) _) (Sz.mono bg (by omega):Sz (1*k+0) _) (Sz.mono aX (by omega):Sz (1*k+0) _))) (by omega);refine ⟨_,_,_,_,_,_,_,_,_,_,_,_,_,_,rfl,fun V5 d=>(jw (i.le (c.trans (f.trans (d)))) (h.le (b.trans (e.trans (c.trans (f.trans (d)))))) (j.le (d)) (Sz.mono D (by omega):Sz (6*k+5) _) (Sz.mono E (by omega):Sz (6*k+5) _) (Sz.mono wE (by omega):Sz (6*k+5) _) (Sz.mono F (by omega):Sz (6*k+5) _) (Sz.mono G (by omega):Sz (6*k+5) _) (by omega)).mono ?_⟩;rintro r V6 n w;have jZ:=w;obtain ⟨WV,WW,WX,WY,WZ,W0,x,y,z,A,Y_,Za,rfl,H,I⟩:=w;exact ⟨_,_,_,_,_,_,_,_,_,_,_,_,_,_,rfl,fun V7 g=>⟨_,_,_,_,_,_,_,_,_,_,_,_,rfl,(H.le (g)),(I.le (g))⟩⟩
theorem RA.shape {V:View}{v:Value}{q:Rat}(h:RA V v q):∃b p n c p' n' c',v=.agg #[.bool b,.slice p n c,.slice p' n' c']:=by
 obtain ⟨p,n,c,p',n',c',e,-⟩:=h;exact ⟨_,_,_,_,_,_,_,e⟩
def As (V:View)(v:Value)(x y:Rat):Prop:=∃b p n c p' n' c' d q m e q' m' e',v=.agg #[.bool b,.slice p n c,.slice p' n' c',.bool d,.slice q m e,.slice q' m' e'] /\
 RA V (.agg #[.bool b,.slice p n c,.slice p' n' c']) x/\RA V (.agg #[.bool d,.slice q m e,.slice q' m' e']) y
theorem As.le {V V':View}{v:Value}{x y:Rat}(h:As V v x y)(l:V.Le V'):As V' v x y:=by
 obtain ⟨b,p,n,c,g,i,j,d,q,m,e,k,o,r,rfl,a,f⟩:=h;exact ⟨_,_,_,_,_,_,_,_,_,_,_,_,_,_,rfl,a.le l,f.le l⟩
theorem gC {V:View}{v:Value}{x y:Rat}(h:As V v x y){k:Nat}(s1:Sz k x)(s2:Sz k y)(hk:k<=1099511627776) :
  ae prog 51 #[v] V fun r V'=>jY V' r x y:=by
 obtain ⟨b,p,n,c,s,t,z,d,q,m,e,A,B,C,rfl,D,E⟩:=h;refine th b p n c s t z d q m e A B C V _ fun H g=>(zv (D.le g) s1 hk).mono ?_;rintro r V2 F i;have a:=i;obtain ⟨u,v,w,rfl⟩:=i.shape;refine ⟨_,_,_,rfl,fun I j=>(zv (E.le (g.trans (F.trans j))) s2 hk).mono ?_⟩;rintro r J G l;have f:=l;obtain ⟨u,v,w,rfl⟩:=l.shape;exact ⟨_,_,_,rfl,fun K o=>⟨_,_,_,_,_,_,rfl,a.le (j.trans (G.trans o)),f.le o⟩⟩
theorem pG {V:View}{v:Value}{x y:Rat}(h:jY V v x y){k:Nat}(s1:Sz k x)(s2:Sz k y)(hk:k<=1099511627776) :
  ae prog 114 #[v] V fun r V'=>As V' r x y:=by
 obtain ⟨i,j,l,m,n,o,rfl,p,q⟩:=h;refine yA i j l m n o V _ fun u c=>(pC (p.le c) s1 hk).mono ?_;rintro r V2 s d;have a:=d;obtain ⟨_,_,_,_,_,_,_,rfl⟩:=d.shape;refine ⟨_,_,_,_,_,_,_,rfl,fun w e=>(pC (q.le (c.trans (s.trans e))) s2 hk).mono ?_⟩;rintro r z t f;have b:=f;obtain ⟨_,_,_,_,_,_,_,rfl⟩:=f.shape;exact ⟨_,_,_,_,_,_,_,rfl,fun A g=>⟨_,_,_,_,_,_,_,_,_,_,_,_,_,_,rfl,a.le (e.trans (t.trans g)),b.le g⟩⟩
theorem uV {V:View}{v w:Value}{x y x' y':Rat}(h:jY V v x y)(h':jY V w x' y'){k:Nat}(s1:Sz k x)(s2:Sz k y)(s3:Sz k x')(s4:Sz k y')(hk:2*k<1099511627776) :
  ae prog 117 #[v,w] V fun r V'=>r=.bool (decide (x=x'/\y=y')):=by
 obtain ⟨d,e,f,i,j,l,rfl,m,n⟩:=h;obtain ⟨o,p,q,s,t,u,rfl,z,A⟩:=h';refine tR d e f i j l o p q s t u V _ fun B a=>(kc (m.le a) (z.le a) s1 s3 (by omega)).mono ?_;rintro r V2 b rfl;refine ⟨_,rfl,fun g C c=>(kc (n.le (a.trans (b.trans c))) (A.le (a.trans (b.trans c))) s2 s4 (by omega)).mono ?_,fun g D E=>?_⟩
 ·have g:=of_decide_eq_true g;rintro r F G rfl;exact ⟨_,rfl,fun H I=>by simp [g]⟩
 ·have g:=of_decide_eq_false g;simp [g]
theorem xJ {V:View}{l p:Value}{bI l_1 cJ eo eu:Rat}(hl:B0 V l bI l_1 cJ)(hp:jY V p eo eu){k:Nat}(s0:Sz k bI)(s1:Sz k l_1)(s2:Sz k cJ)(s3:Sz k eo)(s4:Sz k eu)(hk:16*k+16<274877906944) :
  ae prog 108 #[l,p] V fun r V'=>r=.int .i64 (bI*eo+l_1*eu+cJ).num.sign:=by
 have a:=hl;have b:=hp;obtain ⟨d,e,f,h,i,j,m,n,o,rfl,-,-,-⟩:=hl;obtain ⟨q,s,t,x,y,z,rfl,-,-⟩:=hp;refine wO d e f h i j m n o q s t x y z V _ fun C c=>(lV (a.le c) (b.le c) s0 s1 s2 s3 s4 (by omega)).mono ?_;rintro r V2 D g;have A:=g;obtain ⟨u,v,w,rfl⟩:=g.shape;refine ⟨_,_,_,rfl,fun E B=>(pE (A.le B) (kG s0 s1 s2 s3 s4) (by omega)).mono ?_⟩;rintro r F G rfl;exact ⟨_,rfl,fun H I=>rfl⟩
theorem gS {V:View}{v:Value}{q:Rat}(h:RQ V v q){k:Nat}(s:Sz k q)(hk:k<=1099511627776):ae prog 70 #[v] V fun r V'=>RA V' r q:=by
 obtain ⟨p,n,c,f,g,i,rfl,j,l⟩:=h;have y:=ag s.1;have z:=ag s.2;refine BP _ p n c f g i V _ fun A a=>(jv ⟨_,_,_,rfl,j.le a⟩ (by omega)).mono ?_;rintro r V2 m ⟨B,C,D,rfl,o⟩;refine ⟨_,_,_,_,rfl,fun E b=>(cH q _ (l.le (a.trans (m.trans b)))).mono ?_⟩;rintro r F t ⟨G,H,I,rfl,u⟩;refine ⟨_,_,_,rfl,fun J d=>(sC (u.le d) (by omega)).mono ?_⟩;rintro r K w ⟨L,M,N,rfl,x⟩;exact ⟨_,_,_,rfl,fun O e=>⟨_,_,_,_,_,_,rfl,o.le (b.trans (t.trans (d.trans (w.trans e)))),x.le e⟩⟩
theorem Cq {V:View}{v:Value}{x y:Rat}(h:RP V v x y){k:Nat}(s1:Sz k x)(s2:Sz k y)(hk:k<=1099511627776):ae prog 29 #[v] V fun r V'=>As V' r x y:=by
 obtain ⟨i,j,l,m,n,o,p,q,s,t,u,w,rfl,z,A⟩:=h;refine BW _ i j l m n o _ p q s t u w V _ fun D c=>(gS (z.le c) s1 hk).mono ?_;rintro r V2 B d;have a:=d;obtain ⟨_,_,_,_,_,_,_,rfl⟩:=d.shape;refine ⟨_,_,_,_,_,_,_,rfl,fun E e=>(gS (A.le (c.trans (B.trans e))) s2 hk).mono ?_⟩;rintro r F C f;have b:=f;obtain ⟨_,_,_,_,_,_,_,rfl⟩:=f.shape;exact ⟨_,_,_,_,_,_,_,rfl,fun G g=>⟨_,_,_,_,_,_,_,_,_,_,_,_,_,_,rfl,a.le (e.trans (C.trans g)),b.le g⟩⟩
theorem nU {V:View}{v w:Value}{x y:Rat}(hx:RA V v x)(hy:RA V w y){k:Nat}(s:Sz k x)(hk:k<=1099511627776) :
  ae prog 131 #[v,w] V fun r V'=>r=.bool (decide (x=y)):=by
 obtain ⟨p,n,c,f,i,j,rfl,l,o⟩:=hx;obtain ⟨q,m,e,t,u,z,rfl,A,B⟩:=hy;have C:=ag s.1;have D:=ag s.2;refine wZ _ p n c f i j _ q m e t u z V _ fun E a=>(gN (l.le a) (A.le a) (by omega)).mono ?_;rintro r V2 b rfl;refine ⟨_,rfl,fun g F d=>(nT (o.le (a.trans (b.trans d))) (B.le (a.trans (b.trans d))) (by omega)).mono ?_,fun g G H=>?_⟩
 ·have g:=of_decide_eq_true g;rintro r I J rfl;refine ⟨_,rfl,fun K L=>?_⟩;have e:ai x.den=ai y.den↔x=y:=⟨fun h=>Rat.ext g (by have:=congrArg val h;rwa [af,af] at this),fun h=>by rw [h]⟩;rw [show decide (ai x.den=ai y.den)=decide (x=y) from by rw [decide_eq_decide];exact e]
 ·have g:=of_decide_eq_false g;rw [decide_eq_false (fun h=>g (by rw [h]))]
abbrev L3:=Int×Int×Int
def jO (x:L3):Bool:=decide (¬(x.1=0/\x.2.1=0))&&decide (bM x.1 x.2.1 x.2.2=1)
def Bd (x:L3):Prop:=x.1.natAbs<2^1000/\x.2.1.natAbs<2^1000/\x.2.2.natAbs<2^1000
inductive Tr where
 | leaf (i:Bool)|node (l:L3) (a b:Tr)
 deriving DecidableEq
structure Nd where
 ln:L3
 left:Int
 right:Int
 deriving DecidableEq
def Tr.size:Tr->Nat
 | .leaf _=>0
 | .node _ a b=>a.size+b.size+1
def Tr.K9 (p:L3->Prop):Tr->Prop
 | .leaf _=>True
 | .node l a b=>p l/\a.K9 p/\b.K9 p
theorem Tr.K9.imp {p q:L3->Prop}(h:∀x,p x->q x):∀{t:Tr},t.K9 p->t.K9 q
 | .leaf _,_=>trivial
 | .node _ _ _,⟨h1,h2,h3⟩=>⟨h _ h1,Tr.K9.imp h h2,Tr.K9.imp h h3⟩
def rt (k:Nat):Tr->Int
 | .leaf i=>if i then -2 else -1
 | .node ..=>(k:Int)
def wr:Nat->Tr->List Nd
 | _,.leaf _=>[]
 | k,.node l a b=>⟨l,rt (k+1) a,rt (k+1+a.size) b⟩::(wr (k+1) a++wr (k+1+a.size) b)
structure RS where
 seen:List Bool
 cnt:Nat
 bad:Bool
def mvN (n Uu i:Nat):Nat:=n-1-(i+Uu)%n
def mv (n Uu:Nat)(i:Int):Int:=if i<0 then i else (mvN n Uu i.toNat:Int)
theorem Oy (a:Addr)(i j:Nat):(a.add i).add j=a.add (i+j):=by
 unfold Addr.add;by_cases b:i=0
 ·subst b;simp
 ·by_cases c:j=0
  ·subst c;simp [b]
  ·simp [b,c,Nat.add_assoc]
theorem Da {a b c:Int}:vW (decide (a<0)) (ai a.natAbs) (decide (b<0)) (ai b.natAbs) (decide (c<0)) (ai c.natAbs)=jO (a,b,c):=by
 have d:∀z:Int,lO (decide (z<0)) (ai z.natAbs)=true:=by
  intro z;unfold lO;rw [af];simp only [decide_true,Bool.true_and];by_cases h:z<0
  ·simp only [h,decide_true,Bool.not_true,Bool.false_or,decide_eq_true_eq];intro e;have:=bH.1 e;omega
  ·simp [h]
 have j:cQ (cQ (a:Rat) (b:Rat)) (c:Rat)=((bM a b c:Nat):Int):=by
  have g:∀x y:Int,cQ (x:Rat) (y:Rat)=((Nat.gcd x.natAbs y.natAbs:Nat):Int):=by
   intro x y;unfold cQ;have k:((x:Rat)).num=x:=rfl;have l:((y:Rat)).num=y:=rfl;have m:((x:Rat)).den=1:=rfl;have n:((y:Rat)).den=1:=rfl;rw [k,l,m,n];simp only [Nat.mul_one];exact Rat.mkRat_one _
  rw [g,g];rfl
 unfold vW jO;rw [d,d,d,aE,aE,aE,j];have o:∀z:Int,((z:Rat)=0)↔z=0:=fun z=>by exact Rat.intCast_eq_zero_iff
 simp only [Bool.true_and,o];rw [Bool.eq_iff_iff];simp only [Bool.and_eq_true,Bool.not_eq_true',Bool.and_eq_false_iff,decide_eq_false_iff_not,decide_eq_true_eq]
 have p:(((bM a b c:Nat):Int):Rat)=((1:Int):Rat)↔bM a b c=1:=by
  rw [Rat.intCast_inj];omega
 rw [p];constructor
 ·rintro ⟨h,f⟩;exact ⟨fun e=>by rcases h with h|h;exact h e.1;exact h e.2,f⟩
 ·rintro ⟨h,f⟩;refine ⟨?_,f⟩;by_cases i:a=0
  ·exact .inr fun q=>h ⟨i,q⟩
  ·exact .inl i
theorem oQ {z:Int}{k:Nat}(h:z.natAbs<2^k)(hk:0<k):Sz k (z:Rat):=⟨h,Nat.one_lt_two_pow (by omega)⟩
theorem Bd.ai {x:L3}(h:Bd x):(ai x.1.natAbs).length<=1000/\(ai x.2.1.natAbs).length<=1000/\(ai x.2.2.natAbs).length<=1000:=⟨ag h.1,ag h.2.1,ag h.2.2⟩
theorem Bd.sz {x:L3}(h:Bd x):Sz 1000 (x.1:Rat)/\Sz 1000 (x.2.1:Rat)/\Sz 1000 (x.2.2:Rat):=⟨oQ h.1 (by omega),oQ h.2.1 (by omega),oQ h.2.2 (by omega)⟩
theorem M3 (x y u w:Int):mK (x:Rat) (y:Rat) ((x:Rat)+((1:Int):Rat)*(u:Rat)) ((y:Rat)+((1:Int):Rat)*(w:Rat))=(((-w:Int):Rat),((u:Int):Rat),((w*x-u*y:Int):Rat)):=by
 have a:(x:Rat)+((1:Int):Rat)*(u:Rat)=((x+u:Int):Rat):=by rw [←Rat.intCast_mul,←Rat.intCast_add,Int.one_mul]
 have b:(y:Rat)+((1:Int):Rat)*(w:Rat)=((y+w:Int):Rat):=by rw [←Rat.intCast_mul,←Rat.intCast_add,Int.one_mul]
 rw [a,b];have c:-(((y+w:Int):Rat)-(y:Rat))=((-w:Int):Rat):=by rw [←Rat.intCast_sub,←Rat.intCast_neg];congr 1;omega
 have d:((x+u:Int):Rat)-(x:Rat)=((u:Int):Rat):=by rw [←Rat.intCast_sub];congr 1;omega
 have e:-(((-w:Int):Rat)*(x:Rat)+((u:Int):Rat)*(y:Rat))=((w*x-u*y:Int):Rat):=by
  rw [←Rat.intCast_mul,←Rat.intCast_mul,←Rat.intCast_add,←Rat.intCast_neg];congr 1;rw [Int.neg_mul];omega
 have f:(((((-w:Int):Rat).den*((u:Int):Rat).den*((w*x-u*y:Int):Rat).den:Nat):Int):Rat)=1:=rfl;unfold mK;dsimp only;rw [c,d,e,f,Rat.mul_one,Rat.mul_one,Rat.mul_one]
def vM (a b c:Int):L3:=(a / (bM a b c:Int),b / (bM a b c:Int),c / (bM a b c:Int))
def small (z:Int)(k:Nat):Bool:=decide (z.natAbs<=k)
theorem JJ:∀i:Fin 9,∀j:Fin 9,∀k:Fin 65,(i.1=4/\j.1=4)\/(jO (vM ((i.1:Int)-4) ((j.1:Int)-4) ((k.1:Int)-32))&&small (vM ((i.1:Int)-4) ((j.1:Int)-4) ((k.1:Int)-32)).1 32&&small (vM ((i.1:Int)-4) ((j.1:Int)-4) ((k.1:Int)-32)).2.1 32&&small (vM ((i.1:Int)-4) ((j.1:Int)-4) ((k.1:Int)-32)).2.2 32)=true:=by decide +kernel
theorem OG (k:Nat)(hk:6<=k){z:Int}(h:z.natAbs<=32):z.natAbs<2^k:=Nat.lt_of_le_of_lt h (Nat.lt_of_lt_of_le (by decide:32<2^6) (Nat.pow_le_pow_right (by decide) hk))
theorem QC (k:Nat)(hk:6<=k){x:L3}(h1:x.1.natAbs<=32)(h2:x.2.1.natAbs<=32)(h3:x.2.2.natAbs<=32):x.1.natAbs<2^k/\x.2.1.natAbs<2^k/\x.2.2.natAbs<2^k:=⟨OG k hk h1,OG k hk h2,OG k hk h3⟩
theorem Mm {a b c:Int}(h1:-4<=a/\a<=4)(h2:-4<=b/\b<=4)(h3:-32<=c/\c<=32)(h:¬(a=0/\b=0)):jO (vM a b c)=true/\Bd (vM a b c):=by
 have:=JJ ⟨(a+4).toNat,by omega⟩ ⟨(b+4).toNat,by omega⟩ ⟨(c+32).toNat,by omega⟩;dsimp only at this;rw [show (((a+4).toNat:Nat):Int)-4=a from by omega,show (((b+4).toNat:Nat):Int)-4=b from by omega,show (((c+32).toNat:Nat):Int)-32=c from by omega] at this;rcases this with d|d
 ·omega
 ·simp only [Bool.and_eq_true,small,decide_eq_true_eq] at d;exact ⟨d.1.1.1,QC 1000 (by decide) d.1.1.2 d.1.2 d.2⟩
theorem JQ {x y:Int}(h1:-4<=x/\x<=4)(h2:-4<=y/\y<=4):-16<=x*y/\x*y<=16:=by
 have:(x*y).natAbs<=4*4:=by rw [Int.natAbs_mul];exact Nat.mul_le_mul (by omega) (by omega)
 omega
theorem num_mul {r:Rat}{f:Nat}{a:Int}(hf:f≠0)(h:r*((f:Nat):Int)=(a:Rat)):r.num*f=a*r.den:=by
 have b:=r.den_nz;rw [←Rat.mkRat_self r,←Rat.mkRat_one f,←Rat.mkRat_one a,Rat.mkRat_mul_mkRat,Rat.mkRat_eq_iff (by simpa using b) (by omega)] at h;simpa using h
theorem vx {r s:Rat}{f:Nat}{a b:Int}(hf:f≠0)(hr:r*((f:Nat):Int)=(a:Rat))(hs:s*((f:Nat):Int)=(b:Rat)):cQ r s*((f:Nat):Int)=(((Nat.gcd a.natAbs b.natAbs:Nat):Int):Rat):=by
 have c:=num_mul hf hr;have d:=num_mul hf hs;have d1:=r.den_nz;have d2:=s.den_nz;have e:r.num.natAbs*f=a.natAbs*r.den:=by have:=congrArg Int.natAbs c;rwa [Int.natAbs_mul,Int.natAbs_mul,Int.natAbs_natCast,Int.natAbs_natCast] at this
 have g:s.num.natAbs*f=b.natAbs*s.den:=by have:=congrArg Int.natAbs d;rwa [Int.natAbs_mul,Int.natAbs_mul,Int.natAbs_natCast,Int.natAbs_natCast] at this
 have h:Nat.gcd (r.num.natAbs*s.den) (s.num.natAbs*r.den)*f=Nat.gcd a.natAbs b.natAbs*(r.den*s.den):=by
  rw [←Nat.gcd_mul_right,←Nat.gcd_mul_right];congr 1
  ·rw [Nat.mul_right_comm,e,Nat.mul_assoc]
  ·rw [Nat.mul_right_comm,g,Nat.mul_assoc,Nat.mul_comm s.den]
 unfold cQ;rw [←Rat.mkRat_one ((f:Nat):Int),Rat.mkRat_mul_mkRat,←Rat.mkRat_one (((Nat.gcd a.natAbs b.natAbs:Nat):Int)),Rat.mkRat_eq_iff (by simpa using Nat.mul_ne_zero d1 d2) (by omega)];simp only [Nat.mul_one];have:=congrArg (Nat.cast (R:=Int)) h;simpa using this
theorem my (q:Rat)(m:Nat):q*(((q.den*m:Nat):Int):Rat)=((q.num*m:Int):Rat):=by
 have e:q*(((q.den:Nat):Int):Rat)=((q.num:Int):Rat):=by
  have h:=q.den_nz
  have a:mkRat q.num q.den*mkRat ((q.den:Nat):Int) 1=mkRat q.num 1:=by
   rw [Rat.mkRat_mul_mkRat,Rat.mkRat_eq_iff (by simpa using h) (by omega)];simp
  rwa [Rat.mkRat_self,Rat.mkRat_one,Rat.mkRat_one] at a
 rw [Int.natCast_mul,Rat.intCast_mul,←Rat.mul_assoc,e,←Rat.intCast_mul]
theorem A5 {a:Int}{g:Nat}(hg:g≠0)(h:(g:Int)∣a):((a / (g:Int):Int):Rat)=(a:Rat) / ((g:Int):Rat):=by
 obtain ⟨k,rfl⟩:=h;have b:((g:Int):Rat)≠0:=by exact_mod_cast hg
 rw [Int.mul_ediv_cancel_left _ (by omega),Rat.intCast_mul,Rat.div_def,Rat.mul_comm ((g:Int):Rat),Rat.mul_assoc,Rat.mul_inv_cancel _ b,Rat.mul_one]
def rJ (a b c:Rat):L3:=
 let f:Nat:=a.den*b.den*c.den
 vM (a*((f:Int):Rat)).num (b*((f:Int):Rat)).num (c*((f:Int):Rat)).num
theorem kr {a b c:Rat}(h:¬(a=0/\b=0)):let g:=cQ (cQ a b) c
  g≠0/\a*g⁻¹=((rJ a b c).1:Rat)/\b*g⁻¹=((rJ a b c).2.1:Rat)/\c*g⁻¹=((rJ a b c).2.2:Rat):=by
 intro g;have i:a.den*b.den*c.den≠0:=Nat.mul_ne_zero (Nat.mul_ne_zero a.den_nz b.den_nz) c.den_nz;have j:a*(((a.den*b.den*c.den:Nat):Int):Rat)=((a.num*(b.den*c.den:Nat):Int):Rat):=by rw [Nat.mul_assoc,my]
 have k:b*(((a.den*b.den*c.den:Nat):Int):Rat)=((b.num*(a.den*c.den:Nat):Int):Rat):=by rw [Nat.mul_comm a.den,Nat.mul_assoc,my]
 have l:c*(((a.den*b.den*c.den:Nat):Int):Rat)=((c.num*(a.den*b.den:Nat):Int):Rat):=by rw [Nat.mul_comm (a.den*b.den),my]
 have hm:rJ a b c=vM (a.num*(b.den*c.den:Nat)) (b.num*(a.den*c.den:Nat)) (c.num*(a.den*b.den:Nat)):=by
  unfold rJ;dsimp only;rw [j,k,l,Rat.num_intCast,Rat.num_intCast,Rat.num_intCast]
 have o:=vx i j k;have d:=vx i o l;rw [hm]
 have p:a.num*(b.den*c.den:Nat)=0↔a=0:=by
  rw [Int.mul_eq_zero,Rat.num_eq_zero];have:=Nat.mul_ne_zero b.den_nz c.den_nz;constructor
  ·rintro (h|h)
   ·exact h
   ·omega
  ·exact .inl
 have q:b.num*(a.den*c.den:Nat)=0↔b=0:=by
  rw [Int.mul_eq_zero,Rat.num_eq_zero];have:=Nat.mul_ne_zero a.den_nz c.den_nz;constructor
  ·rintro (h|h)
   ·exact h
   ·omega
  ·exact .inl
 generalize a.num*(b.den*c.den:Nat)=A at *;generalize b.num*(a.den*c.den:Nat)=B at *;generalize c.num*(a.den*b.den:Nat)=C at *;generalize a.den*b.den*c.den=f at *;have r:Nat.gcd (((Nat.gcd A.natAbs B.natAbs:Nat):Int)).natAbs C.natAbs=bM A B C:=by unfold bM;rw [Int.natAbs_natCast]
 rw [r] at d;change g*((f:Int):Rat)=_ at d
 have n:bM A B C≠0:=by
  intro e;have:=Nat.gcd_eq_zero_iff.1 e;have:=Nat.gcd_eq_zero_iff.1 this.1;exact h ⟨p.1 (by omega),q.1 (by omega)⟩
 have s:((f:Int):Rat)≠0:=by exact_mod_cast i
 have m:((bM A B C:Int):Rat)≠0:=by exact_mod_cast n
 have t:g≠0:=by intro e;rw [e,Rat.zero_mul] at d;exact m d.symm
 have u:((bM A B C:Nat):Int)∣A:=Int.natAbs_dvd_natAbs.1 (by rw [Int.natAbs_natCast];exact Nat.dvd_trans (Nat.gcd_dvd_left _ _) (Nat.gcd_dvd_left _ _));have v:((bM A B C:Nat):Int)∣B:=Int.natAbs_dvd_natAbs.1 (by rw [Int.natAbs_natCast];exact Nat.dvd_trans (Nat.gcd_dvd_left _ _) (Nat.gcd_dvd_right _ _));have dC:((bM A B C:Nat):Int)∣C:=Int.natAbs_dvd_natAbs.1 (by rw [Int.natAbs_natCast];exact Nat.gcd_dvd_right _ _)
 have key:∀{x:Rat} {X:Int},x*((f:Int):Rat)=(X:Rat)->((bM A B C:Nat):Int)∣X->x*g⁻¹=((X / (bM A B C:Int):Int):Rat):=by
  intro x X w y;rw [A5 n y,←w,←d];grind
 exact ⟨t,key j u,key k v,key l dC⟩
theorem Mp {a b c:Rat}(h:¬(a=0/\b=0)):¬((rJ a b c).1=0/\(rJ a b c).2.1=0):=by
 obtain ⟨j,d,f,-⟩:=kr (c:=c) h;rintro ⟨k,l⟩;rw [k] at d;rw [l] at f
 have g:(cQ (cQ a b) c)⁻¹≠0:=fun e=>by
  have i:=Rat.mul_inv_cancel _ j;rw [e,Rat.mul_zero] at i;exact absurd i (by decide)
 apply h;constructor
 ·rcases Rat.mul_eq_zero.1 (by simpa using d) with e|e
  ·exact e
  ·exact absurd e g
 ·rcases Rat.mul_eq_zero.1 (by simpa using f) with e|e
  ·exact e
  ·exact absurd e g
theorem Ha {V:View}{v:Value}{a b c:Int}(h:RL V v a b c):∃(b1:Bool)(p1:OA)(n1 c1:Nat)(b2:Bool)(p2:OA)(n2 c2:Nat)(b3:Bool)(p3:OA)(n3 c3:Nat),v=.agg #[.bool b1,.slice p1 n1 c1,.bool b2,.slice p2 n2 c2,.bool b3,.slice p3 n3 c3]:=by
 obtain ⟨p,n,s,d,f,g,q,m,e,rfl,-⟩:=h;exact ⟨_,_,_,_,_,_,_,_,_,_,_,_,rfl⟩
def Im (V:View)(p:OA)(n:Nat):Prop:=∀i,i<n->∃(a:Addr)(x:Int),ah p (i*1)=some a/\V.at a (.int .i64 x)
theorem Im.le {V V':View}{p:OA}{n:Nat}(h:Im V p n)(l:V.Le V'):Im V' p n:=fun i b=>by
 obtain ⟨a,x,e,c⟩:=h i b;exact ⟨a,x,e,l.at c⟩
def nI (V:View)(tb:Nat)(p:OA)(n c:Nat)(at_:Int):Prop:=V.w.heap[tb]?=some (.cells #[.slice p n c,.int .i64 at_] 88 (0,0))
theorem iM {V:View}{tb:Nat}{p:OA}{n c:Nat}{at_:Int}(k:Int)(hr:Im V p n)(hn:n<=400)(hw:nI V tb p n c at_)(hx:V.X tb)(h0:0<=at_)(hk:0<k)(hk2:k<=1000) :
  ae prog 10 #[.pointer (some ⟨tb,0,none⟩),.int .i64 k] V fun r V'=>∃x at',r=.int .i64 x/\0<=x/\x<k/\0<=at'/\nI V' tb p n c at':=by
 refine ph tb p n c at_ k V _ hw hx ⟨fun g m o e=>⟨0,at_,rfl,by omega,hk,h0,e⟩,fun g=>?_⟩;have g:at_<n:=by have:=of_decide_eq_false g;omega
 obtain ⟨i,rfl⟩:∃i:Nat,at_=i:=⟨at_.toNat,by omega⟩;obtain ⟨a,x,d,f⟩:=hr i (by omega)
 have h:p.isSome=true:=by
  cases p with
  | none=>simp [ah] at d
  | some a=>rfl
 have q:(x.tmod k).natAbs<k.natAbs:=by rw [Int.natAbs_tmod];exact Nat.mod_lt _ (by omega)
 have j:i64.wrap ((i:Int)+1)=((i+1:Nat):Int):=by rw [aw (by omega)];omega
 rw [Int.toNat_natCast,j];have l:i64.wrap (x.tmod k+k)=x.tmod k+k:=aw (by omega);refine ⟨h,⟨by omega,by omega⟩,x,⟨a,d,f⟩,by omega,fun b V2 s e=>⟨x.tmod k+k,_,by rw [l],?_,?_,?_,e⟩,fun b t u e=>⟨_,_,rfl,?_,?_,?_,e⟩⟩
 ·omega
 ·have:=of_decide_eq_true b;omega
 ·omega
 ·have:=of_decide_eq_false b;omega
 ·omega
 ·omega
theorem Tp {V:View}{tb:Nat}{p:OA}{n c:Nat}{at_:Int}(hr:Im V p n)(hn:n<=400)(hw:nI V tb p n c at_)(hx:V.X tb)(h0:0<=at_) :
  ae prog 16 #[.pointer (some ⟨tb,0,none⟩)] V fun r V'=>∃(x y at':Int),RP V' r (x:Rat) (y:Rat)/\(-4<=x/\x<=4)/\(-4<=y/\y<=4)/\0<=at'/\nI V' tb p n c at':=by
 refine uc tb p n c at_ V _ hw hx fun k i a l m=>(iM (V:=k.aF [a]) 9 (hr.le fun b o h=>i b o h) hn l ⟨by simp,m⟩ h0 (by omega) (by omega)).mono ?_;rintro r V2 q ⟨x,B,rfl,C,D,t1,d⟩;refine ⟨_,rfl,_,_,_,_,d,fun s t u v w=>(iM (V:=s.aF [u]) 9 (hr.le fun b o h=>t b o (q b o (i b o h))) hn v ⟨by simp,w⟩ t1 (by omega) (by omega)).mono ?_⟩;rintro r E F ⟨y,e,rfl,G,H,t2,f⟩;refine ⟨_,rfl,_,_,_,_,f,fun I J=>?_⟩;rw [aw (x:=x-4) (by omega),aw (x:=y-4) (by omega)];refine (uY (x-4) (y-4) (by omega) (by omega) (by omega) (by omega)).mono ?_;rintro r K L j;have g:=j;obtain ⟨M,N,O,P,Q,R,S,T,U,W,Y,Z,rfl,-⟩:=j;exact ⟨_,_,_,_,_,_,_,_,_,_,_,_,_,_,rfl,fun V7 z A=>⟨x-4,y-4,e,g.le z,⟨by omega,by omega⟩,⟨by omega,by omega⟩,t2,A⟩⟩
theorem RQ.zero {V:View}:RQ V (.agg #[.bool false,.slice none 0 0,.slice none 0 0]) ((0:Int):Rat):=⟨none,0,0,none,0,0,rfl,RD.nil,RD.nil⟩
theorem RP.zero {V:View}:RP V (.agg #[.bool false,.slice none 0 0,.slice none 0 0,.bool false,.slice none 0 0,.slice none 0 0]) ((0:Int):Rat) ((0:Int):Rat):=
 ⟨none,0,0,none,0,0,none,0,0,none,0,0,rfl,RQ.zero,RQ.zero⟩
theorem tH {z:Int}(h:-40<=z/\z<=40):Sz 10 (z:Rat):=oQ (by omega) (by omega)
theorem XL {V:View}{tb:Nat}{p:OA}{n c:Nat}{at_:Int}(hr:Im V p n)(hn:n<=400)(hw:nI V tb p n c at_)(hx:V.X tb)(h0:0<=at_) :
  ae prog 36 #[.pointer (some ⟨tb,0,none⟩)] V fun r V'=>∃(x y at':Int),RP V' r (x:Rat) (y:Rat)/\(-4<=x/\x<=4)/\(-4<=y/\y<=4)/\¬(x=0/\y=0)/\0<=at'/\nI V' tb p n c at':=by
 refine ug tb p n c at_ V _ hw hx fun s t d u v=>(Tp (V:=s.aF [d]) (hr.le fun b o h=>t b o h) hn u ⟨by simp,v⟩ h0).mono ?_;rintro r V2 P ⟨x,y,k,l,e,f,t1,i⟩;have a:=l;obtain ⟨w,z,A,B,C,D,E,F,G,H,I,J,rfl,-⟩:=l;refine ⟨_,_,_,_,_,_,_,_,_,_,_,_,_,_,rfl,_,_,_,_,i,fun Q m=>(AM (a.le fun b o h=>m b o h) RP.zero (tH (by omega)) (tH (by omega)) (tH (by omega)) (tH (by omega)) (by omega)).mono ?_⟩;rintro r R K rfl;refine ⟨_,rfl,fun g S T=>(uY 1 0 (by omega) (by omega) (by omega) (by omega)).mono ?_,fun g U L M=>⟨x,y,k,a.le fun b o h=>L b o (K b o (m b o h)),e,f,?_,t1,M⟩⟩
 ·rintro r W Y q;have j:=q;obtain ⟨w,z,A,B,C,D,E,F,G,H,I,J,rfl,-⟩:=q;exact ⟨_,_,_,_,_,_,_,_,_,_,_,_,_,_,rfl,fun Z N O=>⟨1,0,k,j.le N,⟨by omega,by omega⟩,⟨by omega,by omega⟩,by omega,t1,O⟩⟩
 ·rintro ⟨rfl,rfl⟩;simp at g
theorem XJ {V:View}{tb:Nat}{p:OA}{n c:Nat}{at_:Int}(hr:Im V p n)(hn:n<=400)(hw:nI V tb p n c at_)(hx:V.X tb)(h0:0<=at_) :
  ae prog 9 #[.pointer (some ⟨tb,0,none⟩)] V fun r V'=>∃(x:L3)(at':Int),RL V' r x.1 x.2.1 x.2.2/\jO x=true/\Bd x/\0<=at'/\nI V' tb p n c at':=by
 refine ub tb p n c at_ V _ hw hx fun U G e W Y=>(Tp (V:=U.aF [e]) (hr.le fun b o h=>G b o h) hn W ⟨by simp,Y⟩ h0).mono ?_;rintro r V2 Z ⟨x,y,Nq,H,f,g,t1,i⟩;have d:=H;obtain ⟨p1,I,c1,p2,J,c2,p3,K,c3,p4,n4,c4,rfl,-⟩:=H;refine ⟨_,_,_,_,_,_,_,_,_,_,_,_,_,_,rfl,_,_,_,_,i,fun V3 L=>(eM 1 (by omega) (by omega)).mono ?_⟩;rintro r V4 M N;have j:=N;obtain ⟨p5,n5,c5,p6,n6,c6,rfl⟩:=N.shape;refine ⟨_,_,_,_,_,_,_,rfl,fun V5 q Uj e5 h5=>(XL (V:=V5.aF [Uj]) (hr.le fun b o h=>q b o (M b o (L b o (Z b o (G b o h))))) hn e5 ⟨by simp,h5⟩ t1).mono ?_⟩;rintro r V6 O ⟨u,w,s,P,t,Ro,a0,t2,v⟩;have z:=P;obtain ⟨q1,m1,d1,q2,m2,d2,q3,m3,d3,q4,m4,d4,rfl,-⟩:=P;refine ⟨_,_,_,_,_,_,_,_,_,_,_,_,_,_,rfl,_,_,_,_,v,fun A B=>?_⟩;have Q:V2.Le A:=fun b o h=>B b o (O b o (q b o (M b o (L b o h))));have Qk:V4.Le A:=fun b o h=>B b o (O b o (q b o h));have C:V6.Le A:=fun b o h=>B b o h;refine (jw (d.le Q) (j.le Qk) (z.le C) (k:=10) (m:=10) (tH (by omega)) (tH (by omega)) (tH (by omega)) (tH (by omega)) (tH (by omega)) (by omega)).mono ?_;rintro r V8 l8 R;have D:=R;obtain ⟨s1,i1,j1,s2,i2,j2,s3,i3,j3,s4,i4,j4,rfl,-⟩:=R;have f1:(x:Rat)+((1:Int):Rat)*(u:Rat)=((x+u:Int):Rat):=by rw [←Rat.intCast_mul,←Rat.intCast_add,Int.one_mul]
 have f2:(y:Rat)+((1:Int):Rat)*(w:Rat)=((y+w:Int):Rat):=by rw [←Rat.intCast_mul,←Rat.intCast_add,Int.one_mul]
 refine ⟨_,_,_,_,_,_,_,_,_,_,_,_,_,_,rfl,fun V9 S=>(lK (d.le (Q.trans (l8.trans S))) (D.le S) (k:=10) (tH (by omega)) (tH (by omega)) (by rw [f1];exact tH (by omega)) (by rw [f2];exact tH (by omega)) (by omega) (by omega)).mono ?_⟩;rintro r gu a1 ⟨-,h⟩;rw [M3] at h;have I:((-w:Int):Rat).num=-w:=rfl;have J:((u:Int):Rat).num=u:=rfl;have K:((w*x-u*y:Int):Rat).num=w*x-u*y:=rfl;dsimp only at h;rw [I,J,K] at h;obtain ⟨l,rfl,T⟩:=h (by omega);have m1:=JQ Ro f;have m2:=JQ t g;obtain ⟨k1,k2⟩:=Mm (a:=-w) (b:=u) (c:=w*x-u*y) (by omega) (by omega) (by omega) (by omega);have E:=T;obtain ⟨b1,u1,v1,w1,b2,u2,v2,w2,b3,u3,v3,w3,rfl⟩:=(Ha T);exact ⟨_,_,_,_,_,_,_,_,_,_,_,_,_,rfl,fun fg bF F=>⟨vM (-w) u (w*x-u*y),s,E.le bF,k1,k2,t2,F⟩⟩
theorem oE {V:View}(n:Int)(d:Nat)(h0:-1000<=n)(h1:n<=1000)(hd0:d≠0)(hd:d<=1000) :
  ae prog 50 #[.int .i64 n,.int .i64 (d:Int)] V fun r V'=>RQ V' r (mkRat n d):=by
 refine D7 n d V _ fun l o=>(zD n (by omega) (by omega)).mono ?_;rintro r V2 q ⟨p,m,c,rfl,g⟩;rw [aN (by omega)];refine ⟨_,_,_,_,rfl,fun s b=>(cX d (by omega)).mono ?_⟩;rintro r t e ⟨u,v,w,rfl,f⟩;refine ⟨_,_,_,rfl,fun x a=>(kU n (g.le (b.trans (e.trans a))) (f.le a) (Nat.le_trans (ag (k:=10) (by omega)) (by omega)) (Nat.le_trans (ag (k:=10) (by omega)) (by omega)) hd0).mono ?_⟩;rintro r y z h;have i:=h;obtain ⟨_,_,_,_,_,_,rfl⟩:=h.shape;exact ⟨_,_,_,_,_,_,_,rfl,fun A j=>i.le j⟩
theorem MU:∀x:Fin 9,Sz 10 (mkRat (2*((x.1:Int)-4)+1) 2)/\Sz 10 (mkRat (3*((x.1:Int)-4)+1) 3):=by unfold Sz;decide +kernel
theorem XK {V:View}{tb:Nat}{p:OA}{n c:Nat}{at_:Int}(hr:Im V p n)(hn:n<=400)(hw:nI V tb p n c at_)(hx:V.X tb)(h0:0<=at_) :
  ae prog 18 #[.pointer (some ⟨tb,0,none⟩)] V fun r V'=>∃(q:Rat)(at':Int),RQ V' r q/\Sz 10 q/\0<=at'/\nI V' tb p n c at':=by
 refine ue tb p n c at_ V _ hw hx fun w l g z A=>(iM (V:=w.aF [g]) 9 (hr.le fun b o h=>l b o h) hn z ⟨by simp,A⟩ h0 (by omega) (by omega)).mono ?_;rintro r V2 B ⟨x,K,rfl,L,M,t1,j⟩;refine ⟨_,rfl,_,_,_,_,j,fun C D E F G=>(iM (V:=C.aF [E]) 6 (hr.le fun b o h=>D b o (B b o (l b o h))) hn F ⟨by simp,G⟩ t1 (by omega) (by omega)).mono ?_⟩;rintro r N O ⟨y,a,rfl,P,Q,t2,k⟩;obtain ⟨i,rfl⟩:∃i:Nat,x=i:=⟨x.toNat,by omega⟩;obtain ⟨m,s⟩:=MU ⟨i,by omega⟩;dsimp only at m s;have H:i64.wrap ((i:Int)-4)=(i:Int)-4:=aw (by omega);have I:i64.wrap (i64.wrap (2*((i:Int)-4))+1)=2*((i:Int)-4)+1:=by rw [aw (x:=2*((i:Int)-4)) (by omega),aw (by omega)]
 have J:i64.wrap (i64.wrap (3*((i:Int)-4))+1)=3*((i:Int)-4)+1:=by rw [aw (x:=3*((i:Int)-4)) (by omega),aw (by omega)]
 rw [H,I,J];refine ⟨_,rfl,_,_,_,_,k,fun _ R S=>(oE (2*((i:Int)-4)+1) 2 (by omega) (by omega) (by omega) (by omega)).mono ?_,fun _=>⟨fun _ T U=>(oE (3*((i:Int)-4)+1) 3 (by omega) (by omega) (by omega) (by omega)).mono ?_,fun _ W Y=>(eM ((i:Int)-4) (by omega) (by omega)).mono ?_⟩⟩
 ·rintro r t u h;have d:=h;obtain ⟨_,_,_,_,_,_,rfl⟩:=h.shape;exact ⟨_,_,_,_,_,_,_,rfl,fun v e f=>⟨_,a,d.le e,m,t2,f⟩⟩
 ·rintro r t u h;have d:=h;obtain ⟨_,_,_,_,_,_,rfl⟩:=h.shape;exact ⟨_,_,_,_,_,_,_,rfl,fun v e f=>⟨_,a,d.le e,s,t2,f⟩⟩
 ·rintro r t u h;have d:=h;obtain ⟨_,_,_,_,_,_,rfl⟩:=h.shape;exact ⟨_,_,_,_,_,_,_,rfl,fun v e f=>⟨_,a,d.le e,tH (by omega),t2,f⟩⟩
theorem AO {V:View}{l p:Value}{bI l_1 cJ:Int}{eo eu:Rat}(hl:RL V l bI l_1 cJ)(hp:RP V p eo eu){k:Nat}(s0:Sz k ((bI:Int):Rat))(s1:Sz k ((l_1:Int):Rat))(s2:Sz k ((cJ:Int):Rat))(s3:Sz k eo)(s4:Sz k eu)(hk:16*k+16<274877906944) :
  ae prog 59 #[l,p] V fun r V'=>r=.int .i64 ((bI:Rat)*eo+(l_1:Rat)*eu+(cJ:Rat)).num.sign:=by
 have a:=hl;have b:=hp;obtain ⟨d,e,f,g,h,i,j,m,n,rfl,-,-,-⟩:=hl;obtain ⟨o,q,s,t,u,v,w,x,y,z,A,B,rfl,-,-⟩:=hp;refine yN _ d e f _ g h i _ j m n _ o q s t u v _ w x y z A B V _ fun E c=>(xS (a.le c) (b.le c) s0 s1 s2 s3 s4 (by omega)).mono ?_;rintro r V2 F ⟨G,H,I,J,K,L,rfl,C,M⟩;refine ⟨_,_,_,_,_,_,_,rfl,fun N D=>(AK _ (C.le D)).mono ?_⟩;rintro r O P rfl;exact ⟨_,rfl,fun Q R=>rfl⟩
theorem Co {V:View}{l:Value}{a b c:Int}(hl:RL V l a b c):ae prog 11 #[l] V fun r V'=>RL V' r (-a) (-b) (-c):=by
 obtain ⟨k,m,n,o,p,q,s,t,u,rfl,v,w,x⟩:=hl;refine BT _ k m n _ o p q _ s t u V _ fun B d=>(ju a (v.le d)).mono ?_;rintro r V2 h ⟨C,D,E,rfl,y⟩;refine ⟨_,_,_,_,rfl,fun F e=>(ju b (w.le (d.trans (h.trans e)))).mono ?_⟩;rintro r G i ⟨H,I,J,rfl,z⟩;refine ⟨_,_,_,_,rfl,fun K f=>(ju c (x.le (d.trans (h.trans (e.trans (i.trans f)))))).mono ?_⟩;rintro r L j ⟨M,N,O,rfl,A⟩;exact ⟨_,_,_,_,rfl,fun P g=>⟨_,_,_,_,_,_,_,_,_,rfl,y.le (e.trans (i.trans (f.trans (j.trans g)))),z.le (f.trans (j.trans g)),A.le g⟩⟩
end Go.Proofs.Tryz
namespace Go.Eng
open Go.Big
theorem RR.zero (V:View):RR V (.agg #[.int .i64 0,.int .i64 0,.pointer none]) 0:=.inl ⟨rfl,by unfold Wd;decide⟩
end Go.Eng
namespace Go.Proofs.Tryz
open Go.Eng Go.Big
structure Sp where
 lo:Rat
 hi:Rat
 a:Bool
 b:Bool
def Sp.can (s:Sp):Prop:=(s.a=true->s.lo=0)/\(s.b=true->s.hi=0)
def Sp.sz (k:Nat)(s:Sp):Prop:=Sz k s.lo/\Sz k s.hi
def Sp.zero:Sp:=⟨0,0,false,false⟩
def eG (k:Nat)(l:L3):Prop:=Sz k (l.1:Rat)/\Sz k (l.2.1:Rat)/\Sz k (l.2.2:Rat)
def At (V:View)(v:Value)(s:Sp):Prop:=∃(x1 x2:Int)(p:OA)(y1 y2:Int)(q:OA),v=.agg #[.int .i64 x1,.int .i64 x2,.pointer p,.int .i64 y1,.int .i64 y2,.pointer q,.bool s.a,.bool s.b] /\
 RR V (.agg #[.int .i64 x1,.int .i64 x2,.pointer p]) s.lo/\RR V (.agg #[.int .i64 y1,.int .i64 y2,.pointer q]) s.hi
theorem At.le {V V':View}{v:Value}{s:Sp}(h:At V v s)(l:V.Le V'):At V' v s:=by
 obtain ⟨a,b,p,c,d,q,e,f,g⟩:=h;exact ⟨a,b,p,c,d,q,e,f.le l,g.le l⟩
def uk (V:View)(v:Value)(l:L3):Prop:=B0 V v (l.1:Rat) (l.2.1:Rat) (l.2.2:Rat)
theorem uk.le {V V':View}{v:Value}{l:L3}(h:uk V v l)(e:V.Le V'):uk V' v l:=B0.le h e
def xE (V:View)(v:Value)(l:L3)(s:Sp):Prop:=∃(x1 x2:Int)(p:OA)(y1 y2:Int)(q:OA)(z1 z2:Int)(r:OA)(u1 u2:Int)(t:OA)(w1 w2:Int)(o:OA),
 v=.agg #[.int .i64 x1,.int .i64 x2,.pointer p,.int .i64 y1,.int .i64 y2,.pointer q,.int .i64 z1,.int .i64 z2,.pointer r,.int .i64 u1,.int .i64 u2,.pointer t,.int .i64 w1,.int .i64 w2,.pointer o,.bool s.a,.bool s.b] /\
 uk V (.agg #[.int .i64 x1,.int .i64 x2,.pointer p,.int .i64 y1,.int .i64 y2,.pointer q,.int .i64 z1,.int .i64 z2,.pointer r]) l /\
 At V (.agg #[.int .i64 u1,.int .i64 u2,.pointer t,.int .i64 w1,.int .i64 w2,.pointer o,.bool s.a,.bool s.b]) s
theorem xE.le {V V':View}{v:Value}{l:L3}{s:Sp}(h:xE V v l s)(e:V.Le V'):xE V' v l s:=by
 obtain ⟨a,b,p,c,d,q,f,g,r,i,j,t,k,m,o,rfl,n,u⟩:=h;exact ⟨a,b,p,c,d,q,f,g,r,i,j,t,k,m,o,rfl,n.le e,u.le e⟩
def Hb (V:View)(v:Value)(b:Bool)(xs ys:List Nat):Prop:=∃p n c p' n' c',v=.agg #[.bool b,.slice p n c,.slice p' n' c']/\RD V p n c xs/\RD V p' n' c' ys
theorem Hb.le {V V':View}{v:Value}{b:Bool}{xs ys:List Nat}(h:Hb V v b xs ys)(l:V.Le V'):Hb V' v b xs ys:=by
 obtain ⟨p,n,c,a,d,f,e,g,i⟩:=h;exact ⟨p,n,c,a,d,f,e,g.le l,i.le l⟩
theorem Hb.nil {V:View}:Hb V (.agg #[.bool false,.slice none 0 0,.slice none 0 0]) false [] []:=⟨_,_,_,_,_,_,rfl,RD.nil,RD.nil⟩
def RE (V:View)(v:Value)(q:Rat)(no:Bool):Prop:=(no=true->Hb V v false [] [])/\(no=false->RA V v q)
theorem RE.le {V V':View}{v:Value}{q:Rat}{no:Bool}(h:RE V v q no)(l:V.Le V'):RE V' v q no:=⟨fun e=>(h.1 e).le l,fun e=>(h.2 e).le l⟩
theorem RE.shape {V:View}{v:Value}{q:Rat}{no:Bool}(h:RE V v q no):∃b p n c p' n' c',v=.agg #[.bool b,.slice p n c,.slice p' n' c']:=by
 cases no with
 | true=>obtain ⟨_,_,_,_,_,_,e,-⟩:=h.1 rfl;exact ⟨_,_,_,_,_,_,_,e⟩
 | false=>exact (h.2 rfl).shape
def Lu (V:View)(v:Value)(s:Sp):Prop:=∃b p n c p' n' c' d q m e q' m' e',v=.agg #[.bool b,.slice p n c,.slice p' n' c',.bool d,.slice q m e,.slice q' m' e',.bool s.a,.bool s.b] /\
 RE V (.agg #[.bool b,.slice p n c,.slice p' n' c']) s.lo s.a/\RE V (.agg #[.bool d,.slice q m e,.slice q' m' e']) s.hi s.b
theorem Lu.le {V V':View}{v:Value}{s:Sp}(h:Lu V v s)(l:V.Le V'):Lu V' v s:=by
 obtain ⟨b,p,n,c,g,i,j,d,q,m,e,k,o,r,rfl,a,f⟩:=h;exact ⟨_,_,_,_,_,_,_,_,_,_,_,_,_,_,rfl,a.le l,f.le l⟩
def xD (V:View)(v:Value)(l:L3)(s:Sp):Prop:=∃b1 p1 n1 c1 b2 p2 n2 c2 b3 p3 n3 c3 b p n c p' n' c' d q m e q' m' e',
 v=.agg #[.bool b1,.slice p1 n1 c1,.bool b2,.slice p2 n2 c2,.bool b3,.slice p3 n3 c3,.bool b,.slice p n c,.slice p' n' c',.bool d,.slice q m e,.slice q' m' e',.bool s.a,.bool s.b] /\
 RL V (.agg #[.bool b1,.slice p1 n1 c1,.bool b2,.slice p2 n2 c2,.bool b3,.slice p3 n3 c3]) l.1 l.2.1 l.2.2/\Lu V (.agg #[.bool b,.slice p n c,.slice p' n' c',.bool d,.slice q m e,.slice q' m' e',.bool s.a,.bool s.b]) s
theorem xD.le {V V':View}{v:Value}{l:L3}{s:Sp}(h:xD V v l s)(e:V.Le V'):xD V' v l s:=by
 obtain ⟨b1,i,j,k,b2,o,r,t,b3,u,w,x,b,p,n,c,y,z,A,d,q,m,f,B,C,D,rfl,a,g⟩:=h;exact ⟨_,_,_,_,_,_,_,_,_,_,_,_,_,_,_,_,_,_,_,_,_,_,_,_,_,_,rfl,a.le e,g.le e⟩
def pz (V:View)(v:Value)(s:Sp):Prop:=∃b p n c p' n' c' d q m e q' m' e',v=.agg #[.bool b,.slice p n c,.slice p' n' c',.bool d,.slice q m e,.slice q' m' e',.bool s.a,.bool s.b] /\
 RQ V (.agg #[.bool b,.slice p n c,.slice p' n' c']) s.lo/\RQ V (.agg #[.bool d,.slice q m e,.slice q' m' e']) s.hi
theorem pz.le {V V':View}{v:Value}{s:Sp}(h:pz V v s)(l:V.Le V'):pz V' v s:=by
 obtain ⟨b,p,n,c,g,i,j,d,q,m,e,k,o,r,rfl,a,f⟩:=h;exact ⟨_,_,_,_,_,_,_,_,_,_,_,_,_,_,rfl,a.le l,f.le l⟩
def RF (V:View)(v:Value)(l:L3)(s:Sp):Prop:=∃b1 p1 n1 c1 b2 p2 n2 c2 b3 p3 n3 c3 b p n c p' n' c' d q m e q' m' e',
 v=.agg #[.bool b1,.slice p1 n1 c1,.bool b2,.slice p2 n2 c2,.bool b3,.slice p3 n3 c3,.bool b,.slice p n c,.slice p' n' c',.bool d,.slice q m e,.slice q' m' e',.bool s.a,.bool s.b] /\
 RL V (.agg #[.bool b1,.slice p1 n1 c1,.bool b2,.slice p2 n2 c2,.bool b3,.slice p3 n3 c3]) l.1 l.2.1 l.2.2/\pz V (.agg #[.bool b,.slice p n c,.slice p' n' c',.bool d,.slice q m e,.slice q' m' e',.bool s.a,.bool s.b]) s
theorem RF.le {V V':View}{v:Value}{l:L3}{s:Sp}(h:RF V v l s)(e:V.Le V'):RF V' v l s:=by
 obtain ⟨b1,i,j,k,b2,o,r,t,b3,u,w,x,b,p,n,c,y,z,A,d,q,m,f,B,C,D,rfl,a,g⟩:=h;exact ⟨_,_,_,_,_,_,_,_,_,_,_,_,_,_,_,_,_,_,_,_,_,_,_,_,_,_,rfl,a.le e,g.le e⟩
theorem fY {V:View}{v:Value}{a b c:Int}(h:RL V v a b c):∃b1 p1 n1 c1 b2 p2 n2 c2 b3 p3 n3 c3,v=.agg #[.bool b1,.slice p1 n1 c1,.bool b2,.slice p2 n2 c2,.bool b3,.slice p3 n3 c3]:=by
 obtain ⟨_,_,_,_,_,_,_,_,_,e,-⟩:=h;exact ⟨_,_,_,_,_,_,_,_,_,_,_,_,e⟩
theorem jh {V:View}{v:Value}{x y:Rat}(h:RP V v x y):∃b1 p1 n1 c1 p2 n2 c2 b3 p3 n3 c3 p4 n4 c4,v=.agg #[.bool b1,.slice p1 n1 c1,.slice p2 n2 c2,.bool b3,.slice p3 n3 c3,.slice p4 n4 c4]:=by
 obtain ⟨_,_,_,_,_,_,_,_,_,_,_,_,e,-⟩:=h;exact ⟨_,_,_,_,_,_,_,_,_,_,_,_,_,_,e⟩
def aI (l:L3)(x y:Rat):Rat:=(l.1:Rat)*x+(l.2.1:Rat)*y+(l.2.2:Rat)
def cF (l:L3):Rat:=(l.1:Rat)*(l.1:Rat)+(l.2.1:Rat)*(l.2.1:Rat)
def dz (l:L3)(x y:Rat):Rat:=((l.2.1:Rat)*x-(l.1:Rat)*y)*(cF l)⁻¹
def j_ (l:L3)(t:Rat):Rat:=(l.2.1:Rat)*t-(l.1:Rat)*(l.2.2:Rat)*(cF l)⁻¹
def kH (l:L3)(t:Rat):Rat:=-((l.1:Rat)*t)-(l.2.1:Rat)*(l.2.2:Rat)*(cF l)⁻¹
def revL (l:L3):L3:=(-l.1,-l.2.1,-l.2.2)
def Sp.neg (s:Sp):Sp:=⟨if s.b then 0 else -s.hi,if s.a then 0 else -s.lo,s.b,s.a⟩
def Sp.has (s:Sp)(t:Rat):Bool:=(s.a||decide (cmpQ s.lo t<=0))&&(s.b||decide (cmpQ s.hi t≥0))
def Sp.emp (s:Sp):Bool:=!s.a&&!s.b&&decide (cmpQ s.lo s.hi≥0)
def Nz (l:L3):Prop:=¬(l.1=0/\l.2.1=0)
theorem sq_nonneg (x:Int):0<=x*x:=by
 rw [←Int.natAbs_mul_self];exact Int.natCast_nonneg _
theorem J0 (l:L3):cF l=((l.1*l.1+l.2.1*l.2.1:Int):Rat):=by unfold cF;simp
theorem Nz.norm {l:L3}(h:Nz l):cF l≠0:=by
 rw [J0];have d:=sq_nonneg l.1;have f:=sq_nonneg l.2.1
 have a:l.1*l.1+l.2.1*l.2.1≠0:=by
  intro e;have b:l.1*l.1=0:=by omega
  have c:l.2.1*l.2.1=0:=by omega
  exact h ⟨(Int.mul_eq_zero.1 b).elim id id,(Int.mul_eq_zero.1 c).elim id id⟩
 exact_mod_cast a
theorem C_ {q:Rat}(h:q≠0):q.num≠0:=fun e=>h (Rat.num_eq_zero.1 e)
theorem A6 {V:View}{l p:Value}{L:L3}{x y:Rat}(hl:uk V l L)(hp:jY V p x y){k:Nat}(sl:eG k L)(s1:Sz k x)(s2:Sz k y)(hk:8*k+7<274877906944) :
  ae prog 107 #[l,p] V fun r V'=>RR V' r (dz L x y):=by
 refine (uU hl hp sl.1 sl.2.1 sl.2.2 s1 s2 hk).mono ?_;rintro r V2 a g
 have e:dz L x y=((((L.2.1:Rat))*x+(-(L.1:Rat))*y)*(((L.2.1:Rat))*((L.2.1:Rat))+(-(L.1:Rat))*(-(L.1:Rat)))⁻¹):=by
  unfold dz cF;grind
 rw [e];exact g
theorem lD {L:L3}{x y:Rat}{k:Nat}(sl:eG k L)(s1:Sz k x)(s2:Sz k y):Sz (8*k+7) (dz L x y):=by
 have e:dz L x y=((((L.2.1:Rat))*x+(-(L.1:Rat))*y)*(((L.2.1:Rat))*((L.2.1:Rat))+(-(L.1:Rat))*(-(L.1:Rat)))⁻¹):=by
  unfold dz cF;grind
 rw [e];exact sk sl.1 sl.2.1 sl.2.2 s1 s2
theorem VF {V:View}{l t:Value}{L:L3}{x:Rat}(hl:uk V l L)(ht:RR V t x){k:Nat}(sl:eG k L)(s1:Sz k x)(hk:20*k+19<274877906944) :
  ae prog 172 #[l,t] V fun r V'=>jY V' r (j_ L x) (kH L x):=by
 refine (Cl hl ht sl.1 sl.2.1 sl.2.2 s1 hk).mono ?_;rintro r V2 c g;have a:j_ L x=((L.1:Rat)*((-(L.2.2:Rat))*((L.1:Rat)*(L.1:Rat)+(L.2.1:Rat)*(L.2.1:Rat))⁻¹))+((L.2.1:Rat)*x):=by unfold j_ cF;grind
 have b:kH L x=((L.2.1:Rat)*((-(L.2.2:Rat))*((L.1:Rat)*(L.1:Rat)+(L.2.1:Rat)*(L.2.1:Rat))⁻¹))+((-(L.1:Rat))*x):=by unfold kH cF;grind
 rw [a,b];exact g
theorem BC {L:L3}{x:Rat}{k:Nat}(sl:eG k L)(s1:Sz k x):Sz (20*k+19) (j_ L x):=by
 have a:j_ L x=((L.1:Rat)*((-(L.2.2:Rat))*((L.1:Rat)*(L.1:Rat)+(L.2.1:Rat)*(L.2.1:Rat))⁻¹))+((L.2.1:Rat)*x):=by unfold j_ cF;grind
 rw [a];exact yW sl.1 sl.2.1 sl.2.2 s1
theorem BD {L:L3}{x:Rat}{k:Nat}(sl:eG k L)(s1:Sz k x):Sz (20*k+19) (kH L x):=by
 have a:kH L x=((L.2.1:Rat)*((-(L.2.2:Rat))*((L.1:Rat)*(L.1:Rat)+(L.2.1:Rat)*(L.2.1:Rat))⁻¹))+((-(L.1:Rat))*x):=by unfold kH cF;grind
 rw [a];exact yX sl.1 sl.2.1 sl.2.2 s1
theorem iz (q:Rat):q.num.sign=0↔q=0:=by rw [Int.sign_eq_zero_iff_zero,Rat.num_eq_zero]
theorem Pl {V:View}{l p:Value}{L:L3}{x y:Rat}(hl:uk V l L)(hp:jY V p x y){k:Nat}(sl:eG k L)(s1:Sz k x)(s2:Sz k y)(hk:16*k+16<274877906944) :
  ae prog 108 #[l,p] V fun r V'=>r=.int .i64 (aI L x y).num.sign:=xJ hl hp sl.1 sl.2.1 sl.2.2 s1 s2 hk
theorem zW {V:View}{l:Value}{L:L3}(hl:uk V l L){k:Nat}(sl:eG k L)(hk:1*k+1<274877906944) :
  ae prog 93 #[l] V fun r V'=>uk V' r (revL L):=by
 refine (qW hl sl.1 sl.2.1 sl.2.2 hk).mono ?_;rintro r V2 a g;unfold uk revL;simpa using g
theorem eG.rev {k:Nat}{L:L3}(h:eG k L):eG k (revL L):=by
 unfold eG revL;simp only [Rat.intCast_neg];exact ⟨h.1.neg,h.2.1.neg,h.2.2.neg⟩
theorem Fw {L:L3}(h:Nz L):((((((L.2.1:Int):Rat)))*((((L.2.1:Int):Rat))))+(((-(((L.1:Int):Rat))))*((-(((L.1:Int):Rat)))))).num≠0:=by
 have:(((((L.2.1:Int):Rat)))*((((L.2.1:Int):Rat))))+(((-(((L.1:Int):Rat))))*((-(((L.1:Int):Rat)))))=cF L:=by unfold cF;grind
 rw [this];exact C_ h.norm
theorem p_ {V:View}{l p:Value}{L:L3}{x y:Rat}(hl:RL V l L.1 L.2.1 L.2.2)(hp:RP V p x y)(hz:Nz L){k:Nat}(sl:eG k L)(s1:Sz k x)(s2:Sz k y)(hk:8*k+7<274877906944) :
  ae prog 61 #[l,p] V fun r V'=>RQ V' r (dz L x y):=by
 refine (xQ hl hp (Fw hz) sl.1 sl.2.1 sl.2.2 s1 s2 hk).mono ?_;rintro r V2 a g
 have e:dz L x y=((((x)*((((L.2.1:Int):Rat))))+((y)*((-(((L.1:Int):Rat))))))*((((((L.2.1:Int):Rat)))*((((L.2.1:Int):Rat))))+(((-(((L.1:Int):Rat))))*((-(((L.1:Int):Rat))))))⁻¹):=by
  unfold dz cF;grind
 rw [e];exact g
theorem SE {V:View}{l t:Value}{L:L3}{x:Rat}(hl:RL V l L.1 L.2.1 L.2.2)(ht:RQ V t x)(hz:Nz L){k:Nat}(sl:eG k L)(s1:Sz k x)(hk:18*k+16<274877906944) :
  ae prog 17 #[l,t] V fun r V'=>RP V' r (j_ L x) (kH L x):=by
 refine (EL hl ht (Fw hz) sl.1 sl.2.1 sl.2.2 s1 hk).mono ?_;rintro r V2 c g;have a:j_ L x=(((-((((L.2.2:Int):Rat))*((((((L.2.1:Int):Rat)))*((((L.2.1:Int):Rat))))+(((-(((L.1:Int):Rat))))*((-(((L.1:Int):Rat))))))⁻¹))*(((L.1:Int):Rat)))+(x)*(((L.2.1:Int):Rat))):=by unfold j_ cF;grind
 have b:kH L x=(((-((((L.2.2:Int):Rat))*((((((L.2.1:Int):Rat)))*((((L.2.1:Int):Rat))))+(((-(((L.1:Int):Rat))))*((-(((L.1:Int):Rat))))))⁻¹))*(((L.2.1:Int):Rat)))+(x)*(-(((L.1:Int):Rat)))):=by unfold kH cF;grind
 rw [a,b];exact g
theorem Fv {V:View}{l p:Value}{L:L3}{x y:Rat}(hl:RL V l L.1 L.2.1 L.2.2)(hp:RP V p x y){k:Nat}(sl:eG k L)(s1:Sz k x)(s2:Sz k y)(hk:16*k+16<274877906944) :
  ae prog 59 #[l,p] V fun r V'=>r=.int .i64 (aI L x y).num.sign:=AO hl hp sl.1 sl.2.1 sl.2.2 s1 s2 hk
structure P4 (V:View) (vs:List Value) (i:Int) (f a b c:Rat):Prop where
 h0:0<=i
 h3:i<=3
 row:∃(x1 x2:Int)(p:OA)(y1 y2:Int)(q:OA)(z1 z2:Int)(r:OA),vs=[.int .i64 x1,.int .i64 x2,.pointer p,.int .i64 y1,.int .i64 y2,.pointer q,.int .i64 z1,.int .i64 z2,.pointer r] /\
  RR V (.agg #[.int .i64 x1,.int .i64 x2,.pointer p]) (if 0<i then a*f else a)/\RR V (.agg #[.int .i64 y1,.int .i64 y2,.pointer q]) (if 1<i then b*f else b)/\RR V (.agg #[.int .i64 z1,.int .i64 z2,.pointer r]) (if 2<i then c*f else c)
theorem P4.le {V V':View}{vs:List Value}{i:Int}{f a b c:Rat}(h:P4 V vs i f a b c)(l:V.Le V'):P4 V' vs i f a b c:=by
 obtain ⟨d,g,j,k,p,m,n,q,o,s,r,e,t,u,v⟩:=h;exact ⟨d,g,j,k,p,m,n,q,o,s,r,e,t.le l,u.le l,v.le l⟩
theorem AJ {V:View}{u:Value}{f a b c:Rat}{lb:Nat}{vs:List Value}(hf:RR V u f)(hv:P4 V vs 0 f a b c)(hw:V.w.heap[lb]?=some (.cells vs.toArray 98 (0,0)))(hx:V.X lb)
  {k:Nat}(sf:Sz k f)(sa:Sz k a)(sb:Sz k b)(sc:Sz k c)(hk:2*k<1099511627776) :
  ae prog 243 #[u,.slice (some ⟨lb,0,none⟩) 3 3] V fun r V'=>∃(bk:Nat)(ws:List Value),r=.slice (some ⟨bk,0,none⟩) 3 3/\V'.w.heap[bk]?=some (.cells ws.toArray 98 (0,0))/\(V.w.heap.size<=bk\/bk=lb)/\P4 (V'.gX (ws≠[]) bk) ws 3 f a b c:=by
 have I:=hf;obtain ⟨f0,f1,f2,rfl⟩:=hf.shape;have K:vs≠[]:=by obtain ⟨_,_,t,v,p,x,y,q,A,B,r,rfl,-⟩:=hv;exact fun h=>nomatch h
 refine yE f0 f1 f2 lb 3 3 vs V _ (fun _=>hw) (fun _=>hx) ⟨fun z V'=>P4 V' z.2 z.1 f a b c/\RR V' (.agg #[.int .i64 f0,.int .i64 f1,.pointer f2]) f,fun z=>(3-z.1).toNat,⟨(0,vs),by (try dsimp only);and_intros<;>trivial,hv,I⟩,?_⟩;rintro ⟨i,ws⟩ P Q ⟨H,e⟩;refine ⟨rfl,fun C=>?_,fun C=>?_⟩
 ·have C:i<3:=of_decide_eq_true C;dsimp only;obtain ⟨R,h3,t,v,p,x,y,q,A,B,r,rfl,m,n,s⟩:=H;have w:i64.wrap (i+1)=i+1:=aw (by omega);rw [w];have L:i=0\/i=1\/i=2:=by omega
  rcases L with rfl|rfl|rfl
  ·rw [if_neg (by (try dsimp only);decide)] at m;rw [if_neg (by (try dsimp only);decide)] at n;rw [if_neg (by (try dsimp only);decide)] at s;refine ⟨⟨by decide,by decide⟩,by decide,t,v,p,⟨by simp,rfl⟩,fun V2 d=>(js (m.le d) (e.le d) sa sf (by omega)).mono ?_⟩;rintro o J j g;have D:=g;obtain ⟨E,F,G,rfl⟩:=g.shape;exact ⟨_,_,_,rfl,⟨by decide,by decide⟩,by decide,by simp,(1,[.int .i64 E,.int .i64 F,.pointer G,.int .i64 x,.int .i64 y,.pointer q,.int .i64 A,.int .i64 B,.pointer r]),by dsimp only;decide,by and_intros<;>rfl,⟨by dsimp only;decide,by dsimp only;decide,_,_,_,_,_,_,_,_,_,rfl,by rw [if_pos (by (try dsimp only);decide)];exact D,by rw [if_neg (by (try dsimp only);decide)];exact n.le (d.trans j),by rw [if_neg (by (try dsimp only);decide)];exact s.le (d.trans j)⟩,e.le (d.trans j)⟩
  ·rw [if_pos (by (try dsimp only);decide)] at m;rw [if_neg (by (try dsimp only);decide)] at n;rw [if_neg (by (try dsimp only);decide)] at s;refine ⟨⟨by decide,by decide⟩,by decide,x,y,q,⟨by simp,rfl⟩,fun V2 d=>(js (n.le d) (e.le d) sb sf (by omega)).mono ?_⟩;rintro o J j g;have D:=g;obtain ⟨E,F,G,rfl⟩:=g.shape;exact ⟨_,_,_,rfl,⟨by decide,by decide⟩,by decide,by simp,(2,[.int .i64 t,.int .i64 v,.pointer p,.int .i64 E,.int .i64 F,.pointer G,.int .i64 A,.int .i64 B,.pointer r]),by dsimp only;decide,by and_intros<;>rfl,⟨by dsimp only;decide,by dsimp only;decide,_,_,_,_,_,_,_,_,_,rfl,by rw [if_pos (by (try dsimp only);decide)];exact m.le (d.trans j),by rw [if_pos (by (try dsimp only);decide)];exact D,by rw [if_neg (by (try dsimp only);decide)];exact s.le (d.trans j)⟩,e.le (d.trans j)⟩
  ·rw [if_pos (by (try dsimp only);decide)] at m;rw [if_pos (by (try dsimp only);decide)] at n;rw [if_neg (by (try dsimp only);decide)] at s;refine ⟨⟨by decide,by decide⟩,by decide,A,B,r,⟨by simp,rfl⟩,fun V2 d=>(js (s.le d) (e.le d) sc sf (by omega)).mono ?_⟩;rintro o J j g;have D:=g;obtain ⟨E,F,G,rfl⟩:=g.shape;exact ⟨_,_,_,rfl,⟨by decide,by decide⟩,by decide,by simp,(3,[.int .i64 t,.int .i64 v,.pointer p,.int .i64 x,.int .i64 y,.pointer q,.int .i64 E,.int .i64 F,.pointer G]),by dsimp only;decide,by and_intros<;>rfl,⟨by dsimp only;decide,by dsimp only;decide,_,_,_,_,_,_,_,_,_,rfl,by rw [if_pos (by (try dsimp only);decide)];exact m.le (d.trans j),by rw [if_pos (by (try dsimp only);decide)];exact n.le (d.trans j),by rw [if_pos (by (try dsimp only);decide)];exact D⟩,e.le (d.trans j)⟩
 ·have C:¬i<3:=of_decide_eq_false C;obtain rfl:i=3:=by have:=H.h3;omega
  dsimp only;intro S bk M N O;have l:ws≠[]:=by obtain ⟨_,_,t,v,p,x,y,q,A,B,r,rfl,-⟩:=H;exact fun h=>nomatch h
  refine ⟨bk,ws,rfl,N l,?_,H.le M⟩;rcases O l with h|⟨-,h⟩|h
  ·exact .inl h
  ·exact .inr h
  ·exact h.elim
theorem N7 {a b c:Rat}{k:Nat}(sa:Sz k a)(sb:Sz k b)(sc:Sz k c):Sz (3*k+2) (cQ (cQ a b) c)⁻¹:=
 fE (Sz.mono (fP (fP sa sb) sc) (by omega))
theorem MW {a b c:Rat}{k:Nat}(sa:Sz k a)(sb:Sz k b)(sc:Sz k c)(h:¬(a=0/\b=0)):eG (4*k+3) (rJ a b c):=by
 obtain ⟨-,e,f,g⟩:=kr (c:=c) h;have d:=N7 sa sb sc;unfold eG;rw [←e,←f,←g];exact ⟨Sz.mono (Sz.mul sa d) (by omega),Sz.mono (Sz.mul sb d) (by omega),Sz.mono (Sz.mul sc d) (by omega)⟩
theorem EE {V:View}{u v w:Value}{a b c:Rat}(ha:RR V u a)(hb:RR V v b)(hc:RR V w c){k:Nat}(sa:Sz k a)(sb:Sz k b)(sc:Sz k c)(hk:8*k+8<274877906944) :
  ae prog 218 #[u,v,w] V fun r V'=>(a=0/\b=0->∃l,r=.tuple #[l,.bool false]/\uk V' l (0,0,0))/\(¬(a=0/\b=0)->∃l,r=.tuple #[l,.bool true]/\uk V' l (rJ a b c)):=by
 have e:=ha;have f:=hb;have g:=hc;obtain ⟨s,t,x,rfl⟩:=ha.shape;obtain ⟨y,b1,b2,rfl⟩:=hb.shape;obtain ⟨z,A,B,rfl⟩:=hc.shape;have sg:=N7 sa sb sc
 have gen:∀J:View,V.Le J->¬(a=0/\b=0)->(∀K:View,J.Le K->ae prog 89 #[.agg #[.int .i64 s,.int .i64 t,.pointer x],.agg #[.int .i64 y,.int .i64 b1,.pointer b2]] K fun L V7=>∃Zg:Int,∃S_:Int,∃YZ:OA,L=.agg #[.int .i64 Zg,.int .i64 S_,.pointer YZ]/\(∀M:View,V7.Le M->ae prog 89 #[.agg #[.int .i64 Zg,.int .i64 S_,.pointer YZ],.agg #[.int .i64 z,.int .i64 A,.pointer B]] M fun N V9=>∃Zi:Int,∃Zj:Int,∃Y1:OA,N=.agg #[.int .i64 Zi,.int .i64 Zj,.pointer Y1]/\(∀O:View,V9.Le O->ae prog 203 #[.agg #[.int .i64 Zi,.int .i64 Zj,.pointer Y1]] O fun Wc P=>∃Te:Int,∃K3:Int,∃Ka:OA,Wc=.agg #[.int .i64 Te,.int .i64 K3,.pointer Ka]/\(∀d:View,P.Le d->∀Cf:Nat,(d.w.heap[Cf]?=some (.cells #[.int .i64 s,.int .i64 t,.pointer x,.int .i64 y,.int .i64 b1,.pointer b2,.int .i64 z,.int .i64 A,.pointer B] 98 (0,0)))->(d.H Cf)->ae prog 243 #[.agg #[.int .i64 Te,.int .i64 K3,.pointer Ka],.slice (some ⟨Cf,0,none⟩) 3 3] (d.aF [Cf]) fun We C=>∃(Cg:Nat)(ou:List Value),(ou≠[]->C.w.heap[Cg]?=some (.cells ou.toArray 98 (0,0)))/\(ou≠[]->d.w.heap.size<=Cg\/Cg=Cf)/\∃(p13_:OA)(Fi IW:Nat),We=.slice (mA Cg IW) Fi IW/\((0<=(0:Int)/\(0:Int)<((Fi:Nat):Int))/\(Fi<=IW)/\(∃S4:Int,∃S5:Int,∃Sm:OA,(3<=ou.length/\(ou.drop 0).take 3=[.int .i64 S4,.int .i64 S5,.pointer Sm])/\((0<=(1:Int)/\(1:Int)<((Fi:Nat):Int))/\(Fi<=IW)/\(∃S6:Int,∃S7:Int,∃Sn:OA,(6<=ou.length/\(ou.drop 3).take 3=[.int .i64 S6,.int .i64 S7,.pointer Sn])/\((0<=(2:Int)/\(2:Int)<((Fi:Nat):Int))/\(Fi<=IW)/\(∃S8:Int,∃S9:Int,∃So:OA,(9<=ou.length/\(ou.drop 6).take 3=[.int .i64 S8,.int .i64 S9,.pointer So])/\(∀D:View,(C.shut.gX (ou≠[]) Cg).Le D->(fun (r:Value) (V':View)=>(a=0/\b=0->∃l,r=.tuple #[l,.bool false]/\uk V' l (0,0,0))/\(¬(a=0/\b=0)->∃l,r=.tuple #[l,.bool true]/\uk V' l (rJ a b c))) (.tuple #[.agg #[.int .i64 S4,.int .i64 S5,.pointer Sm,.int .i64 S6,.int .i64 S7,.pointer Sn,.int .i64 S8,.int .i64 S9,.pointer So],.bool true]) D))))))))))):=by
  intro J E i K F;refine (gy (e.le (E.trans F)) (f.le (E.trans F)) sa sb (by omega)).mono ?_;rintro r V7 l7 g1;have Q:=g1;obtain ⟨_,_,_,rfl⟩:=g1.shape;refine ⟨_,_,_,rfl,fun M R=>(gy (Q.le R) (g.le (E.trans (F.trans (l7.trans R)))) (fP sa sb) sc (by omega)).mono ?_⟩;rintro r V9 l9 g2;have S:=g2;obtain ⟨_,_,_,rfl⟩:=g2.shape;refine ⟨_,_,_,rfl,fun O j=>(Gg (S.le j) (fP (fP sa sb) sc) (by omega)).mono ?_⟩;rintro r P bF g3;have jZ:=g3;obtain ⟨_,_,_,rfl⟩:=g3.shape;refine ⟨_,_,_,rfl,fun d cu G T U=>?_⟩;have W:V.Le (d.aF [G]):=fun b o h=>cu b o (bF b o (j b o (l9 b o (R b o (l7 b o (F b o (E b o h)))))));have RJ:P.Le (d.aF [G]):=fun b o h=>cu b o h
  refine (AJ (V:=d.aF [G]) (a:=a) (b:=b) (c:=c) (lb:=G) (vs:=[.int .i64 s,.int .i64 t,.pointer x,.int .i64 y,.int .i64 b1,.pointer b2,.int .i64 z,.int .i64 A,.pointer B]) (jZ.le RJ)
   ⟨by decide,by decide,_,_,_,_,_,_,_,_,_,rfl,by rw [if_neg (by (try dsimp only);decide)];exact e.le W,by rw [if_neg (by (try dsimp only);decide)];exact f.le W,by rw [if_neg (by (try dsimp only);decide)];exact g.le W⟩ T ⟨by simp,U⟩ (Sz.mono sg (by omega):Sz (3*k+2) _) (Sz.mono sa (by omega)) (Sz.mono sb (by omega)) (Sz.mono sc (by omega)) (by omega)).mono ?_
  rintro r C ck ⟨bm,ws,rfl,X,Y,hs⟩;obtain ⟨-,-,x1,x2,p,y1,y2,q,z1,z2,r,rfl,s1,s2,s3⟩:=hs;rw [if_pos (by (try dsimp only);decide)] at s1 s2 s3;refine ⟨bm,_,fun _=>X,fun _=>Y,none,3,3,rfl,⟨by decide,by decide⟩,by decide,x1,x2,p,⟨by simp,rfl⟩,⟨by decide,by decide⟩,by decide,y1,y2,q,⟨by simp,rfl⟩,⟨by decide,by decide⟩,by decide,z1,z2,r,⟨by simp,rfl⟩,fun D dF=>⟨fun h=>absurd h i,fun _=>⟨_,rfl,?_⟩⟩⟩;obtain ⟨-,e1,e2,e3⟩:=kr (c:=c) i;have Z:(C.gX ([Value.int .i64 x1,.int .i64 x2,.pointer p,.int .i64 y1,.int .i64 y2,.pointer q,.int .i64 z1,.int .i64 z2,.pointer r]≠[]) bm).Le D:=fun b o h=>dF b o h;refine ⟨_,_,_,_,_,_,_,_,_,rfl,?_,?_,?_⟩
  ·rw [←e1];exact s1.le Z
  ·rw [←e2];exact s2.le Z
  ·rw [←e3];exact s3.le Z
 refine DU s t x y b1 b2 z A B V _ fun V1 I=>(pF (e.le I)).mono ?_;rintro r V2 l2 rfl;refine ⟨_,rfl,fun m V3 l3=>(pF (f.le (I.trans (l2.trans l3)))).mono ?_,fun m=>?_⟩
 ·rintro r V4 l4 rfl;refine ⟨_,rfl,fun n V5 l5=>?_,fun n=>gen V4 (I.trans (l2.trans (l3.trans l4))) (fun h=>of_decide_eq_false n h.2)⟩;have m:=of_decide_eq_true m;have n:=of_decide_eq_true n;refine ⟨fun _=>⟨_,rfl,_,_,_,_,_,_,_,_,_,rfl,RR.zero _,RR.zero _,RR.zero _⟩,fun h=>absurd ⟨m,n⟩ h⟩
 ·exact gen V2 (I.trans l2) (fun h=>of_decide_eq_false m h.1)
def gZ (px py qx qy:Rat):L3:=rJ (-(qy-py)) (qx-px) (-(-(qy-py)*px+(qx-px)*py))
theorem nG {px py qx qy:Rat}(h:¬(px=qx/\py=qy)):¬(-(qy-py)=0/\qx-px=0):=by
 rintro ⟨a,b⟩;exact h ⟨by grind,by grind⟩
theorem G0 {px py qx qy:Rat}:(px=qx/\py=qy)↔(-(qy-py)=0/\qx-px=0):=⟨fun ⟨a,b⟩=>⟨by grind,by grind⟩,fun ⟨a,b⟩=>⟨by grind,by grind⟩⟩
theorem G1 {px py qx qy:Rat}(h:¬(px=qx/\py=qy)):Nz (gZ px py qx qy):=Mp (nG h)
theorem nE {px py qx qy:Rat}{k:Nat}(s1:Sz k px)(s2:Sz k py)(s3:Sz k qx)(s4:Sz k qy)(h:¬(px=qx/\py=qy)):eG (40*k+40) (gZ px py qx qy):=by
 have a:Sz (2*k+1) (-(qy-py)):=Sz.mono (s4.sub s2).neg (by omega);have b:Sz (2*k+1) (qx-px):=Sz.mono (s3.sub s1) (by omega);have c:Sz (8*k+8) (-(-(qy-py)*px+(qx-px)*py)):=Sz.mono ((a.mul s1).add (b.mul s2)).neg (by omega);have:=MW (k:=8*k+8) (Sz.mono a (by omega)) (Sz.mono b (by omega)) c (nG h);exact ⟨Sz.mono this.1 (by omega),Sz.mono this.2.1 (by omega),Sz.mono this.2.2 (by omega)⟩
theorem xM {V:View}{u v:Value}{px py qx qy:Rat}(hp:jY V u px py)(hq:jY V v qx qy){k:Nat}(s1:Sz k px)(s2:Sz k py)(s3:Sz k qx)(s4:Sz k qy)(hk:100*k+100<274877906944) :
  ae prog 170 #[u,v] V fun r V'=>(px=qx/\py=qy->∃l,r=.tuple #[l,.bool false]/\uk V' l (0,0,0))/\(¬(px=qx/\py=qy)->∃l,r=.tuple #[l,.bool true]/\uk V' l (gZ px py qx qy)):=by
 have a:=hp;have e:=hq;obtain ⟨E,F,G,H,I,J,rfl,-,-⟩:=hp;obtain ⟨K,L,M,N,O,P,rfl,-,-⟩:=hq;have f:Sz (2*k+1) (-(qy-py)):=Sz.mono (s4.sub s2).neg (by omega);have c:Sz (2*k+1) (qx-px):=Sz.mono (s3.sub s1) (by omega);have Q:Sz (2*k+1) (qy-py):=Sz.mono (s4.sub s2) (by omega);have w:Sz (8*k+8) (-(qy-py)*px+(qx-px)*py):=Sz.mono ((f.mul s1).add (c.mul s2)) (by omega);refine wR E F G H I J K L M N O P V _ fun V1 g=>(AH (e.le g) (a.le g) s3 s4 s1 s2 (by omega)).mono ?_;rintro r V2 R x;have i:=x;obtain ⟨_,_,_,_,_,_,rfl,-,-⟩:=x;refine ⟨_,_,_,_,_,_,rfl,fun V3 y=>(xK (i.le y) c Q (by omega)).mono ?_⟩;rintro r V4 S z;have j:=z;obtain ⟨_,_,_,_,_,_,rfl,m,n⟩:=z;refine ⟨_,_,_,_,_,_,rfl,fun V5 d=>(dU (j.le d) (a.le (g.trans (R.trans (y.trans (S.trans d))))) (k:=2*k+1) f c (Sz.mono s1 (by omega)) (Sz.mono s2 (by omega)) (by omega)).mono ?_⟩;rintro r V6 A B;have T:=B;obtain ⟨_,_,_,rfl⟩:=B.shape;refine ⟨_,_,_,rfl,fun V7 o=>(gL (T.le o) w (by omega)).mono ?_⟩;rintro r V8 C D;have U:=D;obtain ⟨_,_,_,rfl⟩:=D.shape;refine ⟨_,_,_,rfl,fun V9 p=>(EE (m.le (d.trans (A.trans (o.trans (C.trans p))))) (n.le (d.trans (A.trans (o.trans (C.trans p))))) (U.le p) (k:=8*k+8) (Sz.mono f (by omega)) (Sz.mono c (by omega)) w.neg (by omega)).mono ?_⟩;rintro r gu W ⟨X,Y⟩;by_cases h:px=qx/\py=qy
 ·obtain ⟨l,rfl,b⟩:=X (G0.1 h);have q:=b;obtain ⟨_,_,_,_,_,_,_,_,_,rfl,-,-,-⟩:=b;exact ⟨_,_,_,_,_,_,_,_,_,_,rfl,fun Z s=>⟨fun _=>⟨_,rfl,q.le s⟩,fun t=>absurd h t⟩⟩
 ·obtain ⟨l,rfl,b⟩:=Y (nG h);have q:=b;obtain ⟨_,_,_,_,_,_,_,_,_,rfl,-,-,-⟩:=b;exact ⟨_,_,_,_,_,_,_,_,_,_,rfl,fun Z s=>⟨fun t=>absurd t h,fun _=>⟨_,rfl,q.le s⟩⟩⟩
def yi (px py qx qy:Rat):Sp:=⟨dz (gZ px py qx qy) px py,dz (gZ px py qx qy) qx qy,false,false⟩
theorem xL {V:View}{u v:Value}{px py qx qy:Rat}(hp:jY V u px py)(hq:jY V v qx qy){k:Nat}(s1:Sz k px)(s2:Sz k py)(s3:Sz k qx)(s4:Sz k qy)(hk:400*k+400<274877906944) :
  ae prog 113 #[u,v] V fun r V'=>(px=qx/\py=qy->∃l,r=.tuple #[l,.bool false]/\xE V' l (0,0,0) Sp.zero)/\(¬(px=qx/\py=qy)->∃l,r=.tuple #[l,.bool true]/\xE V' l (gZ px py qx qy) (yi px py qx qy)):=by
 have a:=hp;have b:=hq;obtain ⟨w,x,y,z,A,B,rfl,-,-⟩:=hp;obtain ⟨C,D,E,F,G,H,rfl,-,-⟩:=hq;refine wQ w x y z A B C D E F G H V _ fun K d=>(xM (a.le d) (b.le d) s1 s2 s3 s4 (by omega)).mono ?_;rintro r V2 p ⟨I,J⟩;by_cases h:px=qx/\py=qy
 ·obtain ⟨l,rfl,e⟩:=I h;obtain ⟨_,_,_,_,_,_,_,_,_,rfl,-,-,-⟩:=e;refine ⟨_,_,_,_,_,_,_,_,_,_,rfl,fun _ L M=>⟨fun _=>⟨_,rfl,?_⟩,fun g=>absurd h g⟩,fun h=>nomatch h⟩;exact ⟨_,_,_,_,_,_,_,_,_,_,_,_,_,_,_,rfl,⟨_,_,_,_,_,_,_,_,_,rfl,RR.zero _,RR.zero _,RR.zero _⟩,_,_,_,_,_,_,rfl,RR.zero _,RR.zero _⟩
 ·obtain ⟨l,rfl,e⟩:=J h;have i:=e;have sl:=nE s1 s2 s3 s4 h;obtain ⟨_,_,_,_,_,_,_,_,_,rfl,-,-,-⟩:=e;refine ⟨_,_,_,_,_,_,_,_,_,_,rfl,(fun h=>nomatch h),fun _ N c=>(A6 (i.le c) (a.le (d.trans (p.trans c))) sl (Sz.mono s1 (by omega)) (Sz.mono s2 (by omega)) (by omega)).mono ?_⟩;rintro r O j q;have m:=q;obtain ⟨_,_,_,rfl⟩:=q.shape;refine ⟨_,_,_,rfl,fun P f=>(A6 (i.le (c.trans (j.trans f))) (b.le (d.trans (p.trans (c.trans (j.trans f))))) sl (Sz.mono s3 (by omega)) (Sz.mono s4 (by omega)) (by omega)).mono ?_⟩;rintro r Q s t;have n:=t;obtain ⟨_,_,_,rfl⟩:=t.shape;refine ⟨_,_,_,rfl,fun R o=>⟨fun g=>absurd g h,fun _=>⟨_,rfl,?_⟩⟩⟩;exact ⟨_,_,_,_,_,_,_,_,_,_,_,_,_,_,_,rfl,i.le (c.trans (j.trans (f.trans (s.trans o)))),_,_,_,_,_,_,rfl,m.le (f.trans (s.trans o)),n.le o⟩
end Go.Proofs.Tryz
