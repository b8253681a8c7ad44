import Derived.Test.YtapnijmlbakblaaGreatDoorZP14
import Derived.Test.YtapnijmlbakblaaGreatDoorZP8
import Derived.Test.YtapnijmlbakblaaGreatDoorZP13
import Derived.Test.YtapnijmlbakblaaGreatDoorZP9
set_option linter.unusedVariables false
open Go.IntKind (i64 u64 u32)
namespace Go.Proofs.Tryz
open Go.Eng Go.Big
theorem uB {V:View}{v:Value}{q:Rat}(h:RQ V v q){k:Nat}(_s:Sz k q)(_hk:k<=1099511627776:=by omega):aa prog 80 #[v] V fun r V'=>RQ V' r (-q):=by
 obtain ⟨p,n,c,d,e,f,rfl,a,b⟩:=h;exact kc q a b
theorem iH {V:View}{z:Int}{p:OA}{n c:Nat}(h:RD V p n c (ai z.natAbs)){k:Nat}(_s:Sz k (z:Rat))(_hk:k<=1099511627776:=by omega) :
  aa prog 102 #[.agg #[.bool (decide (z<0)),.slice p n c]] V fun r V'=>RQ V' r (z:Rat):=Gc z h
theorem lJ {V:View}{l:Value}{bD l_1 c_:Int}(hl:RL V l bD l_1 c_){k:Nat}(bh:Sz k ((bD:Int):Rat))(bo:Sz k ((l_1:Int):Rat))(bf:Sz k ((c_:Int):Rat))(hk:1*k+1<274877906944:=by omega) :
  aa prog 49 #[l] V fun r V'=>RP V' r (((l_1:Int):Rat)) (-(((bD:Int):Rat))):=by
 have p:=hl;obtain ⟨q,a,e,b,f,c,g,d,s,rfl,t,u,x⟩:=hl;refine AY _ q a e _ b f c _ g d s V _ fun y a=>(iH (u.le (a)) bo).mono ?_;rintro r z e j;have h:=j;obtain ⟨A,B,C,D,E,F,rfl⟩:=j.shape;refine ⟨_,_,_,_,_,_,_,rfl,fun G b=>(iH (t.le (a.trans (e.trans (b)))) bh).mono ?_⟩;rintro r H f n;have i:=n;obtain ⟨I,J,K,L,M,N,rfl⟩:=n.shape;have v:=Sz.mono (m:=1*k+0) (bh);refine ⟨_,_,_,_,_,_,_,rfl,fun O c=>(uB (i.le (c)) v).mono ?_⟩;rintro r P g o;have w:=o;obtain ⟨Q,R,S,T,U,W,rfl⟩:=o.shape;exact ⟨_,_,_,_,_,_,_,rfl,fun X d=>⟨_,_,_,_,_,_,_,_,_,_,_,_,rfl,(h.le (b.trans (f.trans (c.trans (g.trans (d)))))),(w.le (d))⟩⟩
theorem eF {bD:Int}{l_1:Int}{c_:Int}{k:Nat}(bh:Sz k ((bD:Int):Rat))(bo:Sz k ((l_1:Int):Rat))(bf:Sz k ((c_:Int):Rat)):Sz (1*k+0) (((l_1:Int):Rat)):=by
 have a:=Sz.mono (m:=1*k+0) (bo);exact Sz.mono a
theorem eG {bD:Int}{l_1:Int}{c_:Int}{k:Nat}(bh:Sz k ((bD:Int):Rat))(bo:Sz k ((l_1:Int):Rat))(bf:Sz k ((c_:Int):Rat)):Sz (1*k+0) (-(((bD:Int):Rat))):=by
 have a:=Sz.mono (m:=1*k+0) (bh);have b:=Sz.mono (m:=1*k+0) (Sz.neg a);exact Sz.mono b
theorem lK {V:View}{p:Value}{fg fh:Rat}{q:Value}{sv sw:Rat}(hp:RP V p fg fh)(hq:RP V q sv sw){k:Nat}(dE:Sz k fg)(dm:Sz k fh)(mU:Sz k sv)(mV:Sz k sw)(hk:4*k+3<274877906944:=by omega) :
  aa prog 103 #[p,q] V fun r V'=>RQ V' r (((fg)*(sv))+((fh)*(sw))):=by
 have j:=hp;obtain ⟨l,n,o,s,t,u,v,w,x,y,z,A,rfl,B,C⟩:=hp;have D:=hq;obtain ⟨E,F,G,H,I,J,K,L,M,N,O,P,rfl,Q,R⟩:=hq;refine AZ _ l n o s t u _ v w x y z A _ E F G H I J _ K L M N O P V _ fun Y a=>(bS (B.le (a)) (Q.le (a)) dE mU).mono ?_;rintro r Z e f;have b:=f;obtain ⟨Nm,Nn,Np,YH,YI,YJ,rfl⟩:=f.shape;have S:=Sz.mono (m:=2*k+1) (Sz.mul dE mU);refine ⟨_,_,_,_,_,_,_,rfl,fun V3 c=>(bS (C.le (a.trans (e.trans (c)))) (R.le (a.trans (e.trans (c)))) dm mV).mono ?_⟩;rintro r V4 T g;have d:=g;obtain ⟨J2,J3,J4,TO,TP,TQ,rfl⟩:=g.shape;have U:=Sz.mono (m:=2*k+1) (Sz.mul dm mV);refine ⟨_,_,_,_,_,_,_,rfl,fun V5 h=>(fQ (b.le (c.trans (T.trans (h)))) (d.le (h)) S U).mono ?_⟩;rintro r V6 l6 i;have W:=i;obtain ⟨Nq,Nr,Ns,TX,TY,TZ,rfl⟩:=i.shape;exact ⟨_,_,_,_,_,_,_,rfl,fun V7 X=>(W.le (X))⟩
theorem eH {fg:Rat}{fh:Rat}{sv:Rat}{sw:Rat}{k:Nat}(dE:Sz k fg)(dm:Sz k fh)(mU:Sz k sv)(mV:Sz k sw):Sz (4*k+3) (((fg)*(sv))+((fh)*(sw))):=by
 have a:=Sz.mono (m:=2*k+1) (Sz.mul dE mU);have b:=Sz.mono (m:=2*k+1) (Sz.mul dm mV);have c:=Sz.mono (m:=4*k+3) (Sz.add a b);exact Sz.mono c
theorem xp {V:View}{l:Value}{bD l_1 c_:Int}{p:Value}{fg fh:Rat}(hl:RL V l bD l_1 c_)(hp:RP V p fg fh)(hd0:((((((l_1:Int):Rat)))*((((l_1:Int):Rat))))+(((-(((bD:Int):Rat))))*((-(((bD:Int):Rat)))))).num≠0){k:Nat}(bh:Sz k ((bD:Int):Rat))(bo:Sz k ((l_1:Int):Rat))(bf:Sz k ((c_:Int):Rat))(dE:Sz k fg)(dm:Sz k fh)(hk:8*k+7<274877906944) :
  aa prog 61 #[l,p] V fun r V'=>RQ V' r ((((fg)*((((l_1:Int):Rat))))+((fh)*((-(((bD:Int):Rat))))))*((((((l_1:Int):Rat)))*((((l_1:Int):Rat))))+(((-(((bD:Int):Rat))))*((-(((bD:Int):Rat))))))⁻¹):=by
 have i:=hl;obtain ⟨x,f,j,b,g,e,n,h,s,rfl,P,Q,R⟩:=hl;have o:=hp;obtain ⟨y,z,A,B,C,D,E,F,G,H,I,J,rfl,S,T⟩:=hp;refine wG _ x f j _ b g e _ n h s _ y z A B C D _ E F G H I J V _ fun U f=>(lJ (i.le (f)) (Sz.mono bh:Sz (1*k+0) _) (Sz.mono bo:Sz (1*k+0) _) (Sz.mono bf:Sz (1*k+0) _)).mono ?_;rintro r W j t;have a:=t;obtain ⟨X,Y,Z,He,Hf,Hg,P4,P5,P6,P7,Md,Me,rfl,Gt,Gu⟩:=t;have c:=Sz.mono (m:=1*k+0) ((eF (Sz.mono bh:Sz (1*k+0) _) (Sz.mono bo:Sz (1*k+0) _) (Sz.mono bf:Sz (1*k+0) _)));have d:=Sz.mono (m:=1*k+0) ((eG (Sz.mono bh:Sz (1*k+0) _) (Sz.mono bo:Sz (1*k+0) _) (Sz.mono bf:Sz (1*k+0) _)));refine ⟨_,_,_,_,_,_,_,_,_,_,_,_,_,_,rfl,fun V3 b=>(lK (o.le (f.trans (j.trans (b)))) (a.le (b)) (Sz.mono dE:Sz (1*k+0) _) (Sz.mono dm:Sz (1*k+0) _) (Sz.mono c:Sz (1*k+0) _) (Sz.mono d:Sz (1*k+0) _)).mono ?_⟩;rintro r V4 g u;have q:=u;obtain ⟨J2,J3,J4,TO,TP,TQ,rfl⟩:=u.shape;have K:=Sz.mono (m:=4*k+3) ((eH (Sz.mono dE:Sz (1*k+0) _) (Sz.mono dm:Sz (1*k+0) _) (Sz.mono c:Sz (1*k+0) _) (Sz.mono d:Sz (1*k+0) _)));refine ⟨_,_,_,_,_,_,_,rfl,fun V5 e=>(lK (a.le (b.trans (g.trans (e)))) (a.le (b.trans (g.trans (e)))) (Sz.mono c:Sz (1*k+0) _) (Sz.mono d:Sz (1*k+0) _) (Sz.mono c:Sz (1*k+0) _) (Sz.mono d:Sz (1*k+0) _)).mono ?_⟩;rintro r V6 n v;have L:=v;obtain ⟨Nq,Nr,Ns,TX,TY,TZ,rfl⟩:=v.shape;have M:=Sz.mono (m:=4*k+3) ((eH (Sz.mono c:Sz (1*k+0) _) (Sz.mono d:Sz (1*k+0) _) (Sz.mono c:Sz (1*k+0) _) (Sz.mono d:Sz (1*k+0) _)));refine ⟨_,_,_,_,_,_,_,rfl,fun V7 h=>(uC (q.le (e.trans (n.trans (h)))) (L.le (h)) hd0 K M).mono ?_⟩;rintro r V8 s w;have N:=w;obtain ⟨T0,T1,T2,Y2,Y3,Y4,rfl⟩:=w.shape;exact ⟨_,_,_,_,_,_,_,rfl,fun V9 O=>(N.le (O))⟩
theorem zR {V:View}{l:Value}{bD l_1 c_:Int}(hl:RL V l bD l_1 c_)(hd0:((((((l_1:Int):Rat)))*((((l_1:Int):Rat))))+(((-(((bD:Int):Rat))))*((-(((bD:Int):Rat)))))).num≠0){k:Nat}(bh:Sz k ((bD:Int):Rat))(bo:Sz k ((l_1:Int):Rat))(bf:Sz k ((c_:Int):Rat))(hk:6*k+5<274877906944:=by omega) :
  aa prog 48 #[l] V fun r V'=>RP V' r ((-((((c_:Int):Rat))*((((((l_1:Int):Rat)))*((((l_1:Int):Rat))))+(((-(((bD:Int):Rat))))*((-(((bD:Int):Rat))))))⁻¹))*(((bD:Int):Rat))) ((-((((c_:Int):Rat))*((((((l_1:Int):Rat)))*((((l_1:Int):Rat))))+(((-(((bD:Int):Rat))))*((-(((bD:Int):Rat))))))⁻¹))*(((l_1:Int):Rat))):=by
 have s:=hl;obtain ⟨P,c,f,a,d,b,g,e,j,rfl,Q,R,S⟩:=hl;refine yk _ P c f _ a d b _ g e j V _ fun V1 c=>(lJ (s.le (c)) (Sz.mono bh:Sz (1*k+0) _) (Sz.mono bo:Sz (1*k+0) _) (Sz.mono bf:Sz (1*k+0) _)).mono ?_;rintro r V2 f y;have h:=y;obtain ⟨Hb,Hc,Hd,He,Hf,Hg,P4,P5,P6,P7,Md,Me,rfl,Gt,Gu⟩:=y;have n:=Sz.mono (m:=1*k+0) ((eF (Sz.mono bh:Sz (1*k+0) _) (Sz.mono bo:Sz (1*k+0) _) (Sz.mono bf:Sz (1*k+0) _)));have o:=Sz.mono (m:=1*k+0) ((eG (Sz.mono bh:Sz (1*k+0) _) (Sz.mono bo:Sz (1*k+0) _) (Sz.mono bf:Sz (1*k+0) _)));refine ⟨_,_,_,_,_,_,_,_,_,_,_,_,_,_,rfl,fun V3 a=>(iH (S.le (c.trans (f.trans (a)))) bf).mono ?_⟩;rintro r V4 d z;have t:=z;obtain ⟨J2,J3,J4,TO,TP,TQ,rfl⟩:=z.shape;have A:=Sz.mono (m:=1*k+0) (bf);refine ⟨_,_,_,_,_,_,_,rfl,fun V5 b=>(lK (h.le (a.trans (d.trans (b)))) (h.le (a.trans (d.trans (b)))) (Sz.mono n:Sz (1*k+0) _) (Sz.mono o:Sz (1*k+0) _) (Sz.mono n:Sz (1*k+0) _) (Sz.mono o:Sz (1*k+0) _)).mono ?_⟩;rintro r V6 g B;have T:=B;obtain ⟨Nq,Nr,Ns,TX,TY,TZ,rfl⟩:=B.shape;have C:=Sz.mono (m:=4*k+3) ((eH (Sz.mono n:Sz (1*k+0) _) (Sz.mono o:Sz (1*k+0) _) (Sz.mono n:Sz (1*k+0) _) (Sz.mono o:Sz (1*k+0) _)));refine ⟨_,_,_,_,_,_,_,rfl,fun V7 e=>(uC (t.le (b.trans (g.trans (e)))) (T.le (e)) hd0 A C).mono ?_⟩;rintro r V8 j D;have U:=D;obtain ⟨T0,T1,T2,Y2,Y3,Y4,rfl⟩:=D.shape;have E:=Sz.mono (m:=5*k+4) (Sz.mul A (jN C));refine ⟨_,_,_,_,_,_,_,rfl,fun V9 u=>(uB (U.le (u)) E).mono ?_⟩;rintro r gm i F;have G:=F;obtain ⟨ZQ,ZR,ZS,ZT,ZU,ZV,rfl⟩:=F.shape;have H:=Sz.mono (m:=5*k+4) (Sz.neg E);refine ⟨_,_,_,_,_,_,_,rfl,fun fH p=>(iH (Q.le (c.trans (f.trans (a.trans (d.trans (b.trans (g.trans (e.trans (j.trans (u.trans (i.trans (p)))))))))))) bh).mono ?_⟩;rintro r jC v I;have W:=I;obtain ⟨ZW,ZX,ZY,ZZ,Z4,Z6,rfl⟩:=I.shape;have X:=Sz.mono (m:=1*k+0) (bh);refine ⟨_,_,_,_,_,_,_,rfl,fun oH q=>(bS (G.le (p.trans (v.trans (q)))) (W.le (q)) H X).mono ?_⟩;rintro r mD J K;have Y:=K;obtain ⟨Z9,Z_,Z,a0,a1,a2,rfl⟩:=K.shape;refine ⟨_,_,_,_,_,_,_,rfl,fun mE w=>(iH (R.le (c.trans (f.trans (a.trans (d.trans (b.trans (g.trans (e.trans (j.trans (u.trans (i.trans (p.trans (v.trans (q.trans (J.trans (w)))))))))))))))) bo).mono ?_⟩;rintro r sM L M;have Xl:=M;obtain ⟨a3,a4,a5,a6,a7,a8,rfl⟩:=M.shape;have Nv:=Sz.mono (m:=1*k+0) (bo);refine ⟨_,_,_,_,_,_,_,rfl,fun nF x=>(bS (G.le (p.trans (v.trans (q.trans (J.trans (w.trans (L.trans (x)))))))) (Xl.le (x)) H Nv).mono ?_⟩;rintro r uf fF N;have Xm:=N;obtain ⟨a9,b0,b1,b2,b3,b4,rfl⟩:=N.shape;exact ⟨_,_,_,_,_,_,_,rfl,fun A8 O=>⟨_,_,_,_,_,_,_,_,_,_,_,_,rfl,(Y.le (w.trans (L.trans (x.trans (fF.trans (O)))))),(Xm.le (O))⟩⟩
theorem wP {bD:Int}{l_1:Int}{c_:Int}{k:Nat}(bh:Sz k ((bD:Int):Rat))(bo:Sz k ((l_1:Int):Rat))(bf:Sz k ((c_:Int):Rat)):Sz (6*k+5) ((-((((c_:Int):Rat))*((((((l_1:Int):Rat)))*((((l_1:Int):Rat))))+(((-(((bD:Int):Rat))))*((-(((bD:Int):Rat))))))⁻¹))*(((bD:Int):Rat))):=by
 have a:=Sz.mono (m:=1*k+0) ((eF (Sz.mono bh:Sz (1*k+0) _) (Sz.mono bo:Sz (1*k+0) _) (Sz.mono bf:Sz (1*k+0) _)));have b:=Sz.mono (m:=1*k+0) ((eG (Sz.mono bh:Sz (1*k+0) _) (Sz.mono bo:Sz (1*k+0) _) (Sz.mono bf:Sz (1*k+0) _)));have c:=Sz.mono (m:=1*k+0) (bf);have d:=Sz.mono (m:=4*k+3) ((eH (Sz.mono a:Sz (1*k+0) _) (Sz.mono b:Sz (1*k+0) _) (Sz.mono a:Sz (1*k+0) _) (Sz.mono b:Sz (1*k+0) _)));have e:=Sz.mono (m:=5*k+4) (Sz.mul c (jN d));have f:=Sz.mono (m:=5*k+4) (Sz.neg e);have g:=Sz.mono (m:=1*k+0) (bh);have h:=Sz.mono (m:=6*k+5) (Sz.mul f g);exact Sz.mono h
theorem wQ {bD:Int}{l_1:Int}{c_:Int}{k:Nat}(bh:Sz k ((bD:Int):Rat))(bo:Sz k ((l_1:Int):Rat))(bf:Sz k ((c_:Int):Rat)):Sz (6*k+5) ((-((((c_:Int):Rat))*((((((l_1:Int):Rat)))*((((l_1:Int):Rat))))+(((-(((bD:Int):Rat))))*((-(((bD:Int):Rat))))))⁻¹))*(((l_1:Int):Rat))):=by
 have a:=Sz.mono (m:=1*k+0) ((eF (Sz.mono bh:Sz (1*k+0) _) (Sz.mono bo:Sz (1*k+0) _) (Sz.mono bf:Sz (1*k+0) _)));have b:=Sz.mono (m:=1*k+0) ((eG (Sz.mono bh:Sz (1*k+0) _) (Sz.mono bo:Sz (1*k+0) _) (Sz.mono bf:Sz (1*k+0) _)));have c:=Sz.mono (m:=1*k+0) (bf);have d:=Sz.mono (m:=4*k+3) ((eH (Sz.mono a:Sz (1*k+0) _) (Sz.mono b:Sz (1*k+0) _) (Sz.mono a:Sz (1*k+0) _) (Sz.mono b:Sz (1*k+0) _)));have e:=Sz.mono (m:=5*k+4) (Sz.mul c (jN d));have f:=Sz.mono (m:=5*k+4) (Sz.neg e);have g:=Sz.mono (m:=1*k+0) (bo);have h:=Sz.mono (m:=6*k+5) (Sz.mul f g);exact Sz.mono h
theorem DV {V:View}{l:Value}{bD l_1 c_:Int}{t:Value}{ED:Rat}(hl:RL V l bD l_1 c_)(ht:RQ V t ED)(hd0:((((((l_1:Int):Rat)))*((((l_1:Int):Rat))))+(((-(((bD:Int):Rat))))*((-(((bD:Int):Rat)))))).num≠0){k:Nat}(bh:Sz k ((bD:Int):Rat))(bo:Sz k ((l_1:Int):Rat))(bf:Sz k ((c_:Int):Rat))(vQ:Sz k ED)(hk:18*k+16<274877906944) :
  aa prog 17 #[l,t] V fun r V'=>RP V' r (((-((((c_:Int):Rat))*((((((l_1:Int):Rat)))*((((l_1:Int):Rat))))+(((-(((bD:Int):Rat))))*((-(((bD:Int):Rat))))))⁻¹))*(((bD:Int):Rat)))+(ED)*(((l_1:Int):Rat))) (((-((((c_:Int):Rat))*((((((l_1:Int):Rat)))*((((l_1:Int):Rat))))+(((-(((bD:Int):Rat))))*((-(((bD:Int):Rat))))))⁻¹))*(((l_1:Int):Rat)))+(ED)*(-(((bD:Int):Rat)))):=by
 have a:=hl;obtain ⟨s,b,e,c,f,d,n,g,u,rfl,B,C,D⟩:=hl;have h:=ht;obtain ⟨t0,t1,t2,t3,t4,t5,rfl⟩:=ht.shape;refine Dh _ s b e _ c f d _ n g u _ t0 t1 t2 t3 t4 t5 V _ fun E b=>(zR (a.le (b)) hd0 (Sz.mono bh:Sz (1*k+0) _) (Sz.mono bo:Sz (1*k+0) _) (Sz.mono bf:Sz (1*k+0) _)).mono ?_;rintro r F e o;have i:=o;obtain ⟨G,H,I,J,K,L,M,N,O,P,Q,R,rfl,S,T⟩:=o;have v:=Sz.mono (m:=6*k+5) ((wP (Sz.mono bh:Sz (1*k+0) _) (Sz.mono bo:Sz (1*k+0) _) (Sz.mono bf:Sz (1*k+0) _)));have w:=Sz.mono (m:=6*k+5) ((wQ (Sz.mono bh:Sz (1*k+0) _) (Sz.mono bo:Sz (1*k+0) _) (Sz.mono bf:Sz (1*k+0) _)));refine ⟨_,_,_,_,_,_,_,_,_,_,_,_,_,_,rfl,fun U c=>(lJ (a.le (b.trans (e.trans (c)))) (Sz.mono bh:Sz (1*k+0) _) (Sz.mono bo:Sz (1*k+0) _) (Sz.mono bf:Sz (1*k+0) _)).mono ?_⟩;rintro r W f p;have j:=p;obtain ⟨X,Y,Z,TL,TM,TN,YO,YP,YQ,YR,We,Wf,rfl,RB,RG⟩:=p;have x:=Sz.mono (m:=1*k+0) ((eF (Sz.mono bh:Sz (1*k+0) _) (Sz.mono bo:Sz (1*k+0) _) (Sz.mono bf:Sz (1*k+0) _)));have y:=Sz.mono (m:=1*k+0) ((eG (Sz.mono bh:Sz (1*k+0) _) (Sz.mono bo:Sz (1*k+0) _) (Sz.mono bf:Sz (1*k+0) _)));refine ⟨_,_,_,_,_,_,_,_,_,_,_,_,_,_,rfl,fun V5 d=>(jj (i.le (c.trans (f.trans (d)))) (h.le (b.trans (e.trans (c.trans (f.trans (d)))))) (j.le (d)) (Sz.mono v:Sz (6*k+5) _) (Sz.mono w:Sz (6*k+5) _) (Sz.mono vQ:Sz (6*k+5) _) (Sz.mono x:Sz (6*k+5) _) (Sz.mono y:Sz (6*k+5) _)).mono ?_⟩;rintro r V6 n q;have qQ:=q;obtain ⟨TR,TS,TT,TU,TV,TW,YS,YT,YU,YV,Wg,Wh,rfl,z,A⟩:=q;exact ⟨_,_,_,_,_,_,_,_,_,_,_,_,_,_,rfl,fun V7 g=>⟨_,_,_,_,_,_,_,_,_,_,_,_,rfl,(z.le (g)),(A.le (g))⟩⟩
theorem RA.shape {V:View}{v:Value}{q:Rat}(h:RA V v q):∃b p n c p' n' c',v=.agg #[.bool b,.slice p n c,.slice p' n' c']:=by
 obtain ⟨p,n,c,p',n',c',e,-⟩:=h;exact ⟨_,_,_,_,_,_,_,e⟩
def zA (V:View)(v:Value)(x y:Rat):Prop:=∃b p n c p' n' c' d q m e q' m' e',v=.agg #[.bool b,.slice p n c,.slice p' n' c',.bool d,.slice q m e,.slice q' m' e'] /\
 RA V (.agg #[.bool b,.slice p n c,.slice p' n' c']) x/\RA V (.agg #[.bool d,.slice q m e,.slice q' m' e']) y
theorem zA.le {V V':View}{v:Value}{x y:Rat}(h:zA V v x y)(l:V.Le V'):zA V' v x y:=by
 obtain ⟨b,p,n,c,g,i,j,d,q,m,e,k,o,r,rfl,a,f⟩:=h;exact ⟨_,_,_,_,_,_,_,_,_,_,_,_,_,_,rfl,a.le l,f.le l⟩
theorem fM {V:View}{v:Value}{x y:Rat}(h:zA V v x y){k:Nat}(s1:Sz k x)(s2:Sz k y)(hk:k<=1099511627776:=by omega) :
  aa prog 51 #[v] V fun r V'=>lF V' r x y:=by
 obtain ⟨b,p,n,c,s,t,z,d,q,m,e,A,B,C,rfl,D,E⟩:=h;refine CX b p n c s t z d q m e A B C V _ fun H g=>(yF (D.le g) s1 hk).mono ?_;rintro r I F i;have a:=i;obtain ⟨u,v,w,rfl⟩:=i.shape;refine ⟨_,_,_,rfl,fun J j=>(yF (E.le (g.trans (F.trans j))) s2 hk).mono ?_⟩;rintro r K G l;have f:=l;obtain ⟨u,v,w,rfl⟩:=l.shape;exact ⟨_,_,_,rfl,fun L o=>⟨_,_,_,_,_,_,rfl,a.le (j.trans (G.trans o)),f.le o⟩⟩
theorem oT {V:View}{v:Value}{x y:Rat}(h:lF V v x y){k:Nat}(s1:Sz k x)(s2:Sz k y)(hk:k<=1099511627776:=by omega) :
  aa prog 114 #[v] V fun r V'=>zA V' r x y:=by
 obtain ⟨i,j,l,m,n,o,rfl,p,q⟩:=h;refine xW i j l m n o V _ fun u c=>(oN (p.le c) s1 hk).mono ?_;rintro r w s d;have a:=d;obtain ⟨_,_,_,_,_,_,_,rfl⟩:=d.shape;refine ⟨_,_,_,_,_,_,_,rfl,fun z e=>(oN (q.le (c.trans (s.trans e))) s2 hk).mono ?_⟩;rintro r A t f;have b:=f;obtain ⟨_,_,_,_,_,_,_,rfl⟩:=f.shape;exact ⟨_,_,_,_,_,_,_,rfl,fun B g=>⟨_,_,_,_,_,_,_,_,_,_,_,_,_,_,rfl,a.le (e.trans (t.trans g)),b.le g⟩⟩
theorem uz {V:View}{v w:Value}{x y x' y':Rat}(h:lF V v x y)(h':lF V w x' y'){k:Nat}(s1:Sz k x)(s2:Sz k y)(s3:Sz k x')(s4:Sz k y')(hk:2*k<1099511627776) :
  aa prog 117 #[v,w] V fun r V'=>r=.bool (decide (x=x'/\y=y')):=by
 obtain ⟨d,e,f,i,j,l,rfl,m,n⟩:=h;obtain ⟨o,p,q,s,t,u,rfl,z,A⟩:=h';refine tE d e f i j l o p q s t u V _ fun B a=>(j8 (m.le a) (z.le a) s1 s3).mono ?_;rintro r C b rfl;refine ⟨_,rfl,fun g D c=>(j8 (n.le (a.trans (b.trans c))) (A.le (a.trans (b.trans c))) s2 s4).mono ?_,fun g E F=>?_⟩
 ·have g:=of_decide_eq_true g;rintro r G H rfl;exact ⟨_,rfl,fun I J=>by simp [g]⟩
 ·have g:=of_decide_eq_false g;simp [g]
theorem xi {V:View}{l p:Value}{bD l_1 c_ fg fh:Rat}(hl:zB V l bD l_1 c_)(hp:lF V p fg fh){k:Nat}(s0:Sz k bD)(s1:Sz k l_1)(s2:Sz k c_)(s3:Sz k fg)(s4:Sz k fh)(hk:16*k+16<274877906944) :
  aa prog 108 #[l,p] V fun r V'=>r=.int .i64 (bD*fg+l_1*fh+c_).num.sign:=by
 have a:=hl;have b:=hp;obtain ⟨d,e,f,h,i,j,m,n,o,rfl,-,-,-⟩:=hl;obtain ⟨q,s,t,x,y,z,rfl,-,-⟩:=hp;refine wg d e f h i j m n o q s t x y z V _ fun C c=>(uy (a.le c) (b.le c) s0 s1 s2 s3 s4).mono ?_;rintro r D E g;have A:=g;obtain ⟨u,v,w,rfl⟩:=g.shape;refine ⟨_,_,_,rfl,fun F B=>(Bu (A.le B) (rM s0 s1 s2 s3 s4)).mono ?_⟩;rintro r G H rfl;exact ⟨_,rfl,fun I J=>rfl⟩
theorem eT {V:View}{v:Value}{q:Rat}(h:RQ V v q){k:Nat}(s:Sz k q)(hk:k<=1099511627776:=by omega):aa prog 70 #[v] V fun r V'=>RA V' r q:=by
 obtain ⟨p,n,c,f,g,i,rfl,j,l⟩:=h;have y:=ag s.1;have z:=ag s.2;refine AW _ p n c f g i V _ fun A a=>(ji ⟨_,_,_,rfl,j.le a⟩).mono ?_;rintro r B m ⟨C,D,E,rfl,o⟩;refine ⟨_,_,_,_,rfl,fun F b=>(cB q _ (l.le (a.trans (m.trans b)))).mono ?_⟩;rintro r G t ⟨H,I,J,rfl,u⟩;refine ⟨_,_,_,rfl,fun K d=>(rT (u.le d)).mono ?_⟩;rintro r L w ⟨M,N,O,rfl,x⟩;exact ⟨_,_,_,rfl,fun P e=>⟨_,_,_,_,_,_,rfl,o.le (b.trans (t.trans (d.trans (w.trans e)))),x.le e⟩⟩
theorem rU {V:View}{v:Value}{x y:Rat}(h:RP V v x y){k:Nat}(s1:Sz k x)(s2:Sz k y)(hk:k<=1099511627776:=by omega):aa prog 29 #[v] V fun r V'=>zA V' r x y:=by
 obtain ⟨i,j,l,m,n,o,p,q,s,t,u,w,rfl,z,A⟩:=h;refine A3 _ i j l m n o _ p q s t u w V _ fun D c=>(eT (z.le c) s1 hk).mono ?_;rintro r E B d;have a:=d;obtain ⟨_,_,_,_,_,_,_,rfl⟩:=d.shape;refine ⟨_,_,_,_,_,_,_,rfl,fun F e=>(eT (A.le (c.trans (B.trans e))) s2 hk).mono ?_⟩;rintro r G C f;have b:=f;obtain ⟨_,_,_,_,_,_,_,rfl⟩:=f.shape;exact ⟨_,_,_,_,_,_,_,rfl,fun H g=>⟨_,_,_,_,_,_,_,_,_,_,_,_,_,_,rfl,a.le (e.trans (C.trans g)),b.le g⟩⟩
theorem m_ {V:View}{v w:Value}{x y:Rat}(hx:RA V v x)(hy:RA V w y){k:Nat}(s:Sz k x)(hk:k<=1099511627776) :
  aa prog 131 #[v,w] V fun r V'=>r=.bool (decide (x=y)):=by
 obtain ⟨p,n,c,f,i,j,rfl,l,o⟩:=hx;obtain ⟨q,m,e,t,u,z,rfl,A,B⟩:=hy;have C:=ag s.1;have D:=ag s.2;refine mC _ p n c f i j _ q m e t u z V _ fun E a=>(fZ (l.le a) (A.le a)).mono ?_;rintro r F b rfl;refine ⟨_,rfl,fun g G d=>(f_ (o.le (a.trans (b.trans d))) (B.le (a.trans (b.trans d)))).mono ?_,fun g H I=>?_⟩
 ·have g:=of_decide_eq_true g;rintro r J K rfl;refine ⟨_,rfl,fun L M=>?_⟩;have e:ai x.den=ai y.den↔x=y:=⟨fun h=>Rat.ext g (by have:=congrArg val h;rwa [ae,ae] at this),fun h=>by rw [h]⟩;rw [show decide (ai x.den=ai y.den)=decide (x=y) from by rw [decide_eq_decide];exact e]
 ·have g:=of_decide_eq_false g;rw [decide_eq_false (fun h=>g (by rw [h]))]
abbrev L3:=Int×Int×Int
def nj (x:L3):Bool:=decide (¬(x.1=0/\x.2.1=0))&&decide (bC x.1 x.2.1 x.2.2=1)
def Bd (x:L3):Prop:=x.1.natAbs<2^1000/\x.2.1.natAbs<2^1000/\x.2.2.natAbs<2^1000
theorem vz {a b c:Int}:lE (decide (a<0)) (ai a.natAbs) (decide (b<0)) (ai b.natAbs) (decide (c<0)) (ai c.natAbs)=nj (a,b,c):=by
 have d:∀z:Int,fE (decide (z<0)) (ai z.natAbs)=true:=by
  intro z;unfold fE;rw [ae];simp only [decide_true,Qh6];by_cases h:z<0
  ·simp only [h,decide_true,Bool.not_true,Bool.false_or,decide_eq_true_eq];intro e;have:=bd.1 e;omega
  ·simp [h]
 have j:cY (cY (a:Rat) (b:Rat)) (c:Rat)=((bC a b c:Nat):Int):=by
  have g:∀x y:Int,cY (x:Rat) (y:Rat)=((Nat.gcd x.natAbs y.natAbs:Nat):Int):=by
   intro x y;unfold cY;have k:((x:Rat)).num=x:=rfl;have l:((y:Rat)).num=y:=rfl;have m:((x:Rat)).den=1:=rfl;have n:((y:Rat)).den=1:=rfl;rw [k,l,m,n];simp only [Qk0];exact Qf2 _
  rw [g,g];rfl
 unfold lE nj;rw [d,d,d,aE,aE,aE,j];have o:∀z:Int,((z:Rat)=0)↔z=0:=fun z=>by exact Rat.intCast_eq_zero_iff
 simp only [Qh6,o];rw [Qx6];simp only [Qx1,Qw7,Bool.and_eq_false_iff,decide_eq_false_iff_not,decide_eq_true_eq]
 have p:(((bC a b c:Nat):Int):Rat)=((1:Int):Rat)↔bC a b c=1:=by
  rw [Qt3];omega
 rw [p];constructor
 ·rintro ⟨h,f⟩;exact ⟨fun e=>by rcases h with h|h;exact h e.1;exact h e.2,f⟩
 ·rintro ⟨h,f⟩;refine ⟨?_,f⟩;by_cases i:a=0
  ·exact .inr fun q=>h ⟨i,q⟩
  ·exact .inl i
theorem oc {z:Int}{k:Nat}(h:z.natAbs<2^k)(hk:0<k:=by omega):Sz k (z:Rat):=⟨h,Qf1 (by omega)⟩
theorem Bd.sz {x:L3}(h:Bd x):Sz 1000 (x.1:Rat)/\Sz 1000 (x.2.1:Rat)/\Sz 1000 (x.2.2:Rat):=⟨oc h.1,oc h.2.1,oc h.2.2⟩
theorem Ll (x y u w:Int):mo (x:Rat) (y:Rat) ((x:Rat)+((1:Int):Rat)*(u:Rat)) ((y:Rat)+((1:Int):Rat)*(w:Rat))=(((-w:Int):Rat),((u:Int):Rat),((w*x-u*y:Int):Rat)):=by
 have a:(x:Rat)+((1:Int):Rat)*(u:Rat)=((x+u:Int):Rat):=by rw [←Qn6,←Qg3,Qs1]
 have b:(y:Rat)+((1:Int):Rat)*(w:Rat)=((y+w:Int):Rat):=by rw [←Qn6,←Qg3,Qs1]
 rw [a,b];have c:-(((y+w:Int):Rat)-(y:Rat))=((-w:Int):Rat):=by rw [←Wx7,←Wx8];congr 1;omega
 have d:((x+u:Int):Rat)-(x:Rat)=((u:Int):Rat):=by rw [←Wx7];congr 1;omega
 have e:-(((-w:Int):Rat)*(x:Rat)+((u:Int):Rat)*(y:Rat))=((w*x-u*y:Int):Rat):=by
  rw [←Qn6,←Qn6,←Qg3,←Wx8];congr 1;rw [Qt0];omega
 have f:(((((-w:Int):Rat).den*((u:Int):Rat).den*((w*x-u*y:Int):Rat).den:Nat):Int):Rat)=1:=rfl;unfold mo;dsimp only;rw [c,d,e,f,Wy6,Wy6,Wy6]
def vm (a b c:Int):L3:=(a / (bC a b c:Int),b / (bC a b c:Int),c / (bC a b c:Int))
def small (z:Int)(k:Nat):Bool:=decide (z.natAbs<=k)
theorem IB:∀i:Fin 9,∀j:Fin 9,∀k:Fin 65,(i.1=4/\j.1=4)\/(nj (vm ((i.1:Int)-4) ((j.1:Int)-4) ((k.1:Int)-32))&&small (vm ((i.1:Int)-4) ((j.1:Int)-4) ((k.1:Int)-32)).1 32&&small (vm ((i.1:Int)-4) ((j.1:Int)-4) ((k.1:Int)-32)).2.1 32&&small (vm ((i.1:Int)-4) ((j.1:Int)-4) ((k.1:Int)-32)).2.2 32)=true:=by decide +kernel
theorem Mo (k:Nat)(hk:6<=k){z:Int}(h:z.natAbs<=32):z.natAbs<2^k:=Qv5 h (Qx2 (by decide:32<2^6) (Qw9 (by decide) hk))
theorem N8 (k:Nat)(hk:6<=k){x:L3}(h1:x.1.natAbs<=32)(h2:x.2.1.natAbs<=32)(h3:x.2.2.natAbs<=32):x.1.natAbs<2^k/\x.2.1.natAbs<2^k/\x.2.2.natAbs<2^k:=⟨Mo k hk h1,Mo k hk h2,Mo k hk h3⟩
theorem KL {a b c:Int}(h1:-4<=a/\a<=4)(h2:-4<=b/\b<=4)(h3:-32<=c/\c<=32)(h:¬(a=0/\b=0):=by omega):nj (vm a b c)=true/\Bd (vm a b c):=by
 have:=IB ⟨(a+4).toNat,by omega⟩ ⟨(b+4).toNat,by omega⟩ ⟨(c+32).toNat,by omega⟩;dsimp only at this;rw [show (((a+4).toNat:Nat):Int)-4=a from by omega,show (((b+4).toNat:Nat):Int)-4=b from by omega,show (((c+32).toNat:Nat):Int)-32=c from by omega] at this;rcases this with d|d
 ·omega
 ·simp only [Qx1,small,decide_eq_true_eq] at d;exact ⟨d.1.1.1,N8 1000 (by decide) d.1.1.2 d.1.2 d.2⟩
theorem IH {x y:Int}(h1:-4<=x/\x<=4)(h2:-4<=y/\y<=4):-16<=x*y/\x*y<=16:=by
 have:(x*y).natAbs<=4*4:=by rw [Qn4];exact Qm1 (by omega) (by omega)
 omega
theorem num_mul {r:Rat}{f:Nat}{a:Int}(hf:f≠0)(h:r*((f:Nat):Int)=(a:Rat)):r.num*f=a*r.den:=by
 have b:=r.den_nz;rw [←Qp1 r,←Qf2 f,←Qf2 a,Qt4,Ww9 (by simpa using b) (by omega)] at h;simpa using h
theorem uV {r s:Rat}{f:Nat}{a b:Int}(hf:f≠0)(hr:r*((f:Nat):Int)=(a:Rat))(hs:s*((f:Nat):Int)=(b:Rat)):cY r s*((f:Nat):Int)=(((Nat.gcd a.natAbs b.natAbs:Nat):Int):Rat):=by
 have c:=num_mul hf hr;have d:=num_mul hf hs;have d1:=r.den_nz;have d2:=s.den_nz;have e:r.num.natAbs*f=a.natAbs*r.den:=by have:=congrArg Int.natAbs c;rwa [Qn4,Qn4,Qx5,Qx5] at this
 have g:s.num.natAbs*f=b.natAbs*s.den:=by have:=congrArg Int.natAbs d;rwa [Qn4,Qn4,Qx5,Qx5] at this
 have h:Nat.gcd (r.num.natAbs*s.den) (s.num.natAbs*r.den)*f=Nat.gcd a.natAbs b.natAbs*(r.den*s.den):=by
  rw [←Nat.gcd_mul_right,←Nat.gcd_mul_right];congr 1
  ·rw [Nat.mul_right_comm,e,Qz7]
  ·rw [Nat.mul_right_comm,g,Qz7,Qn1 s.den]
 unfold cY;rw [←Qf2 ((f:Nat):Int),Qt4,←Qf2 (((Nat.gcd a.natAbs b.natAbs:Nat):Int)),Ww9 (by simpa using Qj7 d1 d2) (by omega)];simp only [Qk0];have:=congrArg (Nat.cast (R:=Int)) h;simpa using this
theorem lY (q:Rat)(m:Nat):q*(((q.den*m:Nat):Int):Rat)=((q.num*m:Int):Rat):=by
 have e:q*(((q.den:Nat):Int):Rat)=((q.num:Int):Rat):=by
  have h:=q.den_nz
  have a:mkRat q.num q.den*mkRat ((q.den:Nat):Int) 1=mkRat q.num 1:=by
   rw [Qt4,Ww9 (by simpa using h) (by omega)];simp
  rwa [Qp1,Qf2,Qf2] at a
 rw [Qb8,Qn6,←Rat.mul_assoc,e,←Qn6]
theorem Af {a:Int}{g:Nat}(hg:g≠0)(h:(g:Int)∣a):((a / (g:Int):Int):Rat)=(a:Rat) / ((g:Int):Rat):=by
 obtain ⟨k,rfl⟩:=h;have b:((g:Int):Rat)≠0:=by exact_mod_cast hg
 rw [Qg2 _ (by omega),Qn6,Rat.div_def,Rat.mul_comm ((g:Int):Rat),Rat.mul_assoc,Qr3 _ b,Wy6]
def rf (a b c:Rat):L3:=
 let f:Nat:=a.den*b.den*c.den
 vm (a*((f:Int):Rat)).num (b*((f:Int):Rat)).num (c*((f:Int):Rat)).num
theorem km {a b c:Rat}(h:¬(a=0/\b=0)):let g:=cY (cY a b) c
  g≠0/\a*g⁻¹=((rf a b c).1:Rat)/\b*g⁻¹=((rf a b c).2.1:Rat)/\c*g⁻¹=((rf a b c).2.2:Rat):=by
 intro g;have i:a.den*b.den*c.den≠0:=Qj7 (Qj7 a.den_nz b.den_nz) c.den_nz;have j:a*(((a.den*b.den*c.den:Nat):Int):Rat)=((a.num*(b.den*c.den:Nat):Int):Rat):=by rw [Qz7,lY]
 have k:b*(((a.den*b.den*c.den:Nat):Int):Rat)=((b.num*(a.den*c.den:Nat):Int):Rat):=by rw [Qn1 a.den,Qz7,lY]
 have l:c*(((a.den*b.den*c.den:Nat):Int):Rat)=((c.num*(a.den*b.den:Nat):Int):Rat):=by rw [Qn1 (a.den*b.den),lY]
 have hm:rf a b c=vm (a.num*(b.den*c.den:Nat)) (b.num*(a.den*c.den:Nat)) (c.num*(a.den*b.den:Nat)):=by
  unfold rf;dsimp only;rw [j,k,l,Qr4,Qr4,Qr4]
 have o:=uV i j k;have d:=uV i o l;rw [hm]
 have p:a.num*(b.den*c.den:Nat)=0↔a=0:=by
  rw [Qt5,Qn5];have:=Qj7 b.den_nz c.den_nz;constructor
  ·rintro (h|h)
   ·exact h
   ·omega
  ·exact .inl
 have q:b.num*(a.den*c.den:Nat)=0↔b=0:=by
  rw [Qt5,Qn5];have:=Qj7 a.den_nz c.den_nz;constructor
  ·rintro (h|h)
   ·exact h
   ·omega
  ·exact .inl
 generalize a.num*(b.den*c.den:Nat)=A at *;generalize b.num*(a.den*c.den:Nat)=B at *;generalize c.num*(a.den*b.den:Nat)=C at *;generalize a.den*b.den*c.den=f at *;have r:Nat.gcd (((Nat.gcd A.natAbs B.natAbs:Nat):Int)).natAbs C.natAbs=bC A B C:=by unfold bC;rw [Qx5]
 rw [r] at d;change g*((f:Int):Rat)=_ at d
 have n:bC A B C≠0:=by
  intro e;have:=Qd3.1 e;have:=Qd3.1 this.1;exact h ⟨p.1 (by omega),q.1 (by omega)⟩
 have s:((f:Int):Rat)≠0:=by exact_mod_cast i
 have m:((bC A B C:Int):Rat)≠0:=by exact_mod_cast n
 have t:g≠0:=by intro e;rw [e,Rat.zero_mul] at d;exact m d.symm
 have u:((bC A B C:Nat):Int)∣A:=Qh1.1 (by rw [Qx5];exact Qr2 (Qk8 _ _) (Qk8 _ _));have v:((bC A B C:Nat):Int)∣B:=Qh1.1 (by rw [Qx5];exact Qr2 (Qk8 _ _) (Qb0 _ _));have dC:((bC A B C:Nat):Int)∣C:=Qh1.1 (by rw [Qx5];exact Qb0 _ _)
 have key:∀{x:Rat} {X:Int},x*((f:Int):Rat)=(X:Rat)->((bC A B C:Nat):Int)∣X->x*g⁻¹=((X / (bC A B C:Int):Int):Rat):=by
  intro x X w y;rw [Af n y,←w,←d];grind
 exact ⟨t,key j u,key k v,key l dC⟩
theorem KN {a b c:Rat}(h:¬(a=0/\b=0)):¬((rf a b c).1=0/\(rf a b c).2.1=0):=by
 obtain ⟨j,d,f,-⟩:=km (c:=c) h;rintro ⟨k,l⟩;rw [k] at d;rw [l] at f
 have g:(cY (cY a b) c)⁻¹≠0:=fun e=>by
  have i:=Qr3 _ j;rw [e,Rat.mul_zero] at i;exact absurd i (by decide)
 apply h;constructor
 ·rcases Qh2.1 (by simpa using d) with e|e
  ·exact e
  ·exact absurd e g
 ·rcases Qh2.1 (by simpa using f) with e|e
  ·exact e
  ·exact absurd e g
theorem FX {V:View}{v:Value}{a b c:Int}(h:RL V v a b c):∃(b1:Bool)(p1:OA)(n1 c1:Nat)(b2:Bool)(p2:OA)(n2 c2:Nat)(b3:Bool)(p3:OA)(n3 c3:Nat),v=.agg #[.bool b1,.slice p1 n1 c1,.bool b2,.slice p2 n2 c2,.bool b3,.slice p3 n3 c3]:=by
 obtain ⟨p,n,s,d,f,g,q,m,e,rfl,-⟩:=h;exact ⟨_,_,_,_,_,_,_,_,_,_,_,_,rfl⟩
def E5 (V:View)(p:OA)(n:Nat):Prop:=∀i,i<n->∃(a:Addr)(x:Int),ah p (i*1)=some a/\V.at a (.int .i64 x)
theorem E5.le {V V':View}{p:OA}{n:Nat}(h:E5 V p n)(l:V.Le V'):E5 V' p n:=fun i b=>by
 obtain ⟨a,x,e,c⟩:=h i b;exact ⟨a,x,e,l.at c⟩
def jX (V:View)(tb:Nat)(p:OA)(n c:Nat)(at_:Int):Prop:=V.w.heap[tb]?=some (.cells #[.slice p n c,.int .i64 at_] 88 (0,0))
theorem gO {V:View}{tb:Nat}{p:OA}{n c:Nat}{at_:Int}(k:Int)(hr:E5 V p n)(hn:n<=400)(hw:jX V tb p n c at_)(hx:V.X tb)(h0:0<=at_)(hk:0<k)(hk2:k<=1000:=by omega) :
  aa prog 10 #[.pointer (some ⟨tb,0,none⟩),.int .i64 k] V fun r V'=>∃x at',r=.int .i64 x/\0<=x/\x<k/\0<=at'/\jX V' tb p n c at':=by
 refine oE tb p n c at_ k V _ hw hx ⟨fun g m o e=>⟨0,at_,rfl,by omega,hk,h0,e⟩,fun g=>?_⟩;have g:at_<n:=by have:=of_decide_eq_false g;omega
 obtain ⟨i,rfl⟩:∃i:Nat,at_=i:=⟨at_.toNat,by omega⟩;obtain ⟨a,x,d,f⟩:=hr i (by omega)
 have h:p.isSome=true:=by
  cases p with
  | none=>simp [ah] at d
  | some a=>rfl
 have q:(x.tmod k).natAbs<k.natAbs:=by rw [Int.natAbs_tmod];exact Qv9 _ (by omega)
 have j:i64.wrap ((i:Int)+1)=((i+1:Nat):Int):=by rw [ar (by omega)];omega
 rw [Qq0,j];have l:i64.wrap (x.tmod k+k)=x.tmod k+k:=ar (by omega);refine ⟨h,⟨by omega,by omega⟩,x,⟨a,d,f⟩,by omega,fun b s t e=>⟨x.tmod k+k,_,by rw [l],?_,?_,?_,e⟩,fun b u v e=>⟨_,_,rfl,?_,?_,?_,e⟩⟩
 ·omega
 ·have:=of_decide_eq_true b;omega
 ·omega
 ·have:=of_decide_eq_false b;omega
 ·omega
 ·omega
theorem Qp {V:View}{tb:Nat}{p:OA}{n c:Nat}{at_:Int}(hr:E5 V p n)(hn:n<=400)(hw:jX V tb p n c at_)(hx:V.X tb)(h0:0<=at_) :
  aa prog 16 #[.pointer (some ⟨tb,0,none⟩)] V fun r V'=>∃(x y at':Int),RP V' r (x:Rat) (y:Rat)/\(-4<=x/\x<=4)/\(-4<=y/\y<=4)/\0<=at'/\jX V' tb p n c at':=by
 refine tO tb p n c at_ V _ hw hx fun k i a l m=>(gO (V:=k.ax [a]) 9 (hr.le fun b o h=>i b o h) hn l ⟨by simp,m⟩ h0 (by omega)).mono ?_;rintro r B q ⟨x,C,rfl,D,E,t1,d⟩;refine ⟨_,rfl,_,_,_,_,d,fun s t u v w=>(gO (V:=s.ax [u]) 9 (hr.le fun b o h=>t b o (q b o (i b o h))) hn v ⟨by simp,w⟩ t1 (by omega)).mono ?_⟩;rintro r F G ⟨y,e,rfl,H,I,t2,f⟩;refine ⟨_,rfl,_,_,_,_,f,fun J K=>?_⟩;rw [ar (x:=x-4) (by omega),ar (x:=y-4) (by omega)];refine (uE (x-4) (y-4) (by omega) (by omega) (by omega)).mono ?_;rintro r L M j;have g:=j;obtain ⟨N,O,P,Q,R,S,T,U,W,Y,Z,c4,rfl,-⟩:=j;exact ⟨_,_,_,_,_,_,_,_,_,_,_,_,_,_,rfl,fun V7 z A=>⟨x-4,y-4,e,g.le z,⟨by omega,by omega⟩,⟨by omega,by omega⟩,t2,A⟩⟩
theorem RQ.zero {V:View}:RQ V (.agg #[.bool false,.slice none 0 0,.slice none 0 0]) ((0:Int):Rat):=⟨none,0,0,none,0,0,rfl,RD.nil,RD.nil⟩
theorem RP.zero {V:View}:RP V (.agg #[.bool false,.slice none 0 0,.slice none 0 0,.bool false,.slice none 0 0,.slice none 0 0]) ((0:Int):Rat) ((0:Int):Rat):=
 ⟨none,0,0,none,0,0,none,0,0,none,0,0,rfl,RQ.zero,RQ.zero⟩
theorem tm {z:Int}(h:-40<=z/\z<=40:=by omega):Sz 10 (z:Rat):=oc (by omega)
theorem U_ {V:View}{tb:Nat}{p:OA}{n c:Nat}{at_:Int}(hr:E5 V p n)(hn:n<=400)(hw:jX V tb p n c at_)(hx:V.X tb)(h0:0<=at_) :
  aa prog 36 #[.pointer (some ⟨tb,0,none⟩)] V fun r V'=>∃(x y at':Int),RP V' r (x:Rat) (y:Rat)/\(-4<=x/\x<=4)/\(-4<=y/\y<=4)/\¬(x=0/\y=0)/\0<=at'/\jX V' tb p n c at':=by
 refine tR tb p n c at_ V _ hw hx fun s t d u v=>(Qp (V:=s.ax [d]) (hr.le fun b o h=>t b o h) hn u ⟨by simp,v⟩ h0).mono ?_;rintro r P Q ⟨x,y,k,l,e,f,t1,i⟩;have a:=l;obtain ⟨w,z,A,B,C,D,E,F,G,H,I,J,rfl,-⟩:=l;refine ⟨_,_,_,_,_,_,_,_,_,_,_,_,_,_,rfl,_,_,_,_,i,fun R m=>(zS (a.le fun b o h=>m b o h) RP.zero (tm) (tm) (tm) (tm)).mono ?_⟩;rintro r S K rfl;refine ⟨_,rfl,fun g T U=>(uE 1 0 (by omega) (by omega) (by omega)).mono ?_,fun g W L M=>⟨x,y,k,a.le fun b o h=>L b o (K b o (m b o h)),e,f,?_,t1,M⟩⟩
 ·rintro r Y Z q;have j:=q;obtain ⟨w,z,A,B,C,D,E,F,G,H,I,J,rfl,-⟩:=q;exact ⟨_,_,_,_,_,_,_,_,_,_,_,_,_,_,rfl,fun V7 N O=>⟨1,0,k,j.le N,⟨by omega,by omega⟩,⟨by omega,by omega⟩,by omega,t1,O⟩⟩
 ·rintro ⟨rfl,rfl⟩;simp at g
theorem W9 {V:View}{tb:Nat}{p:OA}{n c:Nat}{at_:Int}(hr:E5 V p n)(hn:n<=400)(hw:jX V tb p n c at_)(hx:V.X tb)(h0:0<=at_) :
  aa prog 9 #[.pointer (some ⟨tb,0,none⟩)] V fun r V'=>∃(x:L3)(at':Int),RL V' r x.1 x.2.1 x.2.2/\nj x=true/\Bd x/\0<=at'/\jX V' tb p n c at':=by
 refine tN tb p n c at_ V _ hw hx fun T F e U W=>(Qp (V:=T.ax [e]) (hr.le fun b o h=>F b o h) hn U ⟨by simp,W⟩ h0).mono ?_;rintro r Y Z ⟨x,y,Hl,G,f,g,t1,i⟩;have d:=G;obtain ⟨p1,H,c1,p2,I,c2,p3,J,c3,p4,n4,c4,rfl,-⟩:=G;refine ⟨_,_,_,_,_,_,_,_,_,_,_,_,_,_,rfl,_,_,_,_,i,fun V3 K=>(ka 1 (by omega)).mono ?_⟩;rintro r V4 L M;have j:=M;obtain ⟨p5,n5,c5,p6,n6,c6,rfl⟩:=M.shape;refine ⟨_,_,_,_,_,_,_,rfl,fun V5 q Rf e5 h5=>(U_ (V:=V5.ax [Rf]) (hr.le fun b o h=>q b o (L b o (K b o (Z b o (F b o h))))) hn e5 ⟨by simp,h5⟩ t1).mono ?_⟩;rintro r V6 N ⟨u,w,s,O,t,OZ,a0,t2,v⟩;have z:=O;obtain ⟨q1,m1,d1,q2,m2,d2,q3,m3,d3,q4,m4,d4,rfl,-⟩:=O;refine ⟨_,_,_,_,_,_,_,_,_,_,_,_,_,_,rfl,_,_,_,_,v,fun A B=>?_⟩;have P:Y.Le A:=fun b o h=>B b o (N b o (q b o (L b o (K b o h))));have Yb:V4.Le A:=fun b o h=>B b o (N b o (q b o h));have Yd:V6.Le A:=fun b o h=>B b o h;refine (jj (d.le P) (j.le Yb) (z.le Yd) (k:=10) (m:=10) (tm) (tm) (tm) (tm) (tm)).mono ?_;rintro r V8 l8 Q;have C:=Q;obtain ⟨s1,i1,j1,s2,i2,j2,s3,i3,j3,s4,i4,j4,rfl,-⟩:=Q;have f1:(x:Rat)+((1:Int):Rat)*(u:Rat)=((x+u:Int):Rat):=by rw [←Qn6,←Qg3,Qs1]
 have f2:(y:Rat)+((1:Int):Rat)*(w:Rat)=((y+w:Int):Rat):=by rw [←Qn6,←Qg3,Qs1]
 refine ⟨_,_,_,_,_,_,_,_,_,_,_,_,_,_,rfl,fun V9 R=>(lx (d.le (P.trans (l8.trans R))) (C.le R) (k:=10) (tm) (tm) (by rw [f1];exact tm) (by rw [f2];exact tm) (by omega)).mono ?_⟩;rintro r gm a1 ⟨-,h⟩;rw [Ll] at h;have H:((-w:Int):Rat).num=-w:=rfl;have I:((u:Int):Rat).num=u:=rfl;have J:((w*x-u*y:Int):Rat).num=w*x-u*y:=rfl;dsimp only at h;rw [H,I,J] at h;obtain ⟨l,rfl,S⟩:=h (by omega);have m1:=IH OZ f;have m2:=IH t g;obtain ⟨k1,k2⟩:=KL (a:=-w) (b:=u) (c:=w*x-u*y) (by omega) (by omega) (by omega);have D:=S;obtain ⟨b1,u1,v1,w1,b2,u2,v2,w2,b3,u3,v3,w3,rfl⟩:=(FX S);exact ⟨_,_,_,_,_,_,_,_,_,_,_,_,_,rfl,fun fH bE E=>⟨vm (-w) u (w*x-u*y),s,D.le bE,k1,k2,t2,E⟩⟩
theorem nM {V:View}(n:Int)(d:Nat)(h0:-1000<=n)(h1:n<=1000)(hd0:d≠0)(hd:d<=1000:=by omega) :
  aa prog 50 #[.int .i64 n,.int .i64 (d:Int)] V fun r V'=>RQ V' r (mkRat n d):=by
 refine C_ n d V _ fun l o=>(yM n (by omega)).mono ?_;rintro r q s ⟨p,m,c,rfl,g⟩;rw [aM (by omega)];refine ⟨_,_,_,_,rfl,fun t b=>(cS d).mono ?_⟩;rintro r u e ⟨v,w,x,rfl,f⟩;refine ⟨_,_,_,rfl,fun y a=>(iG n (g.le (b.trans (e.trans a))) (f.le a) (Qx3 (ag (k:=10)) (by omega)) (Qx3 (ag (k:=10)) (by omega)) hd0).mono ?_⟩;rintro r z A h;have i:=h;obtain ⟨_,_,_,_,_,_,rfl⟩:=h.shape;exact ⟨_,_,_,_,_,_,_,rfl,fun B j=>i.le j⟩
theorem Li:∀x:Fin 9,Sz 10 (mkRat (2*((x.1:Int)-4)+1) 2)/\Sz 10 (mkRat (3*((x.1:Int)-4)+1) 3):=by unfold Sz;decide +kernel
theorem U8 {V:View}{tb:Nat}{p:OA}{n c:Nat}{at_:Int}(hr:E5 V p n)(hn:n<=400)(hw:jX V tb p n c at_)(hx:V.X tb)(h0:0<=at_) :
  aa prog 18 #[.pointer (some ⟨tb,0,none⟩)] V fun r V'=>∃(q:Rat)(at':Int),RQ V' r q/\Sz 10 q/\0<=at'/\jX V' tb p n c at':=by
 refine tP tb p n c at_ V _ hw hx fun w l g z A=>(gO (V:=w.ax [g]) 9 (hr.le fun b o h=>l b o h) hn z ⟨by simp,A⟩ h0 (by omega)).mono ?_;rintro r K B ⟨x,L,rfl,M,N,t1,j⟩;refine ⟨_,rfl,_,_,_,_,j,fun C D E F G=>(gO (V:=C.ax [E]) 6 (hr.le fun b o h=>D b o (B b o (l b o h))) hn F ⟨by simp,G⟩ t1 (by omega)).mono ?_⟩;rintro r O P ⟨y,a,rfl,Q,R,t2,k⟩;obtain ⟨i,rfl⟩:∃i:Nat,x=i:=⟨x.toNat,by omega⟩;obtain ⟨m,s⟩:=Li ⟨i,by omega⟩;dsimp only at m s;have H:i64.wrap ((i:Int)-4)=(i:Int)-4:=ar (by omega);have I:i64.wrap (i64.wrap (2*((i:Int)-4))+1)=2*((i:Int)-4)+1:=by rw [ar (x:=2*((i:Int)-4)) (by omega),ar (by omega)]
 have J:i64.wrap (i64.wrap (3*((i:Int)-4))+1)=3*((i:Int)-4)+1:=by rw [ar (x:=3*((i:Int)-4)) (by omega),ar (by omega)]
 rw [H,I,J];refine ⟨_,rfl,_,_,_,_,k,fun _ S T=>(nM (2*((i:Int)-4)+1) 2 (by omega) (by omega) (by omega)).mono ?_,fun _=>⟨fun _ U W=>(nM (3*((i:Int)-4)+1) 3 (by omega) (by omega) (by omega)).mono ?_,fun _ Y Z=>(ka ((i:Int)-4) (by omega)).mono ?_⟩⟩
 ·rintro r t u h;have d:=h;obtain ⟨_,_,_,_,_,_,rfl⟩:=h.shape;exact ⟨_,_,_,_,_,_,_,rfl,fun v e f=>⟨_,a,d.le e,m,t2,f⟩⟩
 ·rintro r t u h;have d:=h;obtain ⟨_,_,_,_,_,_,rfl⟩:=h.shape;exact ⟨_,_,_,_,_,_,_,rfl,fun v e f=>⟨_,a,d.le e,s,t2,f⟩⟩
 ·rintro r t u h;have d:=h;obtain ⟨_,_,_,_,_,_,rfl⟩:=h.shape;exact ⟨_,_,_,_,_,_,_,rfl,fun v e f=>⟨_,a,d.le e,tm,t2,f⟩⟩
theorem jm {V:View}{l:Value}{a b c:Int}(hl:RL V l a b c):aa prog 11 #[l] V fun r V'=>RL V' r (-a) (-b) (-c):=by
 obtain ⟨k,m,n,o,p,q,s,t,u,rfl,v,w,x⟩:=hl;refine A0 _ k m n _ o p q _ s t u V _ fun B d=>(jh a (v.le d)).mono ?_;rintro r C h ⟨D,E,F,rfl,y⟩;refine ⟨_,_,_,_,rfl,fun G e=>(jh b (w.le (d.trans (h.trans e)))).mono ?_⟩;rintro r H i ⟨I,J,K,rfl,z⟩;refine ⟨_,_,_,_,rfl,fun L f=>(jh c (x.le (d.trans (h.trans (e.trans (i.trans f)))))).mono ?_⟩;rintro r M j ⟨N,O,P,rfl,A⟩;exact ⟨_,_,_,_,rfl,fun Q g=>⟨_,_,_,_,_,_,_,_,_,rfl,y.le (e.trans (i.trans (f.trans (j.trans g)))),z.le (f.trans (j.trans g)),A.le g⟩⟩
end Go.Proofs.Tryz
namespace Go.Eng
open Go.Big
theorem RR.zero (V:View):RR V (.agg #[.int .i64 0,.int .i64 0,.pointer none]) 0:=.inl ⟨rfl,by unfold Wd;decide⟩
end Go.Eng
namespace Go.Proofs.Tryz
open Go.Eng Go.Big
structure Sp where
 lo:Rat
 hi:Rat
 a:Bool
 b:Bool
def Sp.can (s:Sp):Prop:=(s.a=true->s.lo=0)/\(s.b=true->s.hi=0)
def Sp.sz (k:Nat)(s:Sp):Prop:=Sz k s.lo/\Sz k s.hi
def Sp.zero:Sp:=⟨0,0,false,false⟩
def gL (k:Nat)(l:L3):Prop:=Sz k (l.1:Rat)/\Sz k (l.2.1:Rat)/\Sz k (l.2.2:Rat)
def qp (V:View)(v:Value)(s:Sp):Prop:=∃(x1 x2:Int)(p:OA)(y1 y2:Int)(q:OA),v=.agg #[.int .i64 x1,.int .i64 x2,.pointer p,.int .i64 y1,.int .i64 y2,.pointer q,.bool s.a,.bool s.b] /\
 RR V (.agg #[.int .i64 x1,.int .i64 x2,.pointer p]) s.lo/\RR V (.agg #[.int .i64 y1,.int .i64 y2,.pointer q]) s.hi
theorem qp.le {V V':View}{v:Value}{s:Sp}(h:qp V v s)(l:V.Le V'):qp V' v s:=by
 obtain ⟨a,b,p,c,d,q,e,f,g⟩:=h;exact ⟨a,b,p,c,d,q,e,f.le l,g.le l⟩
def wR (V:View)(v:Value)(l:L3):Prop:=zB V v (l.1:Rat) (l.2.1:Rat) (l.2.2:Rat)
theorem wR.le {V V':View}{v:Value}{l:L3}(h:wR V v l)(e:V.Le V'):wR V' v l:=zB.le h e
def qo (V:View)(v:Value)(l:L3)(s:Sp):Prop:=∃(x1 x2:Int)(p:OA)(y1 y2:Int)(q:OA)(z1 z2:Int)(r:OA)(u1 u2:Int)(t:OA)(w1 w2:Int)(o:OA),
 v=.agg #[.int .i64 x1,.int .i64 x2,.pointer p,.int .i64 y1,.int .i64 y2,.pointer q,.int .i64 z1,.int .i64 z2,.pointer r,.int .i64 u1,.int .i64 u2,.pointer t,.int .i64 w1,.int .i64 w2,.pointer o,.bool s.a,.bool s.b] /\
 wR V (.agg #[.int .i64 x1,.int .i64 x2,.pointer p,.int .i64 y1,.int .i64 y2,.pointer q,.int .i64 z1,.int .i64 z2,.pointer r]) l /\
 qp V (.agg #[.int .i64 u1,.int .i64 u2,.pointer t,.int .i64 w1,.int .i64 w2,.pointer o,.bool s.a,.bool s.b]) s
theorem qo.le {V V':View}{v:Value}{l:L3}{s:Sp}(h:qo V v l s)(e:V.Le V'):qo V' v l s:=by
 obtain ⟨a,b,p,c,d,q,f,g,r,i,j,t,k,m,o,rfl,n,u⟩:=h;exact ⟨a,b,p,c,d,q,f,g,r,i,j,t,k,m,o,rfl,n.le e,u.le e⟩
def Be (V:View)(v:Value)(b:Bool)(xs ys:List Nat):Prop:=∃p n c p' n' c',v=.agg #[.bool b,.slice p n c,.slice p' n' c']/\RD V p n c xs/\RD V p' n' c' ys
theorem Be.le {V V':View}{v:Value}{b:Bool}{xs ys:List Nat}(h:Be V v b xs ys)(l:V.Le V'):Be V' v b xs ys:=by
 obtain ⟨p,n,c,a,d,f,e,g,i⟩:=h;exact ⟨p,n,c,a,d,f,e,g.le l,i.le l⟩
theorem Be.nil {V:View}:Be V (.agg #[.bool false,.slice none 0 0,.slice none 0 0]) false [] []:=⟨_,_,_,_,_,_,rfl,RD.nil,RD.nil⟩
def RE (V:View)(v:Value)(q:Rat)(no:Bool):Prop:=(no=true->Be V v false [] [])/\(no=false->RA V v q)
theorem RE.le {V V':View}{v:Value}{q:Rat}{no:Bool}(h:RE V v q no)(l:V.Le V'):RE V' v q no:=⟨fun e=>(h.1 e).le l,fun e=>(h.2 e).le l⟩
def J7 (V:View)(v:Value)(s:Sp):Prop:=∃b p n c p' n' c' d q m e q' m' e',v=.agg #[.bool b,.slice p n c,.slice p' n' c',.bool d,.slice q m e,.slice q' m' e',.bool s.a,.bool s.b] /\
 RE V (.agg #[.bool b,.slice p n c,.slice p' n' c']) s.lo s.a/\RE V (.agg #[.bool d,.slice q m e,.slice q' m' e']) s.hi s.b
theorem J7.le {V V':View}{v:Value}{s:Sp}(h:J7 V v s)(l:V.Le V'):J7 V' v s:=by
 obtain ⟨b,p,n,c,g,i,j,d,q,m,e,k,o,r,rfl,a,f⟩:=h;exact ⟨_,_,_,_,_,_,_,_,_,_,_,_,_,_,rfl,a.le l,f.le l⟩
def qn (V:View)(v:Value)(l:L3)(s:Sp):Prop:=∃b1 p1 n1 c1 b2 p2 n2 c2 b3 p3 n3 c3 b p n c p' n' c' d q m e q' m' e',
 v=.agg #[.bool b1,.slice p1 n1 c1,.bool b2,.slice p2 n2 c2,.bool b3,.slice p3 n3 c3,.bool b,.slice p n c,.slice p' n' c',.bool d,.slice q m e,.slice q' m' e',.bool s.a,.bool s.b] /\
 RL V (.agg #[.bool b1,.slice p1 n1 c1,.bool b2,.slice p2 n2 c2,.bool b3,.slice p3 n3 c3]) l.1 l.2.1 l.2.2/\J7 V (.agg #[.bool b,.slice p n c,.slice p' n' c',.bool d,.slice q m e,.slice q' m' e',.bool s.a,.bool s.b]) s
theorem qn.le {V V':View}{v:Value}{l:L3}{s:Sp}(h:qn V v l s)(e:V.Le V'):qn V' v l s:=by
 obtain ⟨i,j,k,o,r,t,u,w,x,y,z,A,b,p,n,c,B,C,D,d,q,m,f,E,F,G,rfl,a,g⟩:=h;exact ⟨_,_,_,_,_,_,_,_,_,_,_,_,_,_,_,_,_,_,_,_,_,_,_,_,_,_,rfl,a.le e,g.le e⟩
def Hj (V:View)(v:Value)(s:Sp):Prop:=∃b p n c p' n' c' d q m e q' m' e',v=.agg #[.bool b,.slice p n c,.slice p' n' c',.bool d,.slice q m e,.slice q' m' e',.bool s.a,.bool s.b] /\
 RQ V (.agg #[.bool b,.slice p n c,.slice p' n' c']) s.lo/\RQ V (.agg #[.bool d,.slice q m e,.slice q' m' e']) s.hi
theorem Hj.le {V V':View}{v:Value}{s:Sp}(h:Hj V v s)(l:V.Le V'):Hj V' v s:=by
 obtain ⟨b,p,n,c,g,i,j,d,q,m,e,k,o,r,rfl,a,f⟩:=h;exact ⟨_,_,_,_,_,_,_,_,_,_,_,_,_,_,rfl,a.le l,f.le l⟩
def RF (V:View)(v:Value)(l:L3)(s:Sp):Prop:=∃b1 p1 n1 c1 b2 p2 n2 c2 b3 p3 n3 c3 b p n c p' n' c' d q m e q' m' e',
 v=.agg #[.bool b1,.slice p1 n1 c1,.bool b2,.slice p2 n2 c2,.bool b3,.slice p3 n3 c3,.bool b,.slice p n c,.slice p' n' c',.bool d,.slice q m e,.slice q' m' e',.bool s.a,.bool s.b] /\
 RL V (.agg #[.bool b1,.slice p1 n1 c1,.bool b2,.slice p2 n2 c2,.bool b3,.slice p3 n3 c3]) l.1 l.2.1 l.2.2/\Hj V (.agg #[.bool b,.slice p n c,.slice p' n' c',.bool d,.slice q m e,.slice q' m' e',.bool s.a,.bool s.b]) s
theorem RF.le {V V':View}{v:Value}{l:L3}{s:Sp}(h:RF V v l s)(e:V.Le V'):RF V' v l s:=by
 obtain ⟨i,j,k,o,r,t,u,w,x,y,z,A,b,p,n,c,B,C,D,d,q,m,f,E,F,G,rfl,a,g⟩:=h;exact ⟨_,_,_,_,_,_,_,_,_,_,_,_,_,_,_,_,_,_,_,_,_,_,_,_,_,_,rfl,a.le e,g.le e⟩
theorem fy {V:View}{v:Value}{a b c:Int}(h:RL V v a b c):∃b1 p1 n1 c1 b2 p2 n2 c2 b3 p3 n3 c3,v=.agg #[.bool b1,.slice p1 n1 c1,.bool b2,.slice p2 n2 c2,.bool b3,.slice p3 n3 c3]:=by
 obtain ⟨_,_,_,_,_,_,_,_,_,e,-⟩:=h;exact ⟨_,_,_,_,_,_,_,_,_,_,_,_,e⟩
theorem iS {V:View}{v:Value}{x y:Rat}(h:RP V v x y):∃b1 p1 n1 c1 p2 n2 c2 b3 p3 n3 c3 p4 n4 c4,v=.agg #[.bool b1,.slice p1 n1 c1,.slice p2 n2 c2,.bool b3,.slice p3 n3 c3,.slice p4 n4 c4]:=by
 obtain ⟨_,_,_,_,_,_,_,_,_,_,_,_,e,-⟩:=h;exact ⟨_,_,_,_,_,_,_,_,_,_,_,_,_,_,e⟩
def P3 (l:L3)(x y:Rat):Rat:=(l.1:Rat)*x+(l.2.1:Rat)*y+(l.2.2:Rat)
def eX (l:L3):Rat:=(l.1:Rat)*(l.1:Rat)+(l.2.1:Rat)*(l.2.1:Rat)
def lZ (l:L3)(x y:Rat):Rat:=((l.2.1:Rat)*x-(l.1:Rat)*y)*(eX l)⁻¹
def E8 (l:L3)(t:Rat):Rat:=(l.2.1:Rat)*t-(l.1:Rat)*(l.2.2:Rat)*(eX l)⁻¹
def E9 (l:L3)(t:Rat):Rat:=-((l.1:Rat)*t)-(l.2.1:Rat)*(l.2.2:Rat)*(eX l)⁻¹
def revL (l:L3):L3:=(-l.1,-l.2.1,-l.2.2)
def Sp.neg (s:Sp):Sp:=⟨if s.b then 0 else -s.hi,if s.a then 0 else -s.lo,s.b,s.a⟩
def Sp.has (s:Sp)(t:Rat):Bool:=(s.a||decide (cmpQ s.lo t<=0))&&(s.b||decide (cmpQ s.hi t≥0))
def Sp.emp (s:Sp):Bool:=!s.a&&!s.b&&decide (cmpQ s.lo s.hi≥0)
def Ac (l:L3)(s:Sp)(x y:Rat):Bool:=decide (P3 l x y=0)&&s.has (lZ l x y)
def Nz (l:L3):Prop:=¬(l.1=0/\l.2.1=0)
theorem sq_nonneg (x:Int):0<=x*x:=by
 rw [←Int.natAbs_mul_self];exact Wq0 _
theorem IV (l:L3):eX l=((l.1*l.1+l.2.1*l.2.1:Int):Rat):=by unfold eX;simp
theorem Nz.norm {l:L3}(h:Nz l):eX l≠0:=by
 rw [IV];have d:=sq_nonneg l.1;have f:=sq_nonneg l.2.1
 have a:l.1*l.1+l.2.1*l.2.1≠0:=by
  intro e;have b:l.1*l.1=0:=by omega
  have c:l.2.1*l.2.1=0:=by omega
  exact h ⟨(Qt5.1 b).elim id id,(Qt5.1 c).elim id id⟩
 exact_mod_cast a
theorem Ck {q:Rat}(h:q≠0):q.num≠0:=fun e=>h (Qn5.1 e)
theorem Ag {V:View}{l p:Value}{L:L3}{x y:Rat}(hl:wR V l L)(hp:lF V p x y){k:Nat}(sl:gL k L)(s1:Sz k x)(s2:Sz k y)(hk:8*k+7<274877906944:=by omega) :
  aa prog 107 #[l,p] V fun r V'=>RR V' r (lZ L x y):=by
 refine (ux hl hp sl.1 sl.2.1 sl.2.2 s1 s2 hk).mono ?_;rintro r a b g
 have e:lZ L x y=((((L.2.1:Rat))*x+(-(L.1:Rat))*y)*(((L.2.1:Rat))*((L.2.1:Rat))+(-(L.1:Rat))*(-(L.1:Rat)))⁻¹):=by
  unfold lZ eX;grind
 rw [e];exact g
theorem AE {L:L3}{x y:Rat}{k:Nat}(sl:gL k L)(s1:Sz k x)(s2:Sz k y):Sz (8*k+7) (lZ L x y):=by
 have e:lZ L x y=((((L.2.1:Rat))*x+(-(L.1:Rat))*y)*(((L.2.1:Rat))*((L.2.1:Rat))+(-(L.1:Rat))*(-(L.1:Rat)))⁻¹):=by
  unfold lZ eX;grind
 rw [e];exact rL sl.1 sl.2.1 sl.2.2 s1 s2
theorem Sx {V:View}{l t:Value}{L:L3}{x:Rat}(hl:wR V l L)(ht:RR V t x){k:Nat}(sl:gL k L)(s1:Sz k x)(hk:20*k+19<274877906944) :
  aa prog 172 #[l,t] V fun r V'=>lF V' r (E8 L x) (E9 L x):=by
 refine (Bz hl ht sl.1 sl.2.1 sl.2.2 s1 hk).mono ?_;rintro r c d g;have a:E8 L x=((L.1:Rat)*((-(L.2.2:Rat))*((L.1:Rat)*(L.1:Rat)+(L.2.1:Rat)*(L.2.1:Rat))⁻¹))+((L.2.1:Rat)*x):=by unfold E8 eX;grind
 have b:E9 L x=((L.2.1:Rat)*((-(L.2.2:Rat))*((L.1:Rat)*(L.1:Rat)+(L.2.1:Rat)*(L.2.1:Rat))⁻¹))+((-(L.1:Rat))*x):=by unfold E9 eX;grind
 rw [a,b];exact g
theorem JI {L:L3}{x:Rat}{k:Nat}(sl:gL k L)(s1:Sz k x):Sz (20*k+19) (E8 L x):=by
 have a:E8 L x=((L.1:Rat)*((-(L.2.2:Rat))*((L.1:Rat)*(L.1:Rat)+(L.2.1:Rat)*(L.2.1:Rat))⁻¹))+((L.2.1:Rat)*x):=by unfold E8 eX;grind
 rw [a];exact yp sl.1 sl.2.1 sl.2.2 s1
theorem JJ {L:L3}{x:Rat}{k:Nat}(sl:gL k L)(s1:Sz k x):Sz (20*k+19) (E9 L x):=by
 have a:E9 L x=((L.2.1:Rat)*((-(L.2.2:Rat))*((L.1:Rat)*(L.1:Rat)+(L.2.1:Rat)*(L.2.1:Rat))⁻¹))+((-(L.1:Rat))*x):=by unfold E9 eX;grind
 rw [a];exact yq sl.1 sl.2.1 sl.2.2 s1
theorem pS (q:Rat):q.num.sign=0↔q=0:=by rw [Qp0,Qn5]
theorem MT {V:View}{l p:Value}{L:L3}{x y:Rat}(hl:wR V l L)(hp:lF V p x y){k:Nat}(sl:gL k L)(s1:Sz k x)(s2:Sz k y)(hk:16*k+16<274877906944:=by omega) :
  aa prog 108 #[l,p] V fun r V'=>r=.int .i64 (P3 L x y).num.sign:=xi hl hp sl.1 sl.2.1 sl.2.2 s1 s2 hk
theorem gL.rev {k:Nat}{L:L3}(h:gL k L):gL k (revL L):=by
 unfold gL revL;simp only [Wx8];exact ⟨h.1.neg,h.2.1.neg,h.2.2.neg⟩
theorem Jo {L:L3}(h:Nz L):((((((L.2.1:Int):Rat)))*((((L.2.1:Int):Rat))))+(((-(((L.1:Int):Rat))))*((-(((L.1:Int):Rat)))))).num≠0:=by
 have:(((((L.2.1:Int):Rat)))*((((L.2.1:Int):Rat))))+(((-(((L.1:Int):Rat))))*((-(((L.1:Int):Rat)))))=eX L:=by unfold eX;grind
 rw [this];exact Ck h.norm
theorem Fz {V:View}{l p:Value}{L:L3}{x y:Rat}(hl:RL V l L.1 L.2.1 L.2.2)(hp:RP V p x y)(hz:Nz L){k:Nat}(sl:gL k L)(s1:Sz k x)(s2:Sz k y)(hk:8*k+7<274877906944:=by omega) :
  aa prog 61 #[l,p] V fun r V'=>RQ V' r (lZ L x y):=by
 refine (xp hl hp (Jo hz) sl.1 sl.2.1 sl.2.2 s1 s2 hk).mono ?_;rintro r a b g
 have e:lZ L x y=((((x)*((((L.2.1:Int):Rat))))+((y)*((-(((L.1:Int):Rat))))))*((((((L.2.1:Int):Rat)))*((((L.2.1:Int):Rat))))+(((-(((L.1:Int):Rat))))*((-(((L.1:Int):Rat))))))⁻¹):=by
  unfold lZ eX;grind
 rw [e];exact g
theorem Tp {V:View}{l t:Value}{L:L3}{x:Rat}(hl:RL V l L.1 L.2.1 L.2.2)(ht:RQ V t x)(hz:Nz L){k:Nat}(sl:gL k L)(s1:Sz k x)(hk:18*k+16<274877906944:=by omega) :
  aa prog 17 #[l,t] V fun r V'=>RP V' r (E8 L x) (E9 L x):=by
 refine (DV hl ht (Jo hz) sl.1 sl.2.1 sl.2.2 s1 hk).mono ?_;rintro r c d g;have a:E8 L x=(((-((((L.2.2:Int):Rat))*((((((L.2.1:Int):Rat)))*((((L.2.1:Int):Rat))))+(((-(((L.1:Int):Rat))))*((-(((L.1:Int):Rat))))))⁻¹))*(((L.1:Int):Rat)))+(x)*(((L.2.1:Int):Rat))):=by unfold E8 eX;grind
 have b:E9 L x=(((-((((L.2.2:Int):Rat))*((((((L.2.1:Int):Rat)))*((((L.2.1:Int):Rat))))+(((-(((L.1:Int):Rat))))*((-(((L.1:Int):Rat))))))⁻¹))*(((L.2.1:Int):Rat)))+(x)*(-(((L.1:Int):Rat)))):=by unfold E9 eX;grind
 rw [a,b];exact g
structure Nx (V:View) (vs:List Value) (i:Int) (f a b c:Rat):Prop where
 h0:0<=i
 h3:i<=3
 row:∃(x1 x2:Int)(p:OA)(y1 y2:Int)(q:OA)(z1 z2:Int)(r:OA),vs=[.int .i64 x1,.int .i64 x2,.pointer p,.int .i64 y1,.int .i64 y2,.pointer q,.int .i64 z1,.int .i64 z2,.pointer r] /\
  RR V (.agg #[.int .i64 x1,.int .i64 x2,.pointer p]) (if 0<i then a*f else a)/\RR V (.agg #[.int .i64 y1,.int .i64 y2,.pointer q]) (if 1<i then b*f else b)/\RR V (.agg #[.int .i64 z1,.int .i64 z2,.pointer r]) (if 2<i then c*f else c)
theorem Nx.le {V V':View}{vs:List Value}{i:Int}{f a b c:Rat}(h:Nx V vs i f a b c)(l:V.Le V'):Nx V' vs i f a b c:=by
 obtain ⟨d,g,j,k,p,m,n,q,o,s,r,e,t,u,v⟩:=h;exact ⟨d,g,j,k,p,m,n,q,o,s,r,e,t.le l,u.le l,v.le l⟩
theorem zN {V:View}{u:Value}{f a b c:Rat}{lb:Nat}{vs:List Value}(hf:RR V u f)(hv:Nx V vs 0 f a b c)(hw:V.w.heap[lb]?=some (.cells vs.toArray 98 (0,0)))(hx:V.X lb)
  {k:Nat}(sf:Sz k f)(sa:Sz k a)(sb:Sz k b)(sc:Sz k c)(hk:2*k<1099511627776) :
  aa prog 243 #[u,.slice (some ⟨lb,0,none⟩) 3 3] V fun r V'=>∃(bk:Nat)(ws:List Value),r=.slice (some ⟨bk,0,none⟩) 3 3/\V'.w.heap[bk]?=some (.cells ws.toArray 98 (0,0))/\(V.w.heap.size<=bk\/bk=lb)/\Nx (V'.cu (ws≠[]) bk) ws 3 f a b c:=by
 have I:=hf;obtain ⟨f0,f1,f2,rfl⟩:=hf.shape;have L:vs≠[]:=by obtain ⟨_,_,t,v,p,x,y,q,A,B,r,rfl,-⟩:=hv;exact fun h=>nomatch h
 refine x_ f0 f1 f2 lb 3 3 vs V _ (fun _=>hw) (fun _=>hx) ⟨fun z V'=>Nx V' z.2 z.1 f a b c/\RR V' (.agg #[.int .i64 f0,.int .i64 f1,.pointer f2]) f,fun z=>(3-z.1).toNat,⟨(0,vs),by (try dsimp only);and_intros<;>trivial,hv,I⟩,?_⟩;rintro ⟨i,ws⟩ Q R ⟨H,e⟩;refine ⟨rfl,fun C=>?_,fun C=>?_⟩
 ·have C:i<3:=of_decide_eq_true C;dsimp only;obtain ⟨S,h3,t,v,p,x,y,q,A,B,r,rfl,m,n,s⟩:=H;have w:i64.wrap (i+1)=i+1:=ar (by omega);rw [w];have M:i=0\/i=1\/i=2:=by omega
  rcases M with rfl|rfl|rfl
  ·rw [if_neg (by (try dsimp only);decide)] at m;rw [if_neg (by (try dsimp only);decide)] at n;rw [if_neg (by (try dsimp only);decide)] at s;refine ⟨⟨by decide,by decide⟩,by decide,t,v,p,⟨by simp,rfl⟩,fun J d=>(jf (m.le d) (e.le d) sa sf).mono ?_⟩;rintro o K j g;have D:=g;obtain ⟨E,F,G,rfl⟩:=g.shape;exact ⟨_,_,_,rfl,⟨by decide,by decide⟩,by decide,by simp,(1,[.int .i64 E,.int .i64 F,.pointer G,.int .i64 x,.int .i64 y,.pointer q,.int .i64 A,.int .i64 B,.pointer r]),by dsimp only;decide,by and_intros<;>rfl,⟨by dsimp only;decide,by dsimp only;decide,_,_,_,_,_,_,_,_,_,rfl,by rw [if_pos (by (try dsimp only);decide)];exact D,by rw [if_neg (by (try dsimp only);decide)];exact n.le (d.trans j),by rw [if_neg (by (try dsimp only);decide)];exact s.le (d.trans j)⟩,e.le (d.trans j)⟩
  ·rw [if_pos (by (try dsimp only);decide)] at m;rw [if_neg (by (try dsimp only);decide)] at n;rw [if_neg (by (try dsimp only);decide)] at s;refine ⟨⟨by decide,by decide⟩,by decide,x,y,q,⟨by simp,rfl⟩,fun J d=>(jf (n.le d) (e.le d) sb sf).mono ?_⟩;rintro o K j g;have D:=g;obtain ⟨E,F,G,rfl⟩:=g.shape;exact ⟨_,_,_,rfl,⟨by decide,by decide⟩,by decide,by simp,(2,[.int .i64 t,.int .i64 v,.pointer p,.int .i64 E,.int .i64 F,.pointer G,.int .i64 A,.int .i64 B,.pointer r]),by dsimp only;decide,by and_intros<;>rfl,⟨by dsimp only;decide,by dsimp only;decide,_,_,_,_,_,_,_,_,_,rfl,by rw [if_pos (by (try dsimp only);decide)];exact m.le (d.trans j),by rw [if_pos (by (try dsimp only);decide)];exact D,by rw [if_neg (by (try dsimp only);decide)];exact s.le (d.trans j)⟩,e.le (d.trans j)⟩
  ·rw [if_pos (by (try dsimp only);decide)] at m;rw [if_pos (by (try dsimp only);decide)] at n;rw [if_neg (by (try dsimp only);decide)] at s;refine ⟨⟨by decide,by decide⟩,by decide,A,B,r,⟨by simp,rfl⟩,fun J d=>(jf (s.le d) (e.le d) sc sf).mono ?_⟩;rintro o K j g;have D:=g;obtain ⟨E,F,G,rfl⟩:=g.shape;exact ⟨_,_,_,rfl,⟨by decide,by decide⟩,by decide,by simp,(3,[.int .i64 t,.int .i64 v,.pointer p,.int .i64 x,.int .i64 y,.pointer q,.int .i64 E,.int .i64 F,.pointer G]),by dsimp only;decide,by and_intros<;>rfl,⟨by dsimp only;decide,by dsimp only;decide,_,_,_,_,_,_,_,_,_,rfl,by rw [if_pos (by (try dsimp only);decide)];exact m.le (d.trans j),by rw [if_pos (by (try dsimp only);decide)];exact n.le (d.trans j),by rw [if_pos (by (try dsimp only);decide)];exact D⟩,e.le (d.trans j)⟩
 ·have C:¬i<3:=of_decide_eq_false C;obtain rfl:i=3:=by have:=H.h3;omega
  dsimp only;intro T bk N O P;have l:ws≠[]:=by obtain ⟨_,_,t,v,p,x,y,q,A,B,r,rfl,-⟩:=H;exact fun h=>nomatch h
  refine ⟨bk,ws,rfl,O l,?_,H.le N⟩;rcases P l with h|⟨-,h⟩|h
  ·exact .inl h
  ·exact .inr h
  ·exact h.elim
theorem L_ {a b c:Rat}{k:Nat}(sa:Sz k a)(sb:Sz k b)(sc:Sz k c):Sz (3*k+2) (cY (cY a b) c)⁻¹:=
 jN (Sz.mono (fj (fj sa sb) sc))
theorem Lj {a b c:Rat}{k:Nat}(sa:Sz k a)(sb:Sz k b)(sc:Sz k c)(h:¬(a=0/\b=0)):gL (4*k+3) (rf a b c):=by
 obtain ⟨-,e,f,g⟩:=km (c:=c) h;have d:=L_ sa sb sc;unfold gL;rw [←e,←f,←g];exact ⟨Sz.mono (Sz.mul sa d),Sz.mono (Sz.mul sb d),Sz.mono (Sz.mul sc d)⟩
theorem DO {V:View}{u v w:Value}{a b c:Rat}(ha:RR V u a)(hb:RR V v b)(hc:RR V w c){k:Nat}(sa:Sz k a)(sb:Sz k b)(sc:Sz k c)(hk:8*k+8<274877906944:=by omega) :
  aa prog 218 #[u,v,w] V fun r V'=>(a=0/\b=0->∃l,r=.tuple #[l,.bool false]/\wR V' l (0,0,0))/\(¬(a=0/\b=0)->∃l,r=.tuple #[l,.bool true]/\wR V' l (rf a b c)):=by
 have e:=ha;have f:=hb;have g:=hc;obtain ⟨s,t,x,rfl⟩:=ha.shape;obtain ⟨y,z,A,rfl⟩:=hb.shape;obtain ⟨B,C,D,rfl⟩:=hc.shape;have sg:=L_ sa sb sc
 have gen:∀L:View,V.Le L->¬(a=0/\b=0)->(∀M:View,L.Le M->aa prog 89 #[.agg #[.int .i64 s,.int .i64 t,.pointer x],.agg #[.int .i64 y,.int .i64 z,.pointer A]] M fun Yu V7=>∃Wk:Int,∃Qg:Int,∃VW:OA,Yu=.agg #[.int .i64 Wk,.int .i64 Qg,.pointer VW]/\(∀N:View,V7.Le N->aa prog 89 #[.agg #[.int .i64 Wk,.int .i64 Qg,.pointer VW],.agg #[.int .i64 B,.int .i64 C,.pointer D]] N fun Yv V9=>∃Wm:Int,∃Wn:Int,∃VY:OA,Yv=.agg #[.int .i64 Wm,.int .i64 Wn,.pointer VY]/\(∀O:View,V9.Le O->aa prog 203 #[.agg #[.int .i64 Wm,.int .i64 Wn,.pointer VY]] O fun SZ P=>∃Ql:Int,∃JS:Int,∃I_:OA,SZ=.agg #[.int .i64 Ql,.int .i64 JS,.pointer I_]/\(∀d:View,P.Le d->∀Bo:Nat,(d.w.heap[Bo]?=some (.cells #[.int .i64 s,.int .i64 t,.pointer x,.int .i64 y,.int .i64 z,.pointer A,.int .i64 B,.int .i64 C,.pointer D] 98 (0,0)))->(d.H Bo)->aa prog 243 #[.agg #[.int .i64 Ql,.int .i64 JS,.pointer I_],.slice (some ⟨Bo,0,none⟩) 3 3] (d.ax [Bo]) fun S0 E=>∃(Bp:Nat)(nE:List Value),(nE≠[]->E.w.heap[Bp]?=some (.cells nE.toArray 98 (0,0)))/\(nE≠[]->d.w.heap.size<=Bp\/Bp=Bo)/\∃(Ym:OA)(Ek HJ:Nat),S0=.slice (mA Bp HJ) Ek HJ/\((0<=(0:Int)/\(0:Int)<((Ek:Nat):Int))/\(Ek<=HJ)/\(∃Qa:Int,∃Qb:Int,∃PA:OA,(3<=nE.length/\(nE.drop 0).take 3=[.int .i64 Qa,.int .i64 Qb,.pointer PA])/\((0<=(1:Int)/\(1:Int)<((Ek:Nat):Int))/\(Ek<=HJ)/\(∃Qc:Int,∃Qd:Int,∃PB:OA,(6<=nE.length/\(nE.drop 3).take 3=[.int .i64 Qc,.int .i64 Qd,.pointer PB])/\((0<=(2:Int)/\(2:Int)<((Ek:Nat):Int))/\(Ek<=HJ)/\(∃Qe:Int,∃Qf:Int,∃PC:OA,(9<=nE.length/\(nE.drop 6).take 3=[.int .i64 Qe,.int .i64 Qf,.pointer PC])/\(∀F:View,(E.shut.cu (nE≠[]) Bp).Le F->(fun (r:Value) (V':View)=>(a=0/\b=0->∃l,r=.tuple #[l,.bool false]/\wR V' l (0,0,0))/\(¬(a=0/\b=0)->∃l,r=.tuple #[l,.bool true]/\wR V' l (rf a b c))) (.tuple #[.agg #[.int .i64 Qa,.int .i64 Qb,.pointer PA,.int .i64 Qc,.int .i64 Qd,.pointer PB,.int .i64 Qe,.int .i64 Qf,.pointer PC],.bool true]) F))))))))))):=by
  intro L G i M I;refine (fL (e.le (G.trans I)) (f.le (G.trans I)) sa sb).mono ?_;rintro r V7 l7 g1;have Q:=g1;obtain ⟨_,_,_,rfl⟩:=g1.shape;refine ⟨_,_,_,rfl,fun N R=>(fL (Q.le R) (g.le (G.trans (I.trans (l7.trans R)))) (fj sa sb) sc).mono ?_⟩;rintro r V9 l9 g2;have S:=g2;obtain ⟨_,_,_,rfl⟩:=g2.shape;refine ⟨_,_,_,rfl,fun O j=>(Fb (S.le j) (fj (fj sa sb) sc)).mono ?_⟩;rintro r P bE g3;have qQ:=g3;obtain ⟨_,_,_,rfl⟩:=g3.shape;refine ⟨_,_,_,rfl,fun d cM J T U=>?_⟩;have W:V.Le (d.ax [J]):=fun b o h=>cM b o (bE b o (j b o (l9 b o (R b o (l7 b o (I b o (G b o h)))))));have O5:P.Le (d.ax [J]):=fun b o h=>cM b o h
  refine (zN (V:=d.ax [J]) (a:=a) (b:=b) (c:=c) (lb:=J) (vs:=[.int .i64 s,.int .i64 t,.pointer x,.int .i64 y,.int .i64 z,.pointer A,.int .i64 B,.int .i64 C,.pointer D]) (qQ.le O5)
   ⟨by decide,by decide,_,_,_,_,_,_,_,_,_,rfl,by rw [if_neg (by (try dsimp only);decide)];exact e.le W,by rw [if_neg (by (try dsimp only);decide)];exact f.le W,by rw [if_neg (by (try dsimp only);decide)];exact g.le W⟩ T ⟨by simp,U⟩ (Sz.mono sg:Sz (3*k+2) _) (Sz.mono sa) (Sz.mono sb) (Sz.mono sc) (by omega)).mono ?_
  rintro r E cN ⟨bm,ws,rfl,X,Y,hs⟩;obtain ⟨-,-,x1,x2,p,y1,y2,q,z1,z2,r,rfl,s1,s2,s3⟩:=hs;rw [if_pos (by (try dsimp only);decide)] at s1 s2 s3;refine ⟨bm,_,fun _=>X,fun _=>Y,none,3,3,rfl,⟨by decide,by decide⟩,by decide,x1,x2,p,⟨by simp,rfl⟩,⟨by decide,by decide⟩,by decide,y1,y2,q,⟨by simp,rfl⟩,⟨by decide,by decide⟩,by decide,z1,z2,r,⟨by simp,rfl⟩,fun F dP=>⟨fun h=>absurd h i,fun _=>⟨_,rfl,?_⟩⟩⟩;obtain ⟨-,e1,e2,e3⟩:=km (c:=c) i;have Z:(E.cu ([Value.int .i64 x1,.int .i64 x2,.pointer p,.int .i64 y1,.int .i64 y2,.pointer q,.int .i64 z1,.int .i64 z2,.pointer r]≠[]) bm).Le F:=fun b o h=>dP b o h;refine ⟨_,_,_,_,_,_,_,_,_,rfl,?_,?_,?_⟩
  ·rw [←e1];exact s1.le Z
  ·rw [←e2];exact s2.le Z
  ·rw [←e3];exact s3.le Z
 refine CW s t x y z A B C D V _ fun V1 K=>(oQ (e.le K)).mono ?_;rintro r V2 l2 rfl;refine ⟨_,rfl,fun m V3 l3=>(oQ (f.le (K.trans (l2.trans l3)))).mono ?_,fun m=>?_⟩
 ·rintro r V4 l4 rfl;refine ⟨_,rfl,fun n V5 l5=>?_,fun n=>gen V4 (K.trans (l2.trans (l3.trans l4))) (fun h=>of_decide_eq_false n h.2)⟩;have m:=of_decide_eq_true m;have n:=of_decide_eq_true n;refine ⟨fun _=>⟨_,rfl,_,_,_,_,_,_,_,_,_,rfl,RR.zero _,RR.zero _,RR.zero _⟩,fun h=>absurd ⟨m,n⟩ h⟩
 ·exact gen V2 (K.trans l2) (fun h=>of_decide_eq_false m h.1)
def gI (px py qx qy:Rat):L3:=rf (-(qy-py)) (qx-px) (-(-(qy-py)*px+(qx-px)*py))
theorem mS {px py qx qy:Rat}(h:¬(px=qx/\py=qy)):¬(-(qy-py)=0/\qx-px=0):=by
 rintro ⟨a,b⟩;exact h ⟨by grind,by grind⟩
theorem FO {px py qx qy:Rat}:(px=qx/\py=qy)↔(-(qy-py)=0/\qx-px=0):=⟨fun ⟨a,b⟩=>⟨by grind,by grind⟩,fun ⟨a,b⟩=>⟨by grind,by grind⟩⟩
theorem FP {px py qx qy:Rat}(h:¬(px=qx/\py=qy)):Nz (gI px py qx qy):=KN (mS h)
theorem mR {px py qx qy:Rat}{k:Nat}(s1:Sz k px)(s2:Sz k py)(s3:Sz k qx)(s4:Sz k qy)(h:¬(px=qx/\py=qy)):gL (40*k+40) (gI px py qx qy):=by
 have a:Sz (2*k+1) (-(qy-py)):=Sz.mono (s4.sub s2).neg;have b:Sz (2*k+1) (qx-px):=Sz.mono (s3.sub s1);have c:Sz (8*k+8) (-(-(qy-py)*px+(qx-px)*py)):=Sz.mono ((a.mul s1).add (b.mul s2)).neg;have:=Lj (k:=8*k+8) (Sz.mono a) (Sz.mono b) c (mS h);exact ⟨Sz.mono this.1,Sz.mono this.2.1,Sz.mono this.2.2⟩
theorem xl {V:View}{u v:Value}{px py qx qy:Rat}(hp:lF V u px py)(hq:lF V v qx qy){k:Nat}(s1:Sz k px)(s2:Sz k py)(s3:Sz k qx)(s4:Sz k qy)(hk:100*k+100<274877906944:=by omega) :
  aa prog 170 #[u,v] V fun r V'=>(px=qx/\py=qy->∃l,r=.tuple #[l,.bool false]/\wR V' l (0,0,0))/\(¬(px=qx/\py=qy)->∃l,r=.tuple #[l,.bool true]/\wR V' l (gI px py qx qy)):=by
 have a:=hp;have e:=hq;obtain ⟨E,F,G,H,I,J,rfl,-,-⟩:=hp;obtain ⟨K,L,M,N,O,P,rfl,-,-⟩:=hq;have f:Sz (2*k+1) (-(qy-py)):=Sz.mono (s4.sub s2).neg;have c:Sz (2*k+1) (qx-px):=Sz.mono (s3.sub s1);have Q:Sz (2*k+1) (qy-py):=Sz.mono (s4.sub s2);have w:Sz (8*k+8) (-(qy-py)*px+(qx-px)*py):=Sz.mono ((f.mul s1).add (c.mul s2));refine wj E F G H I J K L M N O P V _ fun V1 g=>(zM (e.le g) (a.le g) s3 s4 s1 s2).mono ?_;rintro r V2 R x;have i:=x;obtain ⟨_,_,_,_,_,_,rfl,-,-⟩:=x;refine ⟨_,_,_,_,_,_,rfl,fun V3 y=>(xj (i.le y) c Q).mono ?_⟩;rintro r V4 S z;have j:=z;obtain ⟨_,_,_,_,_,_,rfl,m,n⟩:=z;refine ⟨_,_,_,_,_,_,rfl,fun V5 d=>(fo (j.le d) (a.le (g.trans (R.trans (y.trans (S.trans d))))) (k:=2*k+1) f c (Sz.mono s1) (Sz.mono s2)).mono ?_⟩;rintro r V6 A B;have T:=B;obtain ⟨_,_,_,rfl⟩:=B.shape;refine ⟨_,_,_,rfl,fun V7 o=>(oP (T.le o) w).mono ?_⟩;rintro r V8 C D;have U:=D;obtain ⟨_,_,_,rfl⟩:=D.shape;refine ⟨_,_,_,rfl,fun V9 p=>(DO (m.le (d.trans (A.trans (o.trans (C.trans p))))) (n.le (d.trans (A.trans (o.trans (C.trans p))))) (U.le p) (k:=8*k+8) (Sz.mono f) (Sz.mono c) w.neg).mono ?_⟩;rintro r gm W ⟨X,Y⟩;by_cases h:px=qx/\py=qy
 ·obtain ⟨l,rfl,b⟩:=X (FO.1 h);have q:=b;obtain ⟨_,_,_,_,_,_,_,_,_,rfl,-,-,-⟩:=b;exact ⟨_,_,_,_,_,_,_,_,_,_,rfl,fun Z s=>⟨fun _=>⟨_,rfl,q.le s⟩,fun t=>absurd h t⟩⟩
 ·obtain ⟨l,rfl,b⟩:=Y (mS h);have q:=b;obtain ⟨_,_,_,_,_,_,_,_,_,rfl,-,-,-⟩:=b;exact ⟨_,_,_,_,_,_,_,_,_,_,rfl,fun Z s=>⟨fun t=>absurd t h,fun _=>⟨_,rfl,q.le s⟩⟩⟩
def xE (px py qx qy:Rat):Sp:=⟨lZ (gI px py qx qy) px py,lZ (gI px py qx qy) qx qy,false,false⟩
theorem xk {V:View}{u v:Value}{px py qx qy:Rat}(hp:lF V u px py)(hq:lF V v qx qy){k:Nat}(s1:Sz k px)(s2:Sz k py)(s3:Sz k qx)(s4:Sz k qy)(hk:400*k+400<274877906944:=by omega) :
  aa prog 113 #[u,v] V fun r V'=>(px=qx/\py=qy->∃l,r=.tuple #[l,.bool false]/\qo V' l (0,0,0) Sp.zero)/\(¬(px=qx/\py=qy)->∃l,r=.tuple #[l,.bool true]/\qo V' l (gI px py qx qy) (xE px py qx qy)):=by
 have a:=hp;have b:=hq;obtain ⟨w,x,y,z,A,B,rfl,-,-⟩:=hp;obtain ⟨C,D,E,F,G,H,rfl,-,-⟩:=hq;refine wi w x y z A B C D E F G H V _ fun K d=>(xl (a.le d) (b.le d) s1 s2 s3 s4).mono ?_;rintro r L p ⟨I,J⟩;by_cases h:px=qx/\py=qy
 ·obtain ⟨l,rfl,e⟩:=I h;obtain ⟨_,_,_,_,_,_,_,_,_,rfl,-,-,-⟩:=e;refine ⟨_,_,_,_,_,_,_,_,_,_,rfl,fun _ M N=>⟨fun _=>⟨_,rfl,?_⟩,fun g=>absurd h g⟩,fun h=>nomatch h⟩;exact ⟨_,_,_,_,_,_,_,_,_,_,_,_,_,_,_,rfl,⟨_,_,_,_,_,_,_,_,_,rfl,RR.zero _,RR.zero _,RR.zero _⟩,_,_,_,_,_,_,rfl,RR.zero _,RR.zero _⟩
 ·obtain ⟨l,rfl,e⟩:=J h;have i:=e;have sl:=mR s1 s2 s3 s4 h;obtain ⟨_,_,_,_,_,_,_,_,_,rfl,-,-,-⟩:=e;refine ⟨_,_,_,_,_,_,_,_,_,_,rfl,(fun h=>nomatch h),fun _ O c=>(Ag (i.le c) (a.le (d.trans (p.trans c))) sl (Sz.mono s1) (Sz.mono s2)).mono ?_⟩;rintro r P j q;have m:=q;obtain ⟨_,_,_,rfl⟩:=q.shape;refine ⟨_,_,_,rfl,fun Q f=>(Ag (i.le (c.trans (j.trans f))) (b.le (d.trans (p.trans (c.trans (j.trans f))))) sl (Sz.mono s3) (Sz.mono s4)).mono ?_⟩;rintro r R s t;have n:=t;obtain ⟨_,_,_,rfl⟩:=t.shape;refine ⟨_,_,_,rfl,fun S o=>⟨fun g=>absurd g h,fun _=>⟨_,rfl,?_⟩⟩⟩;exact ⟨_,_,_,_,_,_,_,_,_,_,_,_,_,_,_,rfl,i.le (c.trans (j.trans (f.trans (s.trans o)))),_,_,_,_,_,_,rfl,m.le (f.trans (s.trans o)),n.le o⟩
def kZ (b:Bool)(xs ys:List Nat):Rat:=mkRat (aA b xs) (val ys)
def vy (b:Bool)(xs ys:List Nat):Bool:=fE b xs&&decide (ai (val ys)=ys)&&!decide (ys=[])&&decide (Nat.gcd (val xs) (val ys)=1)
def yr (b:Bool)(xs ys:List Nat):Bool:=!b&&decide (xs=[])&&decide (ys=[])
def Gi (b:Bool)(xs ys:List Nat)(no:Bool):Rat:=if no then 0 else kZ b xs ys
def fI (b:Bool)(xs ys:List Nat)(no:Bool):Bool:=if no then yr b xs ys else vy b xs ys
theorem Aj {q:Rat}:vy (decide (q.num<0)) (ai q.num.natAbs) (ai q.den)=true/\kZ (decide (q.num<0)) (ai q.num.natAbs) (ai q.den)=q:=by
 constructor
 ·unfold vy
  have a:fE (decide (q.num<0)) (ai q.num.natAbs)=true:=by
   unfold fE;rw [ae];by_cases h:q.num<0
   ·have:ai q.num.natAbs≠[]:=fun e=>by have:=bd.1 e;omega
    simp [h,this]
   ·simp [h]
  have b:ai q.den≠[]:=fun e=>q.den_nz (bd.1 e);rw [a,ae,ae];simp [b,q.reduced]
 ·unfold kZ;rw [aE,ae,Qp1]
theorem xg {V:View}(b:Bool){p q:OA}{n c m e:Nat}{xs ys:List Nat}(hx:RD V p n c xs)(hy:RD V q m e ys)(hm:xs.length<=1099511627776)(hn:ys.length<=1099511627776) :
  aa prog 188 #[.agg #[.bool b,.slice p n c,.slice q m e]] V fun r V'=>r=.bool (vy b xs ys):=by
 refine vY b p n c q m e V _ fun z a=>(dL b (hx.le a) hm).mono ?_;rintro r A l rfl;refine ⟨_,rfl,fun h B C=>by rw [Qw7] at h;simp [vy,h],fun d D o=>(oU (hy.le (a.trans (l.trans o))) hn).mono ?_⟩;rw [Qy7] at d;rintro r E t rfl;refine ⟨_,rfl,fun h F G=>by rw [Qw7] at h;simp [vy,h],fun f=>⟨fun h H I=>?_,fun u J v=>?_⟩⟩
 ·have i:=hy.len
  have:ys=[]:=by
   have h:((m:Nat):Int)=0:=by simpa using h
   exact Qq6.1 (by omega)
  simp [vy,this]
 ·rw [Qy7] at f;have i:=hy.len
  have j:ys≠[]:=fun e=>by
   have h:¬((m:Nat):Int)=0:=by simpa using u
   rw [e] at i;exact h (by simp at i;omega)
  have s:=a.trans (l.trans (o.trans (t.trans v)));refine (qF (hx.le s) (hy.le s) hm hn).mono ?_;rintro r K L ⟨M,N,O,rfl,g⟩
  have w:(ai (Nat.gcd (val xs) (val ys))).length<=1099511627776:=by
   have d:=aW hx.cV;have f:=aW hy.cV;by_cases x:val xs=0
   ·rw [x,Qh5];omega
   ·have:Nat.gcd (val xs) (val ys)<=val xs:=Qr1 _ (by omega);have:=aD this;omega
  refine ⟨_,_,_,rfl,fun P k=>(fN (g.le k) w).mono ?_⟩;rintro r Q R rfl;refine ⟨_,rfl,fun S T=>?_⟩
  have y:(((bj (val (ai (Nat.gcd (val xs) (val ys)))):Nat):Int)==1)=decide (Nat.gcd (val xs) (val ys)=1):=by
   rw [ae,Qx6,beq_iff_eq,decide_eq_true_eq]
   have gen:∀g:Nat,((bj g:Nat):Int)=1↔g=1:=fun g=>by
    have U:bj g<=1↔g<2:=@eI g 1;have W:bj g<=0↔g<1:=@eI g 0;omega
   exact gen _
  rw [y];simp [vy,d,f,j]
theorem yH {V:View}{v:Value}{b:Bool}{xs ys:List Nat}(no:Bool)(h:Be V v b xs ys)(hm:xs.length<=1099511627776)(hn:ys.length<=1099511627776) :
  aa prog 144 #[v,.bool no] V fun r V'=>∃w,r=.tuple #[w,.bool (fI b xs ys no)]/\RR V' w (Gi b xs ys no):=by
 obtain ⟨p,n,c,q,m,e,rfl,d,f⟩:=h;have l:=d.len;have s:=f.len;refine EI b p n c q m e no V _ ⟨?_,?_⟩
 ·rintro rfl;have z:∀V':View,RR V' (.agg #[.int .i64 0,.int .i64 0,.pointer none]) (Gi b xs ys true):=fun V'=>RR.zero V';refine ⟨fun h=>⟨fun i A B=>⟨_,?_,z _⟩,fun i C D=>⟨_,?_,z _⟩⟩,fun h E F=>⟨_,?_,z _⟩⟩
  ·have j:xs=[]:=by
    have h:((n:Nat):Int)=0:=by simpa using i
    exact Qq6.1 (by omega)
   have t:(((m:Nat):Int)==0)=decide (ys=[]):=by
    rw [Qx6,beq_iff_eq,decide_eq_true_eq,←Qq6];omega
   rw [Qw7] at h;simp [fI,yr,h,j,←t]
  ·have j:xs≠[]:=fun e=>by
    have h:¬((n:Nat):Int)=0:=by simpa using i
    rw [e] at l;exact h (by simp at l;omega)
   simp [fI,yr,j]
  ·rw [Qy7] at h;simp [fI,yr,h]
 ·rintro rfl G a;refine (uv b (d.le a) (f.le a) hm hn).mono ?_;rintro r H o g;have u:=g;obtain ⟨_,_,_,rfl⟩:=g.shape;refine ⟨_,_,_,rfl,fun I k=>(xg b (d.le (a.trans (o.trans k))) (f.le (a.trans (o.trans k))) hm hn).mono ?_⟩;rintro r J x rfl;exact ⟨_,rfl,fun K y=>⟨_,rfl,u.le (k.trans (x.trans y))⟩⟩
theorem DF {V:View}{v:Value}{s:Sp}(h:qp V v s){k:Nat}(hs:s.sz k)(hk:2*k<1099511627776) :
  aa prog 145 #[v] V fun r V'=>r=.bool s.emp:=by
 obtain ⟨f,g,p,i,j,q,rfl,l,m⟩:=h;refine tA f g p i j q s.a s.b V _ ⟨fun c=>⟨fun d n e=>(ia (l.le e) (m.le e) hs.1 hs.2).mono ?_,fun d o t=>?_⟩,fun c u w=>?_⟩
 ·rintro r x y rfl;exact ⟨_,rfl,fun z A=>by rw [Qw7] at c d;simp [Sp.emp,c,d]⟩
 ·rw [Qy7] at d;simp [Sp.emp,d]
 ·rw [Qy7] at c;simp [Sp.emp,c]
def Nw (V:View)(v:Value)(b1:Bool)(xs1 ys1:List Nat)(b2:Bool)(xs2 ys2:List Nat)(na nb:Bool):Prop:=∃p n c p' n' c' q m e q' m' e',v=.agg #[.bool b1,.slice p n c,.slice p' n' c',.bool b2,.slice q m e,.slice q' m' e',.bool na,.bool nb] /\
 Be V (.agg #[.bool b1,.slice p n c,.slice p' n' c']) b1 xs1 ys1/\Be V (.agg #[.bool b2,.slice q m e,.slice q' m' e']) b2 xs2 ys2
theorem Nw.le {V V':View}{v:Value}{b1:Bool}{xs1 ys1:List Nat}{b2:Bool}{xs2 ys2:List Nat}{na nb:Bool}(h:Nw V v b1 xs1 ys1 b2 xs2 ys2 na nb)(l:V.Le V'):Nw V' v b1 xs1 ys1 b2 xs2 ys2 na nb:=by
 obtain ⟨p,n,c,d,f,g,q,m,e,i,j,k,rfl,a,b⟩:=h;exact ⟨_,_,_,_,_,_,_,_,_,_,_,_,rfl,a.le l,b.le l⟩
def EB (b1:Bool)(xs1 ys1:List Nat)(b2:Bool)(xs2 ys2:List Nat)(na nb:Bool):Sp:=⟨Gi b1 xs1 ys1 na,Gi b2 xs2 ys2 nb,na,nb⟩
def okW (b1:Bool)(xs1 ys1:List Nat)(b2:Bool)(xs2 ys2:List Nat)(na nb:Bool):Bool:=fI b1 xs1 ys1 na&&fI b2 xs2 ys2 nb&&!(EB b1 xs1 ys1 b2 xs2 ys2 na nb).emp
theorem DL {V:View}{v:Value}{b1:Bool}{xs1 ys1:List Nat}{b2:Bool}{xs2 ys2:List Nat}{na nb:Bool}(h:Nw V v b1 xs1 ys1 b2 xs2 ys2 na nb)(m1:xs1.length<=1099511627776)(m2:ys1.length<=1099511627776)(m3:xs2.length<=1099511627776)(m4:ys2.length<=1099511627776)
  {k:Nat}(hs:(EB b1 xs1 ys1 b2 xs2 ys2 na nb).sz k)(hk:2*k<1099511627776) :
  aa prog 85 #[v] V fun r V'=>∃w,r=.tuple #[w,.bool (okW b1 xs1 ys1 b2 xs2 ys2 na nb)]/\qp V' w (EB b1 xs1 ys1 b2 xs2 ys2 na nb):=by
 obtain ⟨p,n,c,u,x,y,q,m,e,z,A,B,rfl,C,D⟩:=h;refine CT b1 p n c u x y b2 q m e z A B na nb V _ fun U l=>(yH na (C.le l) m1 m2).mono ?_;rintro r W E ⟨w,rfl,o⟩;have f:=o;obtain ⟨F,G,H,rfl⟩:=o.shape;refine ⟨_,_,_,_,rfl,fun X s=>(yH nb (D.le (l.trans (E.trans s))) m3 m4).mono ?_⟩;rintro r I J ⟨w,rfl,t⟩;have g:=t;obtain ⟨K,L,M,rfl⟩:=t.shape;have d:∀a:View,I.Le a->qp a (.agg #[.int .i64 F,.int .i64 G,.pointer H,.int .i64 K,.int .i64 L,.pointer M,.bool na,.bool nb]) (EB b1 xs1 ys1 b2 xs2 ys2 na nb):=fun a b=>⟨_,_,_,_,_,_,rfl,f.le (s.trans (J.trans b)),g.le b⟩;refine ⟨_,_,_,_,rfl,fun i=>⟨fun j a b=>(DF (d a b) hs hk).mono ?_,fun j N O=>⟨_,?_,d N O⟩⟩,fun i P Q=>⟨_,?_,d P Q⟩⟩
 ·rintro r Y R rfl;exact ⟨_,rfl,fun S T=>⟨_,by simp [okW,i,j],d S (b.trans (R.trans T))⟩⟩
 ·simp [okW,j]
 ·simp [okW,i]
def A7 (l:L3)(s:Sp):Prop:=nj l=true/\s.can/\s.emp=false
theorem RE.raw {V:View}{v:Value}{q:Rat}{no:Bool}(h:RE V v q no)(hc:no=true->q=0):∃b xs ys,Be V v b xs ys/\fI b xs ys no=true/\Gi b xs ys no=q/\(∀k,Sz k q->xs.length<=k/\ys.length<=k):=by
 cases no with
 | true=>
  exact ⟨false,[],[],h.1 rfl,rfl,by rw [hc rfl];rfl,fun k _=>⟨Qw2 _,Qw2 _⟩⟩
 | false=>
  obtain ⟨p,n,c,f,g,i,rfl,d,e⟩:=h.2 rfl;exact ⟨_,_,_,⟨_,_,_,_,_,_,rfl,d,e⟩,Aj.1,Aj.2,fun k a=>⟨ag a.1,ag a.2⟩⟩
theorem F3 {V:View}{v:Value}{s:Sp}(h:J7 V v s)(hc:s.can)(hne:s.emp=false){k:Nat}(hs:s.sz k)(hk:2*k<1099511627776:=by omega) :
  aa prog 85 #[v] V fun r V'=>∃w,r=.tuple #[w,.bool true]/\qp V' w s:=by
 obtain ⟨b,p,n,c,C,D,E,d,q,m,e,F,G,H,rfl,o,t⟩:=h;obtain ⟨b1,xs1,ys1,f,u,x,i⟩:=o.raw hc.1;obtain ⟨b2,xs2,ys2,j,y,z,l⟩:=t.raw hc.2;have A:b=b1:=by obtain ⟨_,_,_,_,_,_,e,-⟩:=f;injection e with e;simp at e;exact e.1
 have B:d=b2:=by obtain ⟨_,_,_,_,_,_,e,-⟩:=j;injection e with e;simp at e;exact e.1
 subst A B;have i:=i k hs.1;have l:=l k hs.2;have es:EB b xs1 ys1 d xs2 ys2 s.a s.b=s:=by unfold EB;rw [x,z]
 refine (DL (V:=V) (b1:=b) (xs1:=xs1) (ys1:=ys1) (b2:=d) (xs2:=xs2) (ys2:=ys2) (na:=s.a) (nb:=s.b) ⟨_,_,_,_,_,_,_,_,_,_,_,_,rfl,f,j⟩ (by omega) (by omega) (by omega) (by omega) (k:=k) (by rw [es];exact hs) hk).mono ?_;rintro r I J ⟨w,rfl,g⟩;rw [es] at g;exact ⟨w,by unfold okW;rw [es,u,y,hne];rfl,g⟩
theorem HT {V:View}{v:Value}{s:Sp}(h:qp V v s){k:Nat}(hs:s.sz k)(hk:k<=1099511627776):aa prog 165 #[v] V fun r V'=>J7 V' r s:=by
 obtain ⟨w,y,p,z,A,q,rfl,B,l⟩:=h
 have t:∀{V:View} {v:Value} {x:Rat} {no:Bool},RA V v x->(!no)=true->RE V v x no:=fun h e=>by
  rw [Qw7] at e;subst e;exact ⟨(fun h=>nomatch h),fun _=>h⟩
 have f:∀{V:View} {x:Rat} {no:Bool},(!no)=false->RE V (.agg #[.bool false,.slice none 0 0,.slice none 0 0]) x no:=fun e=>by
  rw [Qy7] at e;subst e;exact ⟨fun _=>Be.nil,(fun h=>nomatch h)⟩
 refine xQ w y p z A q s.a s.b V _ ⟨fun g I m=>(oN (B.le m) hs.1 hk).mono ?_,fun g=>⟨fun c J C=>(oN (l.le C) hs.2 hk).mono ?_,fun c K D=>?_⟩⟩
 ·rintro r L E n;have i:=n;obtain ⟨_,_,_,_,_,_,_,rfl⟩:=n.shape;refine ⟨_,_,_,_,_,_,_,rfl,fun c M o=>(oN (l.le (m.trans (E.trans o))) hs.2 hk).mono ?_,fun c N F=>?_⟩
  ·rintro r O G j;have d:=j;obtain ⟨_,_,_,_,_,_,_,rfl⟩:=j.shape;exact ⟨_,_,_,_,_,_,_,rfl,fun P u=>⟨_,_,_,_,_,_,_,_,_,_,_,_,_,_,rfl,t (i.le (o.trans (G.trans u))) g,t (d.le u) c⟩⟩
  ·exact ⟨_,_,_,_,_,_,_,_,_,_,_,_,_,_,rfl,t (i.le F) g,f c⟩
 ·rintro r Q R j;have d:=j;obtain ⟨_,_,_,_,_,_,_,rfl⟩:=j.shape;exact ⟨_,_,_,_,_,_,_,rfl,fun S H=>⟨_,_,_,_,_,_,_,_,_,_,_,_,_,_,rfl,f g,t (d.le H) c⟩⟩
 ·exact ⟨_,_,_,_,_,_,_,_,_,_,_,_,_,_,rfl,f g,f c⟩
theorem wR.W0 {V:View}{r:Value}{l:L3}(h:RL V r ((l.1:Rat)).num ((l.2.1:Rat)).num ((l.2.2:Rat)).num):RL V r l.1 l.2.1 l.2.2:=by
 simpa [Qr4] using h
theorem Bt {V:View}{v:Value}{l:L3}{s:Sp}(h:qo V v l s){k:Nat}(sl:gL k l)(hs:s.sz k)(hk:k<=1099511627776:=by omega):aa prog 94 #[v] V fun r V'=>qn V' r l s:=by
 obtain ⟨u,w,p,x,y,q,z,A,r,B,C,t,D,E,o,rfl,i,j⟩:=h;refine xN _ _ _ _ _ _ _ _ _ _ _ _ _ _ _ _ _ V _ fun F c=>(F7 (i.le c) sl.1 sl.2.1 sl.2.2 hk).mono ?_;rintro r G m d;have a:=wR.W0 d;obtain ⟨_,_,_,_,_,_,_,_,_,_,_,_,rfl⟩:=fy d;refine ⟨_,_,_,_,_,_,_,_,_,_,_,_,rfl,fun H e=>(HT (j.le (c.trans (m.trans e))) hs hk).mono ?_⟩;rintro r I n f;have b:=f;obtain ⟨_,_,_,_,_,_,_,_,_,_,_,_,_,_,rfl,-,-⟩:=f;exact ⟨_,_,_,_,_,_,_,_,_,_,_,_,_,_,_,_,rfl,fun J g=>⟨_,_,_,_,_,_,_,_,_,_,_,_,_,_,_,_,_,_,_,_,_,_,_,_,_,_,rfl,a.le (e.trans (n.trans g)),b.le g⟩⟩
theorem M7 {l:L3}(h:nj l=true):Nz l:=by
 unfold nj at h;intro e;simp [e.1,e.2] at h
theorem IZ {a b c:Int}(h:¬(a=0/\b=0)):nj (vm a b c)=true:=by
 have q:0<bC a b c:=by
  apply Qg6;intro e;have d:=Qd3.1 e;have j:=Qd3.1 d.1;exact h ⟨by omega,by omega⟩
 have f:bC a b c∣a.natAbs:=Qr2 (Qk8 _ _) (Qk8 _ _);have g:bC a b c∣b.natAbs:=Qr2 (Qk8 _ _) (Qb0 _ _);have l:bC a b c∣c.natAbs:=Qb0 _ _;have m:∀{x:Int},bC a b c∣x.natAbs->((bC a b c:Nat):Int)∣x:=fun h=>Qh1.1 (by rw [Qx5];exact h);have i:∀{x:Int},bC a b c∣x.natAbs->(x / (bC a b c:Int)).natAbs=x.natAbs / bC a b c:=fun h=>by rw [Qr7 (m h),Qx5]
 have o:∀{x:Int},bC a b c∣x.natAbs->x / (bC a b c:Int)=0->x=0:=fun r e=>by
  obtain ⟨k,p⟩:=m r;rw [p,Qg2 _ (by omega)] at e;rw [p,e,Int.mul_zero]
 have e:bC (a / (bC a b c:Int)) (b / (bC a b c:Int)) (c / (bC a b c:Int))=1:=by
  show Nat.gcd (Nat.gcd (a / (bC a b c:Int)).natAbs (b / (bC a b c:Int)).natAbs) (c / (bC a b c:Int)).natAbs=1;rw [i f,i g,i l,Nat.gcd_div f g,Nat.gcd_div (show bC a b c∣Nat.gcd a.natAbs b.natAbs from Qk8 _ _) l];exact Nat.div_self q
 have n:¬(a / (bC a b c:Int)=0/\b / (bC a b c:Int)=0):=fun ⟨d,j⟩=>h ⟨o f d,o g j⟩;show (decide (¬(a / (bC a b c:Int)=0/\b / (bC a b c:Int)=0))&&decide (bC (a / (bC a b c:Int)) (b / (bC a b c:Int)) (c / (bC a b c:Int))=1))=true;rw [decide_eq_true n,decide_eq_true e];rfl
theorem I0 {a b c:Rat}(h:¬(a=0/\b=0)):nj (rf a b c)=true:=by
 refine IZ ?_;have i:a.den*b.den*c.den≠0:=Qj7 (Qj7 a.den_nz b.den_nz) c.den_nz;have d:(((a.den*b.den*c.den:Nat):Int):Rat)≠0:=by exact_mod_cast i
 rintro ⟨f,g⟩;rw [Qn5] at f g;exact h ⟨(Qh2.1 f).elim id fun e=>absurd e d,(Qh2.1 g).elim id fun e=>absurd e d⟩
theorem I1 {px py qx qy:Rat}(h:¬(px=qx/\py=qy)):nj (gI px py qx qy)=true:=I0 (mS h)
theorem F5 {V:View}{v:Value}{x:L3}(h:RL V v x.1 x.2.1 x.2.2)(ho:nj x=true){k:Nat}(sl:gL k x)(hk:4*k+4<1099511627776:=by omega) :
  aa prog 40 #[v] V fun r V'=>∃w,r=.tuple #[w,.bool true]/\wR V' w x:=by
 obtain ⟨p,n,s,i,j,l,q,m,e,rfl,c,d,f⟩:=h;have d1:=ag (show x.1.natAbs<2^k from sl.1.1);have d2:=ag (show x.2.1.natAbs<2^k from sl.2.1.1);have d3:=ag (show x.2.2.natAbs<2^k from sl.2.2.1);have b:=DN (V:=V) (decide (x.1<0)) (decide (x.2.1<0)) (decide (x.2.2<0)) c d f (by omega) (by omega) (by omega) (k:=k) (by rw [aE];exact sl.1) (by rw [aE];exact sl.2.1) (by rw [aE];exact sl.2.2) hk;rw [vz,aE,aE,aE] at b;refine b.mono ?_;rintro r o t ⟨w,rfl,-,g⟩;have a:nj (x.1,x.2.1,x.2.2)=true:=ho;exact ⟨w,by rw [a],g a⟩
theorem j7 {V:View}{v:Value}{l:L3}{s:Sp}(h:qn V v l s)(ho:A7 l s){k:Nat}(sl:gL k l)(hs:s.sz k)(hk:4*k+4<1099511627776:=by omega) :
  aa prog 39 #[v] V fun r V'=>∃w,r=.tuple #[w,.bool true]/\qo V' w l s:=by
 obtain ⟨ho,y,f⟩:=ho;obtain ⟨z,A,B,C,D,E,F,G,H,I,J,K,b,p,n,c,L,M,N,d,q,m,e,O,P,Q,rfl,R,S⟩:=h;refine CS z A B C D E F G H I J K b p n c L M N d q m e O P Q s.a s.b V _ fun W j=>(F5 (R.le j) ho sl).mono ?_;rintro r X T ⟨w,rfl,o⟩;have g:=o;obtain ⟨_,_,_,_,_,_,_,_,_,rfl,-,-,-⟩:=o;refine ⟨_,_,_,_,_,_,_,_,_,_,rfl,fun Y t=>(F3 (S.le (j.trans (T.trans t))) y f hs).mono ?_⟩;rintro r Z U ⟨w,rfl,u⟩;have i:=u;obtain ⟨_,_,_,_,_,_,rfl,-,-⟩:=u;refine ⟨_,_,_,_,_,_,_,_,_,rfl,fun _ V5 x=>⟨_,rfl,_,_,_,_,_,_,_,_,_,_,_,_,_,_,_,rfl,g.le (t.trans (U.trans x)),i.le x⟩,(fun h=>nomatch h)⟩
theorem HU {V:View}{v w:Value}{s:Sp}{t:Rat}(h:qp V v s)(ht:RR V w t){k:Nat}(hs:s.sz k)(st:Sz k t)(hk:2*k<1099511627776:=by omega) :
  aa prog 183 #[v,w] V fun r V'=>r=.bool (s.has t):=by
 have c:=ht;obtain ⟨n,o,p,u,x,q,rfl,y,i⟩:=h;obtain ⟨t0,t1,t2,rfl⟩:=ht.shape;refine xR n o p u x q s.a s.b t0 t1 t2 V _ ⟨fun e=>⟨fun d A B=>by simp [Sp.has,e,d],fun d C j=>(ia (i.le j) (c.le j) hs.2 st).mono ?_⟩,fun e D f=>(ia (y.le f) (c.le f) hs.1 st).mono ?_⟩
 ·rintro r E F rfl;exact ⟨_,rfl,fun G H=>by simp [Sp.has,e,d]⟩
 ·rintro r I l rfl;refine ⟨_,rfl,fun g=>⟨fun d J K=>by simp [Sp.has,e,d,of_decide_eq_true g],fun d L m=>(ia (i.le (f.trans (l.trans m))) (c.le (f.trans (l.trans m))) hs.2 st).mono ?_⟩,fun g M N=>by simp [Sp.has,e,of_decide_eq_false g]⟩;rintro r O P rfl;exact ⟨_,rfl,fun Q z=>by simp [Sp.has,e,d,of_decide_eq_true g]⟩
theorem Sp.M5 {s:Sp}{k:Nat}(h:s.sz k):s.neg.sz k:=by
 unfold Sp.neg Sp.sz
 have z:Sz k (0:Rat):=by
  have:=h.1.2;refine ⟨Qv5 (Qw2 _) this,?_⟩;exact Qv5 (Qg6 s.lo.den_nz) this
 constructor
 ·dsimp only;split
  ·exact z
  ·exact h.2.neg
 ·dsimp only;split
  ·exact z
  ·exact h.1.neg
theorem HR {V:View}{v:Value}{l:L3}{s:Sp}(h:qo V v l s){k:Nat}(sl:gL k l)(hs:s.sz k)(hk:20*k+19<274877906944:=by omega) :
  aa prog 116 #[v] V fun r V'=>∃w,r=.tuple #[w,.bool (!s.b)]/\lF V' w (if s.b then 0 else E8 l s.hi) (if s.b then 0 else E9 l s.hi):=by
 obtain ⟨n,u,p,x,y,q,z,A,r,B,C,t,D,E,o,rfl,d,f⟩:=h;obtain ⟨_,_,_,_,_,_,e,F,i⟩:=f;simp only [Value.agg.injEq,Qb1,Qy2,Value.int.injEq,Value.pointer.injEq,true_and,and_true] at e;obtain ⟨rfl,rfl,rfl,rfl,rfl,rfl⟩:=e;refine xO _ _ _ _ _ _ _ _ _ _ _ _ _ _ _ _ _ V _ ⟨fun a G H=>⟨_,by rw [a];rfl,by rw [a];exact ⟨_,_,_,_,_,_,rfl,RR.zero _,RR.zero _⟩⟩,fun a I c=>(Sx (d.le c) (i.le c) sl hs.2 hk).mono ?_⟩;rintro r J K g;have j:=g;obtain ⟨_,_,_,_,_,_,rfl,-,-⟩:=g;exact ⟨_,_,_,_,_,_,rfl,fun L m=>⟨_,by rw [a];rfl,by rw [a];exact j.le m⟩⟩
theorem HS {V:View}{v w:Value}{l:L3}{s:Sp}{x y:Rat}(h:qo V v l s)(hp:lF V w x y){k:Nat}(sl:gL k l)(hs:s.sz k)(s1:Sz k x)(s2:Sz k y)(hk:20*k+20<274877906944) :
  aa prog 139 #[v,w] V fun r V'=>r=.bool (Ac l s x y):=by
 have a:=hp;obtain ⟨u,z,p,A,B,q,C,D,r,E,F,t,G,H,o,rfl,f,j⟩:=h;obtain ⟨_,_,_,_,_,_,rfl,-,-⟩:=hp;refine xP _ _ _ _ _ _ _ _ _ _ _ _ _ _ _ _ _ _ _ _ _ _ _ V _ fun I b=>(MT (f.le b) (a.le b) sl s1 s2).mono ?_;rintro r J d rfl;refine ⟨_,rfl,fun c K e=>(Ag (f.le (b.trans (d.trans e))) (a.le (b.trans (d.trans e))) sl s1 s2).mono ?_,fun c L M=>?_⟩
 ·rw [beq_iff_eq,pS] at c;rintro r N m g;have n:=g;obtain ⟨_,_,_,rfl⟩:=g.shape;refine ⟨_,_,_,rfl,fun O i=>(HU (j.le (b.trans (d.trans (e.trans (m.trans i))))) (n.le i) (k:=8*k+7) ⟨Sz.mono hs.1,Sz.mono hs.2⟩ (AE sl s1 s2)).mono ?_⟩;rintro r P Q rfl;exact ⟨_,rfl,fun R S=>by simp [Ac,c]⟩
 ·rw [beq_eq_false_iff_ne,ne_eq,pS] at c;simp [Ac,c]
end Go.Proofs.Tryz
