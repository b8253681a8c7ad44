import Derived.Test.YtdhlkpfmlimjfaaGreatDoorV13
import Derived.Test.YtdhlkpfmlimjfaaGreatDoorV8
import Derived.Test.YtdhlkpfmlimjfaaGreatDoorV12
import Derived.Test.YtdhlkpfmlimjfaaGreatDoorV6
import Derived.Test.YtdhlkpfmlimjfaaGreatDoorV10
set_option linter.unusedVariables false
open Go.IntKind (i64 u64 u32)
namespace Go.Proofs.Tryz
open Go.Eng Go.Big
theorem RQ.ofNat {V:View}{p:OA}{n c x:Nat}(h:RN V p n c x){b:Bool}(hb:b=decide ((x:Int)<0)):RQ V (.agg #[.bool b,.slice p n c,.slice none 0 0]) ((x:Int):Rat):=
 mH (z:=(x:Int)) (d:=1) rfl rfl h RD.nil hb
theorem RQ.int {V:View}{q:Rat}{b:Bool}{p:OA}{n c:Nat}{p':OA}{n' c':Nat}(h:RQ V (.agg #[.bool b,.slice p n c,.slice p' n' c']) q):RI V (.agg #[.bool b,.slice p n c]) q.num:=by
 obtain ⟨d,f,g,i,j,k,e,a,l⟩:=h
 cases e
 exact ⟨_,_,_,rfl,a⟩
theorem RQ.den {V:View}{q:Rat}{b:Bool}{p:OA}{n c:Nat}{p':OA}{n' c':Nat}(h:RQ V (.agg #[.bool b,.slice p n c,.slice p' n' c']) q):RD V p' n' c' (rR q.den):=by
 obtain ⟨d,f,g,i,j,k,e,l,a⟩:=h
 cases e
 exact a
def zU (px py qx qy:Rat):Rat×Rat×Rat:=
 let a:=-(qy-py);let b:=qx-px;let c:=-(a*px+b*py)
 let f:Rat:=(((a.den*b.den*c.den:Nat):Int):Rat)
 (a*f,b*f,c*f)
theorem Nc {n k:Nat}(h:n<2^k)(hk:0<k):Sz k (((n:Nat):Int):Rat):=by
 refine ⟨?_,?_⟩
 ·show ((n:Nat):Int).natAbs<_
  simpa using h
 ·show 1<2^k
  exact Nat.one_lt_two_pow (by omega)
theorem rQ {V:View}{u w:Value}{px py qx qy:Rat}(hp:RP V u px py)(hq:RP V w qx qy){k:Nat}(s1:Sz k px)(s2:Sz k py)(s3:Sz k qx)(s4:Sz k qy)(hk1:1<=k)(hk:64*k+64<274877906944) :
  Acts prog 28 #[u,w] V fun r V'=>((zU px py qx qy).1.num=0/\(zU px py qx qy).2.1.num=0->∃l,r=.tuple #[l,.bool false]/\RL V' l 0 0 0) /\
   (¬((zU px py qx qy).1.num=0/\(zU px py qx qy).2.1.num=0)->∃l,r=.tuple #[l,.bool true] /\
    RL V' l ((zU px py qx qy).1.num / (ig (zU px py qx qy).1.num (zU px py qx qy).2.1.num (zU px py qx qy).2.2.num:Int)) ((zU px py qx qy).2.1.num / (ig (zU px py qx qy).1.num (zU px py qx qy).2.1.num (zU px py qx qy).2.2.num:Int)) ((zU px py qx qy).2.2.num / (ig (zU px py qx qy).1.num (zU px py qx qy).2.1.num (zU px py qx qy).2.2.num:Int))):=by
 have L:=hp
 have N:=hq
 obtain ⟨p1,n1,c1,p2,n2,c2,p3,n3,c3,p4,n4,c4,rfl,i,j⟩:=hp
 obtain ⟨q1,m1,e1,q2,m2,e2,q3,m3,e3,q4,m4,e4,rfl,-,-⟩:=hq
 refine qB _ p1 n1 c1 p2 n2 c2 _ p3 n3 c3 p4 n4 c4 _ q1 m1 e1 q2 m2 e2 _ q3 m3 e3 q4 m4 e4 V _ fun V1 O=>(A0 (N.le O) (L.le O) s3 s4 s1 s2 hk1 (by omega)).mono ?_
 rintro r V2 l2 ⟨a1,a2,a3,a4,a5,a6,a7,a8,a9,Y9,Y_,b8,rfl,m,hd⟩
 have n:Sz (k+k+1) (qx-px):=s3.sub s1
 have td:Sz (k+k+1) (qy-py):=s4.sub s2
 have x:=O.trans l2
 refine ⟨_,_,_,_,_,_,_,_,_,_,_,_,_,_,rfl,fun V3 y=>(lZ (qy-py) (by obtain ⟨_,_,_,_,_,_,e,P,h2⟩:=hd.le y;cases e;exact P) (RQ.den (hd.le y))).mono ?_⟩
 rintro r V4 Q t
 obtain ⟨b1,b2,b3,b4,b5,b6,rfl⟩:=t.shape
 have o:=td.neg
 have Sk:zU px py qx qy=(-(qy-py)*(((((-(qy-py)).den*(qx-px).den*(-(-(qy-py)*px+(qx-px)*py)).den:Nat):Int):Rat)),(qx-px)*(((((-(qy-py)).den*(qx-px).den*(-(-(qy-py)*px+(qx-px)*py)).den:Nat):Int):Rat)),(-(-(qy-py)*px+(qx-px)*py))*(((((-(qy-py)).den*(qx-px).den*(-(-(qy-py)*px+(qx-px)*py)).den:Nat):Int):Rat))):=rfl
 rw [Sk]
 generalize -(qy-py)=A at *
 generalize qx-px=B at *
 replace m:=m.le (y.trans Q)
 replace i:=i.le (x.trans (y.trans Q))
 replace j:=j.le (x.trans (y.trans Q))
 refine ⟨_,_,_,_,_,_,_,rfl,fun V5 z=>(aN (t.le z) (i.le z) o s1 (by omega)).mono ?_⟩
 rintro r V6 R g6
 obtain ⟨d1,d2,d3,d4,d5,d6,rfl⟩:=g6.shape
 refine ⟨_,_,_,_,_,_,_,rfl,fun V7 F=>(aN (m.le (z.trans (R.trans F))) (j.le (z.trans (R.trans F))) n s2 (by omega)).mono ?_⟩
 rintro r V8 l8 g8
 obtain ⟨f1,f2,f3,f4,f5,f6,rfl⟩:=g8.shape
 refine ⟨_,_,_,_,_,_,_,rfl,fun V9 S=>(dj (g6.le (F.trans (l8.trans S))) (g8.le S) (o.mul s1) (n.mul s2) (by omega)).mono ?_⟩
 rintro r b9 T p
 have G:=((o.mul s1).add (n.mul s2)).neg
 obtain ⟨i1,i2,i3,i4,i5,i6,rfl⟩:=p.shape
 refine ⟨_,_,_,_,_,_,_,rfl,fun c0 q=>(lZ (A*px+B*py) (by obtain ⟨_,_,_,_,_,_,e,P,h2⟩:=p.le q;cases e;exact P) (RQ.den (p.le q))).mono ?_⟩
 rintro r c5 U W
 generalize -(A*px+B*py)=C at *
 obtain ⟨j1,j2,j3,j4,j5,j6,rfl⟩:=W.shape
 have JW:=z.trans (R.trans (F.trans (l8.trans (S.trans (T.trans (q.trans U))))))
 replace t:=t.le JW
 replace m:=m.le JW
 refine ⟨_,_,_,_,_,_,_,rfl,fun c6 f=>(cg A _ (RQ.den (t.le f))).mono ?_⟩
 rintro r c7 X ⟨k1,k2,k3,rfl,Y⟩
 refine ⟨_,_,_,rfl,fun c8 H=>(cg B _ (RQ.den (m.le (f.trans (X.trans H))))).mono ?_⟩
 rintro r lW Z ⟨k4,k5,k6,rfl,a0⟩
 obtain ⟨-,da,-⟩:=bY o
 obtain ⟨-,db,-⟩:=bY n
 obtain ⟨-,dc,-⟩:=bY G
 refine ⟨_,_,_,rfl,fun nQ I=>(bX (Y.le (H.trans (Z.trans I))) (a0.le I) (by omega)).mono ?_⟩
 rintro r qG dU ⟨k7,k8,k9,rfl,D⟩
 rw [ab,ab] at D
 refine ⟨_,_,_,rfl,fun sZ dO=>(cg C _ (RQ.den (W.le (f.trans (X.trans (H.trans (Z.trans (I.trans (dU.trans dO))))))))).mono ?_⟩
 rintro r C3 jg ⟨c9,d0,d7,rfl,b0⟩
 have Zc:=gD (a:=A.den) (b:=B.den)
 refine ⟨_,_,_,rfl,fun vS gj=>(bX (D.le (dO.trans (jg.trans gj))) (b0.le gj) (by omega)).mono ?_⟩
 rintro r yA kJ ⟨d8,d9,e0,rfl,E⟩
 rw [ab,ab] at E
 have v:Sz (k+k+1+(k+k+1)+(k+k+1+k+1+(k+k+1+k+1)+1)) (((A.den*B.den*C.den:Nat):Int):Rat):=Nc (bo (bo o.2 n.2) G.2) (by omega)
 generalize A.den*B.den*C.den=M at *
 refine ⟨_,_,_,rfl,fun xj gS=>(pM (E.le gS)).mono ?_⟩
 rintro r Jc xY ⟨e5,e6,e7,rfl,b7⟩
 have hf:=RQ.ofNat b7 rfl
 have MD:=f.trans (X.trans (H.trans (Z.trans (I.trans (dU.trans (dO.trans (jg.trans (gj.trans (kJ.trans (gS.trans xY))))))))))
 refine ⟨_,_,_,_,rfl,fun GL c=>(aN (t.le (MD.trans c)) (hf.le c) o v (by omega)).mono ?_⟩
 rintro r LL g Ux
 obtain ⟨o1,o2,o3,o4,o5,o6,rfl⟩:=Ux.shape
 refine ⟨_,_,_,_,_,_,_,rfl,fun NB d=>(aN (m.le (MD.trans (c.trans (g.trans d)))) (hf.le (c.trans (g.trans d))) n v (by omega)).mono ?_⟩
 rintro r NC Aw Uy
 obtain ⟨o7,o8,o9,Zp,Zq,Zr,rfl⟩:=Uy.shape
 refine ⟨_,_,_,_,_,_,_,rfl,fun Ql J=>(aN (W.le (MD.trans (c.trans (g.trans (d.trans (Aw.trans J)))))) (hf.le (c.trans (g.trans (d.trans (Aw.trans J))))) G v (by omega)).mono ?_⟩
 rintro r LM Ax qS
 obtain ⟨t1,t2,t3,t4,t5,t6,rfl⟩:=qS.shape
 refine ⟨_,_,_,_,_,_,_,rfl,fun QR DF=>(wa (RQ.int (Ux.le (d.trans (Aw.trans (J.trans (Ax.trans DF)))))) (RQ.int (Uy.le (J.trans (Ax.trans DF)))) (RQ.int (qS.le DF)) (Nat.le_trans (bY (o.mul v)).1 (by omega)) (Nat.le_trans (bY (n.mul v)).1 (by omega)) (Nat.le_trans (bY (G.mul v)).1 (by omega))).mono ?_⟩
 rintro r Qm Jg ⟨z1,z2⟩
 by_cases K:(A*((M:Int):Rat)).num=0/\(B*((M:Int):Rat)).num=0
 ·obtain ⟨l,rfl,y1,y2,y3,y4,y5,y6,y7,y8,y9,rfl,w1,w2,w3⟩:=z1 K
  exact ⟨_,_,_,_,_,_,_,_,_,_,_,_,_,rfl,fun Qn s=>⟨fun _=>⟨_,rfl,_,_,_,_,_,_,_,_,_,rfl,w1.le s,w2.le s,w3.le s⟩,fun h=>absurd K h⟩⟩
 ·obtain ⟨l,rfl,y1,y2,y3,y4,y5,y6,y7,y8,y9,rfl,w1,w2,w3⟩:=z2 K
  exact ⟨_,_,_,_,_,_,_,_,_,_,_,_,_,rfl,fun Qn s=>⟨fun h=>absurd h K,fun _=>⟨_,rfl,_,_,_,_,_,_,_,_,_,rfl,w1.le s,w2.le s,w3.le s⟩⟩⟩
theorem mU {V:View}{v:Value}{q:Rat}(h:RQ V v q){k:Nat}(_s:Sz k q)(_hk:k<=1099511627776):Acts prog 64 #[v] V fun r V'=>RQ V' r (-q):=by
 obtain ⟨p,n,c,d,e,f,rfl,a,b⟩:=h
 exact lZ q a b
theorem aQ {V:View}{z:Int}{p:OA}{n c:Nat}(h:RD V p n c (af z.natAbs)){k:Nat}(_s:Sz k (z:Rat))(_hk:k<=1099511627776) :
  Acts prog 84 #[.agg #[.bool (decide (z<0)),.slice p n c]] V fun r V'=>RQ V' r (z:Rat):=FA z h
theorem AY {V:View}{l:Value}{cz l_1 eM:Int}(hl:RL V l cz l_1 eM){k:Nat}(bE:Sz k ((cz:Int):Rat))(bK:Sz k ((l_1:Int):Rat))(bF:Sz k ((eM:Int):Rat))(hk:1*k+1<274877906944) :
  Acts prog 99 #[l] V fun r V'=>RP V' r (((l_1:Int):Rat)) (-(((cz:Int):Rat))):=by
 have p:=hl
 obtain ⟨q,a,e,b,f,c,g,d,s,rfl,t,u,x⟩:=hl
 refine Ak _ q a e _ b f c _ g d s V _ fun y a=>(aQ (u.le (a)) bK (by omega)).mono ?_
 rintro r V2 e j
 have h:=j
 obtain ⟨z,A,B,C,D,E,rfl⟩:=j.shape
 refine ⟨_,_,_,_,_,_,_,rfl,fun F b=>(aQ (t.le (a.trans (e.trans (b)))) bE (by omega)).mono ?_⟩
 rintro r G f n
 have i:=n
 obtain ⟨H,I,J,K,L,M,rfl⟩:=n.shape
 have v:=Sz.mono (m:=1*k+0) (bE) (by omega)
 refine ⟨_,_,_,_,_,_,_,rfl,fun N c=>(mU (i.le (c)) v (by omega)).mono ?_⟩
 rintro r O g o
 have w:=o
 obtain ⟨P,Q,R,S,T,U,rfl⟩:=o.shape
 exact ⟨_,_,_,_,_,_,_,rfl,fun W d=>⟨_,_,_,_,_,_,_,_,_,_,_,_,rfl,(h.le (b.trans (f.trans (c.trans (g.trans (d)))))),(w.le (d))⟩⟩
theorem xe {cz:Int}{l_1:Int}{eM:Int}{k:Nat}(bE:Sz k ((cz:Int):Rat))(bK:Sz k ((l_1:Int):Rat))(bF:Sz k ((eM:Int):Rat)):Sz (1*k+0) (((l_1:Int):Rat)):=by
 have a:=Sz.mono (m:=1*k+0) (bK) (by omega)
 exact Sz.mono a (by omega)
theorem xf {cz:Int}{l_1:Int}{eM:Int}{k:Nat}(bE:Sz k ((cz:Int):Rat))(bK:Sz k ((l_1:Int):Rat))(bF:Sz k ((eM:Int):Rat)):Sz (1*k+0) (-(((cz:Int):Rat))):=by
 have a:=Sz.mono (m:=1*k+0) (bE) (by omega)
 have b:=Sz.mono (m:=1*k+0) (Sz.neg a) (by omega)
 exact Sz.mono b (by omega)
theorem AZ {V:View}{p:Value}{gG gH:Rat}{q:Value}{oH oI:Rat}(hp:RP V p gG gH)(hq:RP V q oH oI){k:Nat}(fj:Sz k gG)(fk:Sz k gH)(ky:Sz k oH)(kz:Sz k oI)(hk:4*k+3<274877906944) :
  Acts prog 128 #[p,q] V fun r V'=>RQ V' r (((gG)*(oH))+((gH)*(oI))):=by
 have j:=hp
 obtain ⟨l,n,o,s,t,u,v,w,x,y,z,A,rfl,B,C⟩:=hp
 have D:=hq
 obtain ⟨E,F,G,H,I,J,K,L,M,N,O,P,rfl,Q,R⟩:=hq
 refine Al _ l n o s t u _ v w x y z A _ E F G H I J _ K L M N O P V _ fun Y a=>(aN (B.le (a)) (Q.le (a)) fj ky (by omega)).mono ?_
 rintro r V2 e f
 have b:=f
 obtain ⟨Z,Np,Nq,Yp,Yq,Yr,rfl⟩:=f.shape
 have S:=Sz.mono (m:=2*k+1) (Sz.mul fj ky) (by omega)
 refine ⟨_,_,_,_,_,_,_,rfl,fun V3 c=>(aN (C.le (a.trans (e.trans (c)))) (R.le (a.trans (e.trans (c)))) fk kz (by omega)).mono ?_⟩
 rintro r V4 T g
 have d:=g
 obtain ⟨KH,KI,KJ,VJ,VK,VL,rfl⟩:=g.shape
 have U:=Sz.mono (m:=2*k+1) (Sz.mul fk kz) (by omega)
 refine ⟨_,_,_,_,_,_,_,rfl,fun V5 h=>(dj (b.le (c.trans (T.trans (h)))) (d.le (h)) S U (by omega)).mono ?_⟩
 rintro r V6 l6 i
 have W:=i
 obtain ⟨Nr,Ns,Nt,VM,VN,VO,rfl⟩:=i.shape
 exact ⟨_,_,_,_,_,_,_,rfl,fun V7 X=>(W.le (X))⟩
theorem xg {gG:Rat}{gH:Rat}{oH:Rat}{oI:Rat}{k:Nat}(fj:Sz k gG)(fk:Sz k gH)(ky:Sz k oH)(kz:Sz k oI):Sz (4*k+3) (((gG)*(oH))+((gH)*(oI))):=by
 have a:=Sz.mono (m:=2*k+1) (Sz.mul fj ky) (by omega)
 have b:=Sz.mono (m:=2*k+1) (Sz.mul fk kz) (by omega)
 have c:=Sz.mono (m:=4*k+3) (Sz.add a b) (by omega)
 exact Sz.mono c (by omega)
theorem yR {V:View}{l:Value}{cz l_1 eM:Int}(hl:RL V l cz l_1 eM)(hd0:((((((l_1:Int):Rat)))*((((l_1:Int):Rat))))+(((-(((cz:Int):Rat))))*((-(((cz:Int):Rat)))))).num≠0){k:Nat}(bE:Sz k ((cz:Int):Rat))(bK:Sz k ((l_1:Int):Rat))(bF:Sz k ((eM:Int):Rat))(hk:6*k+5<274877906944) :
  Acts prog 80 #[l] V fun r V'=>RP V' r ((-((((eM:Int):Rat))*((((((l_1:Int):Rat)))*((((l_1:Int):Rat))))+(((-(((cz:Int):Rat))))*((-(((cz:Int):Rat))))))⁻¹))*(((cz:Int):Rat))) ((-((((eM:Int):Rat))*((((((l_1:Int):Rat)))*((((l_1:Int):Rat))))+(((-(((cz:Int):Rat))))*((-(((cz:Int):Rat))))))⁻¹))*(((l_1:Int):Rat))):=by
 have t:=hl
 obtain ⟨P,f,i,c,g,d,j,h,p,rfl,Q,R,S⟩:=hl
 refine wU _ P f i _ c g d _ j h p V _ fun V1 f=>(AY (t.le (f)) (Sz.mono bE (by omega):Sz (1*k+0) _) (Sz.mono bK (by omega):Sz (1*k+0) _) (Sz.mono bF (by omega):Sz (1*k+0) _) (by omega)).mono ?_
 rintro r V2 i y
 have n:=y
 obtain ⟨Nh,Ni,Nj,Nk,Nl,Nm,Yk,Yl,Ym,Yn,VH,VI,rfl,Mc,Md⟩:=y
 have q:=Sz.mono (m:=1*k+0) ((xe (Sz.mono bE (by omega):Sz (1*k+0) _) (Sz.mono bK (by omega):Sz (1*k+0) _) (Sz.mono bF (by omega):Sz (1*k+0) _))) (by omega)
 have s:=Sz.mono (m:=1*k+0) ((xf (Sz.mono bE (by omega):Sz (1*k+0) _) (Sz.mono bK (by omega):Sz (1*k+0) _) (Sz.mono bF (by omega):Sz (1*k+0) _))) (by omega)
 refine ⟨_,_,_,_,_,_,_,_,_,_,_,_,_,_,rfl,fun V3 c=>(aQ (S.le (f.trans (i.trans (c)))) bF (by omega)).mono ?_⟩
 rintro r V4 g z
 have u:=z
 obtain ⟨KH,KI,KJ,VJ,VK,VL,rfl⟩:=z.shape
 have A:=Sz.mono (m:=1*k+0) (bF) (by omega)
 refine ⟨_,_,_,_,_,_,_,rfl,fun V5 d=>(AZ (n.le (c.trans (g.trans (d)))) (n.le (c.trans (g.trans (d)))) (Sz.mono q (by omega):Sz (1*k+0) _) (Sz.mono s (by omega):Sz (1*k+0) _) (Sz.mono q (by omega):Sz (1*k+0) _) (Sz.mono s (by omega):Sz (1*k+0) _) (by omega)).mono ?_⟩
 rintro r V6 j B
 have T:=B
 obtain ⟨Nr,Ns,Nt,VM,VN,VO,rfl⟩:=B.shape
 have C:=Sz.mono (m:=4*k+3) ((xg (Sz.mono q (by omega):Sz (1*k+0) _) (Sz.mono s (by omega):Sz (1*k+0) _) (Sz.mono q (by omega):Sz (1*k+0) _) (Sz.mono s (by omega):Sz (1*k+0) _))) (by omega)
 refine ⟨_,_,_,_,_,_,_,rfl,fun V7 h=>(ia (u.le (d.trans (j.trans (h)))) (T.le (h)) hd0 A C (by omega)).mono ?_⟩
 rintro r V8 p D
 have U:=D
 obtain ⟨YO,YP,YQ,ZE,ZF,ZG,rfl⟩:=D.shape
 have E:=Sz.mono (m:=5*k+4) (Sz.mul A (fl C)) (by omega)
 refine ⟨_,_,_,_,_,_,_,rfl,fun V9 v=>(mU (U.le (v)) E (by omega)).mono ?_⟩
 rintro r W o F
 have G:=F
 obtain ⟨ZH,ZI,ZJ,ZK,ZL,ZM,rfl⟩:=F.shape
 have H:=Sz.mono (m:=5*k+4) (Sz.neg E) (by omega)
 refine ⟨_,_,_,_,_,_,_,rfl,fun X a=>(aQ (Q.le (f.trans (i.trans (c.trans (g.trans (d.trans (j.trans (h.trans (p.trans (v.trans (o.trans (a)))))))))))) bE (by omega)).mono ?_⟩
 rintro r Y e I
 have Z:=I
 obtain ⟨ZN,ZO,ZP,ZQ,ZR,ZS,rfl⟩:=I.shape
 have TO:=Sz.mono (m:=1*k+0) (bE) (by omega)
 refine ⟨_,_,_,_,_,_,_,rfl,fun a0 b=>(aN (G.le (a.trans (e.trans (b)))) (Z.le (b)) H TO (by omega)).mono ?_⟩
 rintro r a1 J K
 have Mf:=K
 obtain ⟨ZT,ZU,ZV,ZW,ZX,ZY,rfl⟩:=K.shape
 refine ⟨_,_,_,_,_,_,_,rfl,fun a2 w=>(aQ (R.le (f.trans (i.trans (c.trans (g.trans (d.trans (j.trans (h.trans (p.trans (v.trans (o.trans (a.trans (e.trans (b.trans (J.trans (w)))))))))))))))) bK (by omega)).mono ?_⟩
 rintro r lW L M
 have Ou:=M
 obtain ⟨ZZ,Z4,Z6,Z9,Z_,a3,rfl⟩:=M.shape
 have TP:=Sz.mono (m:=1*k+0) (bK) (by omega)
 refine ⟨_,_,_,_,_,_,_,rfl,fun nQ x=>(aN (G.le (a.trans (e.trans (b.trans (J.trans (w.trans (L.trans (x)))))))) (Ou.le (x)) H TP (by omega)).mono ?_⟩
 rintro r qG dU N
 have W4:=N
 obtain ⟨a4,a5,a6,a7,a8,a9,rfl⟩:=N.shape
 exact ⟨_,_,_,_,_,_,_,rfl,fun sZ O=>⟨_,_,_,_,_,_,_,_,_,_,_,_,rfl,(Mf.le (w.trans (L.trans (x.trans (dU.trans (O)))))),(W4.le (O))⟩⟩
theorem RA.shape {V:View}{v:Value}{q:Rat}(h:RA V v q):∃b p n c p' n' c',v=.agg #[.bool b,.slice p n c,.slice p' n' c']:=by
 obtain ⟨p,n,c,p',n',c',e,-⟩:=h;exact ⟨_,_,_,_,_,_,_,e⟩
def KS (V:View)(v:Value)(x y:Rat):Prop:=∃b p n c p' n' c' d q m e q' m' e',v=.agg #[.bool b,.slice p n c,.slice p' n' c',.bool d,.slice q m e,.slice q' m' e'] /\
 RA V (.agg #[.bool b,.slice p n c,.slice p' n' c']) x/\RA V (.agg #[.bool d,.slice q m e,.slice q' m' e']) y
theorem KS.le {V V':View}{v:Value}{x y:Rat}(h:KS V v x y)(l:V.Le V'):KS V' v x y:=by
 obtain ⟨b,p,n,c,g,i,j,d,q,m,e,k,o,r,rfl,a,f⟩:=h
 exact ⟨_,_,_,_,_,_,_,_,_,_,_,_,_,_,rfl,a.le l,f.le l⟩
theorem Db {V:View}{v:Value}{x y:Rat}(h:KS V v x y){k:Nat}(s1:Sz k x)(s2:Sz k y)(hk:k<=1099511627776) :
  Acts prog 51 #[v] V fun r V'=>RPt V' r x y:=by
 obtain ⟨b,p,n,c,s,t,z,d,q,m,e,A,B,C,rfl,D,E⟩:=h
 refine rJ b p n c s t z d q m e A B C V _ fun H g=>(xE (D.le g) s1 hk).mono ?_
 rintro r V2 F i
 have a:=i
 obtain ⟨u,v,w,rfl⟩:=i.shape
 refine ⟨_,_,_,rfl,fun I j=>(xE (E.le (g.trans (F.trans j))) s2 hk).mono ?_⟩
 rintro r J G l
 have f:=l
 obtain ⟨u,v,w,rfl⟩:=l.shape
 exact ⟨_,_,_,rfl,fun K o=>⟨_,_,_,_,_,_,rfl,a.le (j.trans (G.trans o)),f.le o⟩⟩
theorem vT {V:View}{l p:Value}{cz l_1 eM gG gH:Rat}(hl:rL V l cz l_1 eM)(hp:RPt V p gG gH){k:Nat}(s0:Sz k cz)(s1:Sz k l_1)(s2:Sz k eM)(s3:Sz k gG)(s4:Sz k gH)(hk:16*k+16<274877906944) :
  Acts prog 106 #[l,p] V fun r V'=>r=.int .i64 (cz*gG+l_1*gH+eM).num.sign:=by
 have a:=hl
 have b:=hp
 obtain ⟨d,e,f,h,i,j,m,n,o,rfl,-,-,-⟩:=hl
 obtain ⟨q,s,t,x,y,z,rfl,-,-⟩:=hp
 refine vo d e f h i j m n o q s t x y z V _ fun C c=>(kQ (a.le c) (b.le c) s0 s1 s2 s3 s4 (by omega)).mono ?_
 rintro r V2 D g
 have A:=g
 obtain ⟨u,v,w,rfl⟩:=g.shape
 refine ⟨_,_,_,rfl,fun E B=>(dR (A.le B) (jW s0 s1 s2 s3 s4) (by omega)).mono ?_⟩
 rintro r F G rfl
 exact ⟨_,rfl,fun H I=>rfl⟩
theorem qL {V:View}{v:Value}{q:Rat}(h:RQ V v q){k:Nat}(s:Sz k q)(hk:k<=1099511627776):Acts prog 55 #[v] V fun r V'=>RA V' r q:=by
 obtain ⟨p,n,c,f,g,i,rfl,j,l⟩:=h
 have y:=ae s.1
 have z:=ae s.2
 refine Ah _ p n c f g i V _ fun A a=>(iM ⟨_,_,_,rfl,j.le a⟩ (by omega)).mono ?_
 rintro r V2 m ⟨B,C,D,rfl,o⟩
 refine ⟨_,_,_,_,rfl,fun E b=>(cg q _ (l.le (a.trans (m.trans b)))).mono ?_⟩
 rintro r F t ⟨G,H,I,rfl,u⟩
 refine ⟨_,_,_,rfl,fun J d=>(qK (u.le d) (by omega)).mono ?_⟩
 rintro r K w ⟨L,M,N,rfl,x⟩
 exact ⟨_,_,_,rfl,fun O e=>⟨_,_,_,_,_,_,rfl,o.le (b.trans (t.trans (d.trans (w.trans e)))),x.le e⟩⟩
theorem qO {V:View}{v:Value}{x y:Rat}(h:RP V v x y){k:Nat}(s1:Sz k x)(s2:Sz k y)(hk:k<=1099511627776):Acts prog 22 #[v] V fun r V'=>KS V' r x y:=by
 obtain ⟨i,j,l,m,n,o,p,q,s,t,u,w,rfl,z,A⟩:=h
 refine Ap _ i j l m n o _ p q s t u w V _ fun D c=>(qL (z.le c) s1 hk).mono ?_
 rintro r V2 B d
 have a:=d
 obtain ⟨_,_,_,_,_,_,_,rfl⟩:=d.shape
 refine ⟨_,_,_,_,_,_,_,rfl,fun E e=>(qL (A.le (c.trans (B.trans e))) s2 hk).mono ?_⟩
 rintro r F C f
 have b:=f
 obtain ⟨_,_,_,_,_,_,_,rfl⟩:=f.shape
 exact ⟨_,_,_,_,_,_,_,rfl,fun G g=>⟨_,_,_,_,_,_,_,_,_,_,_,_,_,_,rfl,a.le (e.trans (C.trans g)),b.le g⟩⟩
abbrev L3:=Int×Int×Int
def okL (x:L3):Bool:=decide (¬(x.1=0/\x.2.1=0))&&decide (ig x.1 x.2.1 x.2.2=1)
def Bd (x:L3):Prop:=x.1.natAbs<2^1000/\x.2.1.natAbs<2^1000/\x.2.2.natAbs<2^1000
inductive Tr where
 | leaf (i:Bool)|node (l:L3) (a b:Tr)
 deriving DecidableEq
structure Nd where
 ln:L3
 left:Int
 right:Int
 deriving DecidableEq
def Tr.size:Tr->Nat
 | .leaf _=>0
 | .node _ a b=>a.size+b.size+1
def Tr.MA:Tr->Bool
 | .leaf _=>true
 | .node ..=>false
def Tr.All (p:L3->Prop):Tr->Prop
 | .leaf _=>True
 | .node l a b=>p l/\a.All p/\b.All p
theorem Tr.All.imp {p q:L3->Prop}(h:∀x,p x->q x):∀{t:Tr},t.All p->t.All q
 | .leaf _,_=>trivial
 | .node _ _ _,⟨h1,h2,h3⟩=>⟨h _ h1,Tr.All.imp h h2,Tr.All.imp h h3⟩
def rt (k:Nat):Tr->Int
 | .leaf i=>if i then -2 else -1
 | .node ..=>(k:Int)
def wr:Nat->Tr->List Nd
 | _,.leaf _=>[]
 | k,.node l a b=>⟨l,rt (k+1) a,rt (k+1+a.size) b⟩::(wr (k+1) a++wr (k+1+a.size) b)
theorem dH:∀(t:Tr)(k:Nat),(wr k t).length=t.size
 | .leaf _,_=>rfl
 | .node _ a b,k=>by simp only [wr,List.length_cons,List.length_append,dH a,dH b,Tr.size]
def NY (l:List Nd):Int->Tr->List Nat->Prop
 | n,.leaf i,I=>n=(if i then -2 else -1)/\I=[]
 | n,.node ln a b,I=>∃(k:Nat)(x:Nd)(A B:List Nat),n=(k:Int)/\l[k]?=some x/\x.ln=ln/\NY l x.left a A/\NY l x.right b B/\I=k::(A++B)
theorem D2:∀(t:Tr)(l pre post:List Nd)(k:Nat),l=pre++(wr k t++post)->pre.length=k->NY l (rt k t) t (List.range' k t.size)
 | .leaf i,l,pre,post,k,_,_=>⟨rfl,rfl⟩
 | .node ln a b,l,pre,post,k,hl,hp=>by
  refine ⟨k,⟨ln,rt (k+1) a,rt (k+1+a.size) b⟩,List.range' (k+1) a.size,List.range' (k+1+a.size) b.size,rfl,?_,rfl,?_,?_,?_⟩
  ·subst hl
   rw [List.getElem?_append_right (by omega)]
   simp [hp,wr]
  ·refine D2 a l (pre++[⟨ln,rt (k+1) a,rt (k+1+a.size) b⟩]) (wr (k+1+a.size) b++post) (k+1) ?_ (by simp [hp])
   rw [hl];simp [wr]
  ·refine D2 b l (pre++(⟨ln,rt (k+1) a,rt (k+1+a.size) b⟩::wr (k+1) a)) post (k+1+a.size) ?_ (by simp [hp,dH];omega)
   rw [hl];simp [wr]
  ·simp only [Tr.size]
   rw [List.range'_succ,←List.range'_append_1]
structure RS where
 seen:List Bool
 jt:Nat
 bad:Bool
def df (l:List Nd):Nat->Int->RS->Tr×RS
 | 0,_,s=>(.leaf false,s)
 | f+1,n,s=>
  if n=-2 then (.leaf true,s) else if n=-1 then (.leaf false,s) else if n<0 then (.leaf false,{ s with bad:=true })
  else match l[n.toNat]?,s.seen[n.toNat]? with
   | some x,some false=>
    if okL x.ln then
     let r1:=df l f x.left ⟨s.seen.set n.toNat true,s.jt+1,s.bad⟩
     let r2:=df l f x.right r1.2
     (.node x.ln r1.1 r2.1,r2.2)
    else (.leaf false,⟨s.seen.set n.toNat true,s.jt+1,true⟩)
   | _,_=>(.leaf false,{ s with bad:=true })
theorem count_set {l:List Bool}{k:Nat}(h:l[k]?=some false):(l.set k true).count false+1=l.count false:=by
 induction l generalizing k with
 | nil=>simp at h
 | cons x r ih=>
  cases k with
  | zero=>simp at h;subst h;simp
  | succ k=>
   simp at h
   have:=ih h
   simp only [List.set_cons_succ,List.count_cons]
   omega
theorem oG (l:List Nd):∀(f:Nat)(n:Int)(s:RS),(df l f n s).2.seen.count false<=s.seen.count false/\(df l f n s).2.seen.length=s.seen.length
 | 0,_,_=>⟨Nat.le_refl _,rfl⟩
 | f+1,n,s=>by
  simp only [df]
  split
  ·exact ⟨Nat.le_refl _,rfl⟩
  ·split
   ·exact ⟨Nat.le_refl _,rfl⟩
   ·split
    ·exact ⟨Nat.le_refl _,rfl⟩
    ·split
     ·rename_i x hx hs
      have hc:=count_set hs
      split
      ·obtain ⟨c,a⟩:=oG l f x.left ⟨s.seen.set n.toNat true,s.jt+1,s.bad⟩
       obtain ⟨d,b⟩:=oG l f x.right (df l f x.left ⟨s.seen.set n.toNat true,s.jt+1,s.bad⟩).2
       dsimp only at c a d b ⊢
       exact ⟨by omega,by rw [b,a,List.length_set]⟩
      ·dsimp only;exact ⟨by omega,by simp⟩
     ·exact ⟨Nat.le_refl _,rfl⟩
theorem sQ (l:List Nd):∀(f:Nat)(n:Int)(s:RS),(df l f n s).2.jt+(df l f n s).2.seen.count false=s.jt+s.seen.count false
 | 0,_,_=>rfl
 | f+1,n,s=>by
  simp only [df]
  split
  ·rfl
  ·split
   ·rfl
   ·split
    ·rfl
    ·split
     ·rename_i x hx hs
      have hc:=count_set hs
      split
      ·have a:=sQ l f x.left ⟨s.seen.set n.toNat true,s.jt+1,s.bad⟩
       have b:=sQ l f x.right (df l f x.left ⟨s.seen.set n.toNat true,s.jt+1,s.bad⟩).2
       dsimp only at a b ⊢
       omega
      ·dsimp only;omega
     ·rfl
theorem zw {p:L3->Prop}{l:List Nd}(hl:∀x∈l,p x.ln):∀(f:Nat)(n:Int)(s:RS),(df l f n s).1.All p
 | 0,_,_=>trivial
 | f+1,n,s=>by
  simp only [df]
  split
  ·trivial
  ·split
   ·trivial
   ·split
    ·trivial
    ·split
     ·rename_i x hx hs
      split
      ·exact ⟨hl x (List.mem_of_getElem? hx),zw hl f _ _,zw hl f _ _⟩
      ·trivial
     ·trivial
theorem uH (l:List Nd):∀(f:Nat)(n:Int)(s:RS),(df l f n s).1.size+s.jt<=(df l f n s).2.jt
 | 0,_,_=>by simp [df,Tr.size]
 | f+1,n,s=>by
  simp only [df]
  split
  ·simp [Tr.size]
  ·split
   ·simp [Tr.size]
   ·split
    ·simp [Tr.size]
    ·split
     ·split
      ·rename_i x hx hs hok
       have h1:=uH l f x.left ⟨s.seen.set n.toNat true,s.jt+1,s.bad⟩
       have a:=uH l f x.right (df l f x.left ⟨s.seen.set n.toNat true,s.jt+1,s.bad⟩).2
       dsimp only at h1 a ⊢
       simp only [Tr.size]
       omega
      ·simp [Tr.size]
     ·simp [Tr.size]
def nq (s:List Bool)(I:List Nat):List Bool:=I.foldl (fun s k=>s.set k true) s
theorem uQ:∀(I:List Nat)(s:List Bool)(k:Nat),k∉I->(nq s I)[k]?=s[k]?
 | [],_,_,_=>rfl
 | i::r,s,k,h=>by
  have:=uQ r (s.set i true) k (fun a=>h (List.mem_cons_of_mem _ a))
  unfold nq at this ⊢
  rw [List.foldl_cons,this,List.getElem?_set_ne (fun e=>h (by simp [e]))]
theorem zz (l:List Nd):∀(t:Tr)(f:Nat)(n:Int)(s:RS)(I:List Nat),NY l n t I->I.Nodup->(∀k∈I,s.seen[k]?=some false)->t.All (fun x=>okL x=true)->t.size<f->df l f n s=(t,⟨nq s.seen I,s.jt+t.size,s.bad⟩)
 | .leaf i,f,n,s,I,⟨h1,h2⟩,_,_,_,hf=>by
  subst h2
  obtain ⟨f,rfl⟩:∃g,f=g+1:=⟨f-1,by simp [Tr.size] at hf;omega⟩
  cases i with
  | true=>simp only [if_true] at h1;subst h1;simp [df,nq,Tr.size]
  | false=>
   have h1:n=-1:=by simpa using h1
   subst h1;simp [df,nq,Tr.size]
 | .node ln a b,f,n,s,I,⟨k,x,A,B,h1,h2,h3,h4,h5,h6⟩,hnd,hun,hok,hf=>by
  subst h1 h3 h6
  obtain ⟨f,rfl⟩:∃g,f=g+1:=⟨f-1,by simp [Tr.size] at hf;omega⟩
  rw [List.nodup_cons,List.nodup_append] at hnd
  obtain ⟨p,q,r,u⟩:=hnd
  have d:=hun k (by simp)
  simp only [Tr.size] at hf
  have v:=zz l a f x.left ⟨s.seen.set k true,s.jt+1,s.bad⟩ A h4 q (fun j c=>by
   have:k≠j:=fun e=>p (by rw [e];simp [c])
   dsimp only
   rw [List.getElem?_set_ne this]
   exact hun j (by simp [c])) hok.2.1 (by omega)
  have w:=zz l b f x.right ⟨nq (s.seen.set k true) A,s.jt+1+a.size,s.bad⟩ B h5 r (fun j c=>by
   have:k≠j:=fun e=>p (by rw [e];simp [c])
   dsimp only
   rw [uQ A _ j (fun h=>u j h j c rfl),List.getElem?_set_ne this]
   exact hun j (by simp [c])) hok.2.2 (by omega)
  have m:¬((k:Int)=-2):=by omega
  have o:¬((k:Int)=-1):=by omega
  have y:¬((k:Int)<0):=by omega
  have z:df l (f+1) (k:Int) s=(.node x.ln (df l f x.left ⟨s.seen.set k true,s.jt+1,s.bad⟩).1 (df l f x.right (df l f x.left ⟨s.seen.set k true,s.jt+1,s.bad⟩).2).1,(df l f x.right (df l f x.left ⟨s.seen.set k true,s.jt+1,s.bad⟩).2).2):=by
   rw [df]
   rw [if_neg m,if_neg o,if_neg y]
   simp only [Int.toNat_natCast,h2,d,hok.1,if_true]
  rw [z,v]
  dsimp only
  rw [w]
  simp only [nq,List.foldl_cons,List.foldl_append,Tr.size,Prod.mk.injEq,RS.mk.injEq,true_and]
  first|omega|exact ⟨by omega,trivial⟩
def ofT (l:List Nd)(root:Int):Option Tr:=
 if 65536<l.length then none else
 let r:=df l (l.length+1) root ⟨List.replicate l.length false,0,false⟩
 if r.2.bad=true\/r.2.jt≠l.length then none else some r.1
theorem Kd {l:List Nd}{n:Int}{t:Tr}{I:List Nat}(h:NY l n t I)(hn:I.Nodup)(hI:∀k∈I,k<l.length)(hs:t.size=l.length)(hok:t.All fun x=>okL x=true)(hl:l.length<=65536):ofT l n=some t:=by
 unfold ofT
 rw [if_neg (by omega)]
 rw [zz l t (l.length+1) n _ I h hn (fun k a=>by simp [hI k a]) hok (by omega)]
 simp [hs]
theorem MP {t:Tr}(hok:t.All fun x=>okL x=true)(hl:t.size<=65536):ofT (wr 0 t) (rt 0 t)=some t:=by
 have h:=D2 t (wr 0 t) [] [] 0 (by simp) rfl
 refine Kd h List.nodup_range' (fun k a=>?_) (dH t 0).symm hok (by rw [dH];exact hl)
 rw [dH]
 have:=List.mem_range'_1.1 a
 omega
theorem ofT_all {p:L3->Prop}{l:List Nd}{n:Int}{t:Tr}(hl:∀x∈l,p x.ln)(h:ofT l n=some t):t.All p:=by
 unfold ofT at h
 split at h
 ·cases h
 ·dsimp only at h
  split at h
  ·cases h
  ·cases h;exact zw hl _ _ _
theorem ofT_size {l:List Nd}{n:Int}{t:Tr}(h:ofT l n=some t):t.size<=65536:=by
 unfold ofT at h
 split at h
 ·cases h
 ·dsimp only at h
  split at h
  ·cases h
  ·rename_i b a
   cases h
   have:=uH l (l.length+1) n ⟨List.replicate l.length false,0,false⟩
   dsimp only at this
   have c:(df l (l.length+1) n ⟨List.replicate l.length false,0,false⟩).2.jt=l.length:=by
    rcases Nat.lt_or_ge 0 1 with _|h
    ·by_cases e:(df l (l.length+1) n ⟨List.replicate l.length false,0,false⟩).2.jt=l.length
     ·exact e
     ·exact absurd (.inr e) a
    ·omega
   omega
def X3 (n Q6 i:Nat):Nat:=n-1-(i+Q6)%n
def mv (n Q6:Nat)(i:Int):Int:=if i<0 then i else (X3 n Q6 i.toNat:Int)
theorem addadd (a:Addr)(i j:Nat):(a.add i).add j=a.add (i+j):=by
 unfold Addr.add
 by_cases b:i=0
 ·subst b;simp
 ·by_cases c:j=0
  ·subst c;simp [b]
  ·simp [b,c,Nat.add_assoc]
theorem rdc {V:View}{b:Nat}{xs:List Value}{ty:TypeId}{m:Nat×Nat}(h:V.aW b (.cells xs.toArray ty m))(i:Nat){v:Value}(hv:xs[i]?=some v):∃a,addrAdd (some ⟨b,0,none⟩) i=some a/\V.at a v:=
 ⟨⟨b,i,none⟩,by simp [addrAdd,add_zero'],blk_at h hv⟩
theorem BZ {a b c:Int}:uD (decide (a<0)) (af a.natAbs) (decide (b<0)) (af b.natAbs) (decide (c<0)) (af c.natAbs)=okL (a,b,c):=by
 have d:∀z:Int,kH (decide (z<0)) (af z.natAbs)=true:=by
  intro z
  unfold kH
  rw [ab]
  simp only [decide_true,Bool.true_and]
  by_cases h:z<0
  ·simp only [h,decide_true,Bool.not_true,Bool.false_or,decide_eq_true_eq]
   intro e
   have:=bf.1 e
   omega
  ·simp [h]
 have j:fX (fX (a:Rat) (b:Rat)) (c:Rat)=((ig a b c:Nat):Int):=by
  have g:∀x y:Int,fX (x:Rat) (y:Rat)=((Nat.gcd x.natAbs y.natAbs:Nat):Int):=by
   intro x y
   unfold fX
   have k:((x:Rat)).num=x:=rfl
   have l:((y:Rat)).num=y:=rfl
   have m:((x:Rat)).den=1:=rfl
   have n:((y:Rat)).den=1:=rfl
   rw [k,l,m,n]
   simp only [Nat.mul_one]
   exact Rat.mkRat_one _
  rw [g,g]
  rfl
 unfold uD okL
 rw [d,d,d,aA,aA,aA,j]
 have o:∀z:Int,((z:Rat)=0)↔z=0:=fun z=>by exact Rat.intCast_eq_zero_iff
 simp only [Bool.true_and,o]
 rw [Bool.eq_iff_iff]
 simp only [Bool.and_eq_true,Bool.not_eq_true',Bool.and_eq_false_iff,decide_eq_false_iff_not,decide_eq_true_eq]
 have p:(((ig a b c:Nat):Int):Rat)=((1:Int):Rat)↔ig a b c=1:=by
  rw [Rat.intCast_inj];omega
 rw [p]
 constructor
 ·rintro ⟨h,f⟩;exact ⟨fun e=>by rcases h with h|h;exact h e.1;exact h e.2,f⟩
 ·rintro ⟨h,f⟩
  refine ⟨?_,f⟩
  by_cases i:a=0
  ·exact .inr fun q=>h ⟨i,q⟩
  ·exact .inl i
theorem zS {z:Int}{k:Nat}(h:z.natAbs<2^k)(hk:0<k):Sz k (z:Rat):=⟨h,Nat.one_lt_two_pow (by omega)⟩
theorem Bd.af {x:L3}(h:Bd x):(af x.1.natAbs).length<=1000/\(af x.2.1.natAbs).length<=1000/\(af x.2.2.natAbs).length<=1000:=⟨ae h.1,ae h.2.1,ae h.2.2⟩
theorem Bd.sz {x:L3}(h:Bd x):Sz 1000 (x.1:Rat)/\Sz 1000 (x.2.1:Rat)/\Sz 1000 (x.2.2:Rat):=⟨zS h.1 (by omega),zS h.2.1 (by omega),zS h.2.2 (by omega)⟩
theorem AU {V:View}{v:Value}{x:L3}(h:RL V v x.1 x.2.1 x.2.2)(hb:Bd x) :
  Acts prog 132 #[v] V fun r V'=>∃w,r=.tuple #[w,.bool (okL x)]/\Jk w/\(okL x=true->rL V' w x.1 x.2.1 x.2.2):=by
 obtain ⟨p,n,s,f,g,i,q,m,e,rfl,b,c,d⟩:=h
 obtain ⟨d1,d2,d3⟩:=hb.af
 obtain ⟨s1,s2,s3⟩:=hb.sz
 have a:=tD (V:=V) (decide (x.1<0)) (decide (x.2.1<0)) (decide (x.2.2<0)) b c d (by omega) (by omega) (by omega) (k:=1000) (by rw [aA];exact s1) (by rw [aA];exact s2) (by rw [aA];exact s3) (by omega)
 rw [BZ,aA,aA,aA] at a
 exact a
theorem KF (x y u w:Int):zU (x:Rat) (y:Rat) ((x:Rat)+((1:Int):Rat)*(u:Rat)) ((y:Rat)+((1:Int):Rat)*(w:Rat))=(((-w:Int):Rat),((u:Int):Rat),((w*x-u*y:Int):Rat)):=by
 have a:(x:Rat)+((1:Int):Rat)*(u:Rat)=((x+u:Int):Rat):=by rw [←Rat.intCast_mul,←Rat.intCast_add,Int.one_mul]
 have b:(y:Rat)+((1:Int):Rat)*(w:Rat)=((y+w:Int):Rat):=by rw [←Rat.intCast_mul,←Rat.intCast_add,Int.one_mul]
 rw [a,b]
 have c:-(((y+w:Int):Rat)-(y:Rat))=((-w:Int):Rat):=by rw [←Rat.intCast_sub,←Rat.intCast_neg];congr 1;omega
 have d:((x+u:Int):Rat)-(x:Rat)=((u:Int):Rat):=by rw [←Rat.intCast_sub];congr 1;omega
 have e:-(((-w:Int):Rat)*(x:Rat)+((u:Int):Rat)*(y:Rat))=((w*x-u*y:Int):Rat):=by
  rw [←Rat.intCast_mul,←Rat.intCast_mul,←Rat.intCast_add,←Rat.intCast_neg];congr 1;rw [Int.neg_mul];omega
 have f:(((((-w:Int):Rat).den*((u:Int):Rat).den*((w*x-u*y:Int):Rat).den:Nat):Int):Rat)=1:=rfl
 unfold zU
 dsimp only
 rw [c,d,e,f,Rat.mul_one,Rat.mul_one,Rat.mul_one]
def DG (a b c:Int):L3:=(a / (ig a b c:Int),b / (ig a b c:Int),c / (ig a b c:Int))
def small (z:Int)(k:Nat):Bool:=decide (z.natAbs<=k)
theorem HP:∀i:Fin 9,∀j:Fin 9,∀k:Fin 65,(i.1=4/\j.1=4)\/(okL (DG ((i.1:Int)-4) ((j.1:Int)-4) ((k.1:Int)-32))&&small (DG ((i.1:Int)-4) ((j.1:Int)-4) ((k.1:Int)-32)).1 32&&small (DG ((i.1:Int)-4) ((j.1:Int)-4) ((k.1:Int)-32)).2.1 32&&small (DG ((i.1:Int)-4) ((j.1:Int)-4) ((k.1:Int)-32)).2.2 32)=true:=by decide +kernel
theorem LS (k:Nat)(hk:6<=k){z:Int}(h:z.natAbs<=32):z.natAbs<2^k:=Nat.lt_of_le_of_lt h (Nat.lt_of_lt_of_le (by decide:32<2^6) (Nat.pow_le_pow_right (by decide) hk))
theorem N7 (k:Nat)(hk:6<=k){x:L3}(h1:x.1.natAbs<=32)(h2:x.2.1.natAbs<=32)(h3:x.2.2.natAbs<=32):x.1.natAbs<2^k/\x.2.1.natAbs<2^k/\x.2.2.natAbs<2^k:=⟨LS k hk h1,LS k hk h2,LS k hk h3⟩
theorem J6 {a b c:Int}(h1:-4<=a/\a<=4)(h2:-4<=b/\b<=4)(h3:-32<=c/\c<=32)(h:¬(a=0/\b=0)):okL (DG a b c)=true/\Bd (DG a b c):=by
 have:=HP ⟨(a+4).toNat,by omega⟩ ⟨(b+4).toNat,by omega⟩ ⟨(c+32).toNat,by omega⟩
 dsimp only at this
 rw [show (((a+4).toNat:Nat):Int)-4=a from by omega,show (((b+4).toNat:Nat):Int)-4=b from by omega,show (((c+32).toNat:Nat):Int)-32=c from by omega] at this
 rcases this with d|d
 ·omega
 ·simp only [Bool.and_eq_true,small,decide_eq_true_eq] at d
  exact ⟨d.1.1.1,N7 1000 (by decide) d.1.1.2 d.1.2 d.2⟩
theorem HZ {x y:Int}(h1:-4<=x/\x<=4)(h2:-4<=y/\y<=4):-16<=x*y/\x*y<=16:=by
 have:(x*y).natAbs<=4*4:=by rw [Int.natAbs_mul];exact Nat.mul_le_mul (by omega) (by omega)
 omega
theorem pC {V:View}{v:Value}{a b c:Int}(h:RL V v a b c):∃(b1:Bool)(p1:OA)(n1 c1:Nat)(b2:Bool)(p2:OA)(n2 c2:Nat)(b3:Bool)(p3:OA)(n3 c3:Nat),v=.agg #[.bool b1,.slice p1 n1 c1,.bool b2,.slice p2 n2 c2,.bool b3,.slice p3 n3 c3]:=by
 obtain ⟨p,n,s,d,f,g,q,m,e,rfl,-⟩:=h
 exact ⟨_,_,_,_,_,_,_,_,_,_,_,_,rfl⟩
def Ja (V:View)(p:OA)(n:Nat):Prop:=∀i,i<n->∃(a:Addr)(x:Int),addrAdd p (i*1)=some a/\V.at a (.int .i64 x)
theorem Ja.le {V V':View}{p:OA}{n:Nat}(h:Ja V p n)(l:V.Le V'):Ja V' p n:=fun i b=>by
 obtain ⟨a,x,e,c⟩:=h i b;exact ⟨a,x,e,l.at c⟩
def vR (V:View)(tb:Nat)(p:OA)(n c:Nat)(at_:Int):Prop:=V.w.heap[tb]?=some (.cells #[.slice p n c,.int .i64 at_] 102 (0,0))
theorem tB {V:View}{tb:Nat}{p:OA}{n c:Nat}{at_:Int}(k:Int)(hr:Ja V p n)(hn:n<=400)(hw:vR V tb p n c at_)(hx:V.X tb)(h0:0<=at_)(hk:0<k)(hk2:k<=1000) :
  Acts prog 37 #[.pointer (some ⟨tb,0,none⟩),.int .i64 k] V fun r V'=>∃x at',r=.int .i64 x/\0<=x/\x<k/\0<=at'/\vR V' tb p n c at':=by
 refine nO tb p n c at_ k V _ hw hx ⟨fun g m o e=>⟨0,at_,rfl,by omega,hk,h0,e⟩,fun g=>?_⟩
 have g:at_<n:=by have:=of_decide_eq_false g;omega
 obtain ⟨i,rfl⟩:∃i:Nat,at_=i:=⟨at_.toNat,by omega⟩
 obtain ⟨a,x,d,f⟩:=hr i (by omega)
 have h:p.isSome=true:=by
  cases p with
  | none=>simp [addrAdd] at d
  | some a=>rfl
 have q:(x.tmod k).natAbs<k.natAbs:=by rw [Int.natAbs_tmod];exact Nat.mod_lt _ (by omega)
 have j:i64.wrap ((i:Int)+1)=((i+1:Nat):Int):=by rw [i64w (by omega)];omega
 rw [Int.toNat_natCast,j]
 have l:i64.wrap (x.tmod k+k)=x.tmod k+k:=i64w (by omega)
 refine ⟨h,⟨by omega,by omega⟩,x,⟨a,d,f⟩,by omega,fun b V2 s e=>⟨x.tmod k+k,_,by rw [l],?_,?_,?_,e⟩,fun b t u e=>⟨_,_,rfl,?_,?_,?_,e⟩⟩
 ·omega
 ·have:=of_decide_eq_true b;omega
 ·omega
 ·have:=of_decide_eq_false b;omega
 ·omega
 ·omega
theorem Uo {V:View}{tb:Nat}{p:OA}{n c:Nat}{at_:Int}(hr:Ja V p n)(hn:n<=400)(hw:vR V tb p n c at_)(hx:V.X tb)(h0:0<=at_) :
  Acts prog 90 #[.pointer (some ⟨tb,0,none⟩)] V fun r V'=>∃(x y at':Int),RP V' r (x:Rat) (y:Rat)/\(-4<=x/\x<=4)/\(-4<=y/\y<=4)/\0<=at'/\vR V' tb p n c at':=by
 refine sF tb p n c at_ V _ hw hx fun k i a l m=>(tB (V:=k.lend [a]) 9 (hr.le fun b o h=>i b o h) hn l ⟨by simp,m⟩ h0 (by omega) (by omega)).mono ?_
 rintro r V2 q ⟨x,B,rfl,C,D,t1,d⟩
 refine ⟨_,rfl,_,_,_,_,d,fun s t u v w=>(tB (V:=s.lend [u]) 9 (hr.le fun b o h=>t b o (q b o (i b o h))) hn v ⟨by simp,w⟩ t1 (by omega) (by omega)).mono ?_⟩
 rintro r E F ⟨y,e,rfl,G,H,t2,f⟩
 refine ⟨_,rfl,_,_,_,_,f,fun I J=>?_⟩
 rw [i64w (x:=x-4) (by omega),i64w (x:=y-4) (by omega)]
 refine (tF (x-4) (y-4) (by omega) (by omega) (by omega) (by omega)).mono ?_
 rintro r K L j
 have g:=j
 obtain ⟨M,N,O,P,Q,R,S,T,U,W,Y,Z,rfl,-⟩:=j
 exact ⟨_,_,_,_,_,_,_,_,_,_,_,_,_,_,rfl,fun V7 z A=>⟨x-4,y-4,e,g.le z,⟨by omega,by omega⟩,⟨by omega,by omega⟩,t2,A⟩⟩
theorem RQ.zero {V:View}:RQ V (.agg #[.bool false,.slice none 0 0,.slice none 0 0]) ((0:Int):Rat):=⟨none,0,0,none,0,0,rfl,RD.nil,RD.nil⟩
theorem RP.zero {V:View}:RP V (.agg #[.bool false,.slice none 0 0,.slice none 0 0,.bool false,.slice none 0 0,.slice none 0 0]) ((0:Int):Rat) ((0:Int):Rat):=
 ⟨none,0,0,none,0,0,none,0,0,none,0,0,rfl,RQ.zero,RQ.zero⟩
theorem Gm {z:Int}(h:-40<=z/\z<=40):Sz 10 (z:Rat):=zS (by omega) (by omega)
theorem WV {V:View}{tb:Nat}{p:OA}{n c:Nat}{at_:Int}(hr:Ja V p n)(hn:n<=400)(hw:vR V tb p n c at_)(hx:V.X tb)(h0:0<=at_) :
  Acts prog 92 #[.pointer (some ⟨tb,0,none⟩)] V fun r V'=>∃(x y at':Int),RP V' r (x:Rat) (y:Rat)/\(-4<=x/\x<=4)/\(-4<=y/\y<=4)/\¬(x=0/\y=0)/\0<=at'/\vR V' tb p n c at':=by
 refine sG tb p n c at_ V _ hw hx fun s t d u v=>(Uo (V:=s.lend [d]) (hr.le fun b o h=>t b o h) hn u ⟨by simp,v⟩ h0).mono ?_
 rintro r V2 P ⟨x,y,k,l,e,f,t1,i⟩
 have a:=l
 obtain ⟨w,z,A,B,C,D,E,F,G,H,I,J,rfl,-⟩:=l
 refine ⟨_,_,_,_,_,_,_,_,_,_,_,_,_,_,rfl,_,_,_,_,i,fun Q m=>(yS (a.le fun b o h=>m b o h) RP.zero (Gm (by omega)) (Gm (by omega)) (Gm (by omega)) (Gm (by omega)) (by omega)).mono ?_⟩
 rintro r R K rfl
 refine ⟨_,rfl,fun g S T=>(tF 1 0 (by omega) (by omega) (by omega) (by omega)).mono ?_,fun g U L M=>⟨x,y,k,a.le fun b o h=>L b o (K b o (m b o h)),e,f,?_,t1,M⟩⟩
 ·rintro r W Y q
  have j:=q
  obtain ⟨w,z,A,B,C,D,E,F,G,H,I,J,rfl,-⟩:=q
  exact ⟨_,_,_,_,_,_,_,_,_,_,_,_,_,_,rfl,fun Z N O=>⟨1,0,k,j.le N,⟨by omega,by omega⟩,⟨by omega,by omega⟩,by omega,t1,O⟩⟩
 ·rintro ⟨rfl,rfl⟩
  simp at g
theorem WU {V:View}{tb:Nat}{p:OA}{n c:Nat}{at_:Int}(hr:Ja V p n)(hn:n<=400)(hw:vR V tb p n c at_)(hx:V.X tb)(h0:0<=at_) :
  Acts prog 39 #[.pointer (some ⟨tb,0,none⟩)] V fun r V'=>∃(x:L3)(at':Int),RL V' r x.1 x.2.1 x.2.2/\okL x=true/\Bd x/\0<=at'/\vR V' tb p n c at':=by
 refine sE tb p n c at_ V _ hw hx fun W I f Y Z=>(Uo (V:=W.lend [f]) (hr.le fun b o h=>I b o h) hn Y ⟨by simp,Z⟩ h0).mono ?_
 rintro r V2 l2 ⟨x,y,KY,J,g,i,t1,j⟩
 have d:=J
 obtain ⟨p1,K,c1,p2,L,c2,p3,M,c3,p4,n4,c4,rfl,-⟩:=J
 refine ⟨_,_,_,_,_,_,_,_,_,_,_,_,_,_,rfl,_,_,_,_,j,fun V3 N=>(h_ 1 (by omega) (by omega)).mono ?_⟩
 rintro r V4 O P
 have q:=P
 obtain ⟨p5,n5,c5,p6,n6,c6,rfl⟩:=P.shape
 refine ⟨_,_,_,_,_,_,_,rfl,fun V5 s Q2 e5 h5=>(WV (V:=V5.lend [Q2]) (hr.le fun b o h=>s b o (O b o (N b o (l2 b o (I b o h))))) hn e5 ⟨by simp,h5⟩ t1).mono ?_⟩
 rintro r V6 Q ⟨u,w,t,R,v,Sq,a0,t2,z⟩
 have A:=R
 obtain ⟨q1,m1,d1,q2,m2,d2,q3,m3,d3,q4,m4,d4,rfl,-⟩:=R
 refine ⟨_,_,_,_,_,_,_,_,_,_,_,_,_,_,rfl,_,_,_,_,z,fun B C=>?_⟩
 have e:V2.Le B:=fun b o h=>C b o (Q b o (s b o (O b o (N b o h))))
 have O_:V4.Le B:=fun b o h=>C b o (Q b o (s b o h))
 have D:V6.Le B:=fun b o h=>C b o h
 refine (qM (d.le e) (q.le O_) (A.le D) (k:=10) (m:=10) (Gm (by omega)) (Gm (by omega)) (Gm (by omega)) (Gm (by omega)) (Gm (by omega)) (by omega)).mono ?_
 rintro r V8 l8 S
 have E:=S
 obtain ⟨s1,i1,j1,s2,i2,j2,s3,i3,j3,s4,i4,j4,rfl,-⟩:=S
 have f1:(x:Rat)+((1:Int):Rat)*(u:Rat)=((x+u:Int):Rat):=by rw [←Rat.intCast_mul,←Rat.intCast_add,Int.one_mul]
 have f2:(y:Rat)+((1:Int):Rat)*(w:Rat)=((y+w:Int):Rat):=by rw [←Rat.intCast_mul,←Rat.intCast_add,Int.one_mul]
 refine ⟨_,_,_,_,_,_,_,_,_,_,_,_,_,_,rfl,fun V9 T=>(rQ (d.le (e.trans (l8.trans T))) (E.le T) (k:=10) (Gm (by omega)) (Gm (by omega)) (by rw [f1];exact Gm (by omega)) (by rw [f2];exact Gm (by omega)) (by omega) (by omega)).mono ?_⟩
 rintro r a1 a2 ⟨-,h⟩
 rw [KF] at h
 have K:((-w:Int):Rat).num=-w:=rfl
 have L:((u:Int):Rat).num=u:=rfl
 have M:((w*x-u*y:Int):Rat).num=w*x-u*y:=rfl
 dsimp only at h
 rw [K,L,M] at h
 obtain ⟨l,rfl,U⟩:=h (by omega)
 have m1:=HZ Sq g
 have m2:=HZ v i
 obtain ⟨k1,k2⟩:=J6 (a:=-w) (b:=u) (c:=w*x-u*y) (by omega) (by omega) (by omega) (by omega)
 have F:=U
 obtain ⟨b1,u1,v1,w1,b2,u2,v2,w2,b3,u3,v3,w3,rfl⟩:=(pC U)
 exact ⟨_,_,_,_,_,_,_,_,_,_,_,_,_,rfl,fun a3 G H=>⟨DG (-w) u (w*x-u*y),t,F.le G,k1,k2,t2,H⟩⟩
end Go.Proofs.Tryz
namespace Go.Proofs.Tryz
open Go.Eng
set_option maxRecDepth 100000
end Go.Proofs.Tryz
namespace Go.Proofs.Tryz
open Go.Eng Go.Big
theorem c_ref04_Rev {V:View}{l:Value}{a b c:Int}(hl:RL V l a b c):Acts prog 44 #[l] V fun r V'=>RL V' r (-a) (-b) (-c):=by
 obtain ⟨k,m,n,o,p,q,s,t,u,rfl,v,w,x⟩:=hl
 refine Am _ k m n _ o p q _ s t u V _ fun B d=>(fP a (v.le d)).mono ?_
 rintro r V2 h ⟨C,D,E,rfl,y⟩
 refine ⟨_,_,_,_,rfl,fun F e=>(fP b (w.le (d.trans (h.trans e)))).mono ?_⟩
 rintro r G i ⟨H,I,J,rfl,z⟩
 refine ⟨_,_,_,_,rfl,fun K f=>(fP c (x.le (d.trans (h.trans (e.trans (i.trans f)))))).mono ?_⟩
 rintro r L j ⟨M,N,O,rfl,A⟩
 exact ⟨_,_,_,_,rfl,fun P g=>⟨_,_,_,_,_,_,_,_,_,rfl,y.le (e.trans (i.trans (f.trans (j.trans g)))),z.le (f.trans (j.trans g)),A.le g⟩⟩
end Go.Proofs.Tryz
namespace Go.Eng
open Go.Big
theorem RR.zero (V:View):RR V (.agg #[.int .i64 0,.int .i64 0,.pointer none]) 0:=.inl ⟨rfl,by unfold Wd;decide⟩
end Go.Eng
namespace Go.Proofs.Tryz
open Go.Eng Go.Big
structure Sp where
 lo:Rat
 hi:Rat
 a:Bool
 b:Bool
def Sp.can (s:Sp):Prop:=(s.a=true->s.lo=0)/\(s.b=true->s.hi=0)
def Sp.sz (k:Nat)(s:Sp):Prop:=Sz k s.lo/\Sz k s.hi
def Sp.zero:Sp:=⟨0,0,false,false⟩
def lU (k:Nat)(l:L3):Prop:=Sz k (l.1:Rat)/\Sz k (l.2.1:Rat)/\Sz k (l.2.2:Rat)
def Ex (V:View)(v:Value)(s:Sp):Prop:=∃(x1 x2:Int)(p:OA)(y1 y2:Int)(q:OA),v=.agg #[.int .i64 x1,.int .i64 x2,.pointer p,.int .i64 y1,.int .i64 y2,.pointer q,.bool s.a,.bool s.b] /\
 RR V (.agg #[.int .i64 x1,.int .i64 x2,.pointer p]) s.lo/\RR V (.agg #[.int .i64 y1,.int .i64 y2,.pointer q]) s.hi
theorem Ex.le {V V':View}{v:Value}{s:Sp}(h:Ex V v s)(l:V.Le V'):Ex V' v s:=by
 obtain ⟨a,b,p,c,d,q,e,f,g⟩:=h
 exact ⟨a,b,p,c,d,q,e,f.le l,g.le l⟩
def RLi (V:View)(v:Value)(l:L3):Prop:=rL V v (l.1:Rat) (l.2.1:Rat) (l.2.2:Rat)
theorem RLi.le {V V':View}{v:Value}{l:L3}(h:RLi V v l)(e:V.Le V'):RLi V' v l:=rL.le h e
def LK (V:View)(v:Value)(l:L3)(s:Sp):Prop:=∃(x1 x2:Int)(p:OA)(y1 y2:Int)(q:OA)(z1 z2:Int)(r:OA)(u1 u2:Int)(t:OA)(w1 w2:Int)(o:OA),
 v=.agg #[.int .i64 x1,.int .i64 x2,.pointer p,.int .i64 y1,.int .i64 y2,.pointer q,.int .i64 z1,.int .i64 z2,.pointer r,.int .i64 u1,.int .i64 u2,.pointer t,.int .i64 w1,.int .i64 w2,.pointer o,.bool s.a,.bool s.b] /\
 RLi V (.agg #[.int .i64 x1,.int .i64 x2,.pointer p,.int .i64 y1,.int .i64 y2,.pointer q,.int .i64 z1,.int .i64 z2,.pointer r]) l /\
 Ex V (.agg #[.int .i64 u1,.int .i64 u2,.pointer t,.int .i64 w1,.int .i64 w2,.pointer o,.bool s.a,.bool s.b]) s
theorem LK.le {V V':View}{v:Value}{l:L3}{s:Sp}(h:LK V v l s)(e:V.Le V'):LK V' v l s:=by
 obtain ⟨a,b,p,c,d,q,f,g,r,i,j,t,k,m,o,rfl,n,u⟩:=h
 exact ⟨a,b,p,c,d,q,f,g,r,i,j,t,k,m,o,rfl,n.le e,u.le e⟩
def Jl (V:View)(v:Value)(b:Bool)(xs ys:List Nat):Prop:=∃p n c p' n' c',v=.agg #[.bool b,.slice p n c,.slice p' n' c']/\RD V p n c xs/\RD V p' n' c' ys
theorem Jl.le {V V':View}{v:Value}{b:Bool}{xs ys:List Nat}(h:Jl V v b xs ys)(l:V.Le V'):Jl V' v b xs ys:=by
 obtain ⟨p,n,c,a,d,f,e,g,i⟩:=h;exact ⟨p,n,c,a,d,f,e,g.le l,i.le l⟩
theorem Jl.nil {V:View}:Jl V (.agg #[.bool false,.slice none 0 0,.slice none 0 0]) false [] []:=⟨_,_,_,_,_,_,rfl,RD.nil,RD.nil⟩
def RE (V:View)(v:Value)(q:Rat)(no:Bool):Prop:=(no=true->Jl V v false [] [])/\(no=false->RA V v q)
theorem RE.le {V V':View}{v:Value}{q:Rat}{no:Bool}(h:RE V v q no)(l:V.Le V'):RE V' v q no:=⟨fun e=>(h.1 e).le l,fun e=>(h.2 e).le l⟩
theorem RE.shape {V:View}{v:Value}{q:Rat}{no:Bool}(h:RE V v q no):∃b p n c p' n' c',v=.agg #[.bool b,.slice p n c,.slice p' n' c']:=by
 cases no with
 | true=>obtain ⟨_,_,_,_,_,_,e,-⟩:=h.1 rfl;exact ⟨_,_,_,_,_,_,_,e⟩
 | false=>exact (h.2 rfl).shape
def Qh (V:View)(v:Value)(s:Sp):Prop:=∃b p n c p' n' c' d q m e q' m' e',v=.agg #[.bool b,.slice p n c,.slice p' n' c',.bool d,.slice q m e,.slice q' m' e',.bool s.a,.bool s.b] /\
 RE V (.agg #[.bool b,.slice p n c,.slice p' n' c']) s.lo s.a/\RE V (.agg #[.bool d,.slice q m e,.slice q' m' e']) s.hi s.b
theorem Qh.le {V V':View}{v:Value}{s:Sp}(h:Qh V v s)(l:V.Le V'):Qh V' v s:=by
 obtain ⟨b,p,n,c,g,i,j,d,q,m,e,k,o,r,rfl,a,f⟩:=h
 exact ⟨_,_,_,_,_,_,_,_,_,_,_,_,_,_,rfl,a.le l,f.le l⟩
def Ny (V:View)(v:Value)(l:L3)(s:Sp):Prop:=∃b1 p1 n1 c1 b2 p2 n2 c2 b3 p3 n3 c3 b p n c p' n' c' d q m e q' m' e',
 v=.agg #[.bool b1,.slice p1 n1 c1,.bool b2,.slice p2 n2 c2,.bool b3,.slice p3 n3 c3,.bool b,.slice p n c,.slice p' n' c',.bool d,.slice q m e,.slice q' m' e',.bool s.a,.bool s.b] /\
 RL V (.agg #[.bool b1,.slice p1 n1 c1,.bool b2,.slice p2 n2 c2,.bool b3,.slice p3 n3 c3]) l.1 l.2.1 l.2.2/\Qh V (.agg #[.bool b,.slice p n c,.slice p' n' c',.bool d,.slice q m e,.slice q' m' e',.bool s.a,.bool s.b]) s
theorem Ny.le {V V':View}{v:Value}{l:L3}{s:Sp}(h:Ny V v l s)(e:V.Le V'):Ny V' v l s:=by
 obtain ⟨b1,i,j,k,b2,o,r,t,b3,u,w,x,b,p,n,c,y,z,A,d,q,m,f,B,C,D,rfl,a,g⟩:=h
 exact ⟨_,_,_,_,_,_,_,_,_,_,_,_,_,_,_,_,_,_,_,_,_,_,_,_,_,_,rfl,a.le e,g.le e⟩
def NW (V:View)(v:Value)(s:Sp):Prop:=∃b p n c p' n' c' d q m e q' m' e',v=.agg #[.bool b,.slice p n c,.slice p' n' c',.bool d,.slice q m e,.slice q' m' e',.bool s.a,.bool s.b] /\
 RQ V (.agg #[.bool b,.slice p n c,.slice p' n' c']) s.lo/\RQ V (.agg #[.bool d,.slice q m e,.slice q' m' e']) s.hi
theorem NW.le {V V':View}{v:Value}{s:Sp}(h:NW V v s)(l:V.Le V'):NW V' v s:=by
 obtain ⟨b,p,n,c,g,i,j,d,q,m,e,k,o,r,rfl,a,f⟩:=h
 exact ⟨_,_,_,_,_,_,_,_,_,_,_,_,_,_,rfl,a.le l,f.le l⟩
def RF (V:View)(v:Value)(l:L3)(s:Sp):Prop:=∃b1 p1 n1 c1 b2 p2 n2 c2 b3 p3 n3 c3 b p n c p' n' c' d q m e q' m' e',
 v=.agg #[.bool b1,.slice p1 n1 c1,.bool b2,.slice p2 n2 c2,.bool b3,.slice p3 n3 c3,.bool b,.slice p n c,.slice p' n' c',.bool d,.slice q m e,.slice q' m' e',.bool s.a,.bool s.b] /\
 RL V (.agg #[.bool b1,.slice p1 n1 c1,.bool b2,.slice p2 n2 c2,.bool b3,.slice p3 n3 c3]) l.1 l.2.1 l.2.2/\NW V (.agg #[.bool b,.slice p n c,.slice p' n' c',.bool d,.slice q m e,.slice q' m' e',.bool s.a,.bool s.b]) s
theorem RF.le {V V':View}{v:Value}{l:L3}{s:Sp}(h:RF V v l s)(e:V.Le V'):RF V' v l s:=by
 obtain ⟨b1,i,j,k,b2,o,r,t,b3,u,w,x,b,p,n,c,y,z,A,d,q,m,f,B,C,D,rfl,a,g⟩:=h
 exact ⟨_,_,_,_,_,_,_,_,_,_,_,_,_,_,_,_,_,_,_,_,_,_,_,_,_,_,rfl,a.le e,g.le e⟩
def aj (l:L3)(x y:Rat):Rat:=(l.1:Rat)*x+(l.2.1:Rat)*y+(l.2.2:Rat)
def eN (l:L3):Rat:=(l.1:Rat)*(l.1:Rat)+(l.2.1:Rat)*(l.2.1:Rat)
def F5 (l:L3)(x y:Rat):Rat:=((l.2.1:Rat)*x-(l.1:Rat)*y)*(eN l)⁻¹
def fu (l:L3)(t:Rat):Rat:=(l.2.1:Rat)*t-(l.1:Rat)*(l.2.2:Rat)*(eN l)⁻¹
def iF (l:L3)(t:Rat):Rat:=-((l.1:Rat)*t)-(l.2.1:Rat)*(l.2.2:Rat)*(eN l)⁻¹
def revL (l:L3):L3:=(-l.1,-l.2.1,-l.2.2)
def Sp.neg (s:Sp):Sp:=⟨if s.b then 0 else -s.hi,if s.a then 0 else -s.lo,s.b,s.a⟩
def Sp.emp (s:Sp):Bool:=!s.a&&!s.b&&decide (fE s.lo s.hi≥0)
def Nz (l:L3):Prop:=¬(l.1=0/\l.2.1=0)
theorem sq_nonneg (x:Int):0<=x*x:=by
 rw [←Int.natAbs_mul_self];exact Int.natCast_nonneg _
theorem H8 (l:L3):eN l=((l.1*l.1+l.2.1*l.2.1:Int):Rat):=by unfold eN;simp
theorem Nz.norm {l:L3}(h:Nz l):eN l≠0:=by
 rw [H8]
 have d:=sq_nonneg l.1
 have f:=sq_nonneg l.2.1
 have a:l.1*l.1+l.2.1*l.2.1≠0:=by
  intro e
  have b:l.1*l.1=0:=by omega
  have c:l.2.1*l.2.1=0:=by omega
  exact h ⟨(Int.mul_eq_zero.1 b).elim id id,(Int.mul_eq_zero.1 c).elim id id⟩
 exact_mod_cast a
theorem H_ {q:Rat}(h:q≠0):q.num≠0:=fun e=>h (Rat.num_eq_zero.1 e)
theorem SA {V:View}{l t:Value}{L:L3}{x:Rat}(hl:RLi V l L)(ht:RR V t x){k:Nat}(sl:lU k L)(s1:Sz k x)(hk:20*k+19<274877906944) :
  Acts prog 210 #[l,t] V fun r V'=>RPt V' r (fu L x) (iF L x):=by
 refine (AV hl ht sl.1 sl.2.1 sl.2.2 s1 hk).mono ?_
 rintro r V2 c g
 have a:fu L x=((L.1:Rat)*((-(L.2.2:Rat))*((L.1:Rat)*(L.1:Rat)+(L.2.1:Rat)*(L.2.1:Rat))⁻¹))+((L.2.1:Rat)*x):=by unfold fu eN;grind
 have b:iF L x=((L.2.1:Rat)*((-(L.2.2:Rat))*((L.1:Rat)*(L.1:Rat)+(L.2.1:Rat)*(L.2.1:Rat))⁻¹))+((-(L.1:Rat))*x):=by unfold iF eN;grind
 rw [a,b];exact g
theorem IZ {L:L3}{x:Rat}{k:Nat}(sl:lU k L)(s1:Sz k x):Sz (20*k+19) (fu L x):=by
 have a:fu L x=((L.1:Rat)*((-(L.2.2:Rat))*((L.1:Rat)*(L.1:Rat)+(L.2.1:Rat)*(L.2.1:Rat))⁻¹))+((L.2.1:Rat)*x):=by unfold fu eN;grind
 rw [a];exact w_ sl.1 sl.2.1 sl.2.2 s1
theorem I0 {L:L3}{x:Rat}{k:Nat}(sl:lU k L)(s1:Sz k x):Sz (20*k+19) (iF L x):=by
 have a:iF L x=((L.2.1:Rat)*((-(L.2.2:Rat))*((L.1:Rat)*(L.1:Rat)+(L.2.1:Rat)*(L.2.1:Rat))⁻¹))+((-(L.1:Rat))*x):=by unfold iF eN;grind
 rw [a];exact xd sl.1 sl.2.1 sl.2.2 s1
theorem oT (q:Rat):q.num.sign=0↔q=0:=by rw [Int.sign_eq_zero_iff_zero,Rat.num_eq_zero]
theorem ze {V:View}{l p:Value}{L:L3}{x y:Rat}(hl:RLi V l L)(hp:RPt V p x y){k:Nat}(sl:lU k L)(s1:Sz k x)(s2:Sz k y)(hk:16*k+16<274877906944) :
  Acts prog 106 #[l,p] V fun r V'=>r=.int .i64 (aj L x y).num.sign:=vT hl hp sl.1 sl.2.1 sl.2.2 s1 s2 hk
theorem k_Reverse {V:View}{l:Value}{L:L3}(hl:RLi V l L){k:Nat}(sl:lU k L)(hk:1*k+1<274877906944) :
  Acts prog 198 #[l] V fun r V'=>RLi V' r (revL L):=by
 refine (pK hl sl.1 sl.2.1 sl.2.2 hk).mono ?_
 rintro r V2 a g
 unfold RLi revL
 simpa using g
theorem lU.rev {k:Nat}{L:L3}(h:lU k L):lU k (revL L):=by
 unfold lU revL
 simp only [Rat.intCast_neg]
 exact ⟨h.1.neg,h.2.1.neg,h.2.2.neg⟩
theorem MY {L:L3}(h:Nz L):((((((L.2.1:Int):Rat)))*((((L.2.1:Int):Rat))))+(((-(((L.1:Int):Rat))))*((-(((L.1:Int):Rat)))))).num≠0:=by
 have:(((((L.2.1:Int):Rat)))*((((L.2.1:Int):Rat))))+(((-(((L.1:Int):Rat))))*((-(((L.1:Int):Rat)))))=eN L:=by unfold eN;grind
 rw [this]
 exact H_ h.norm
structure QN (V:View) (vs:List Value) (i:Int) (f a b c:Rat):Prop where
 h0:0<=i
 h3:i<=3
 row:∃(x1 x2:Int)(p:OA)(y1 y2:Int)(q:OA)(z1 z2:Int)(r:OA),vs=[.int .i64 x1,.int .i64 x2,.pointer p,.int .i64 y1,.int .i64 y2,.pointer q,.int .i64 z1,.int .i64 z2,.pointer r] /\
  RR V (.agg #[.int .i64 x1,.int .i64 x2,.pointer p]) (if 0<i then a*f else a)/\RR V (.agg #[.int .i64 y1,.int .i64 y2,.pointer q]) (if 1<i then b*f else b)/\RR V (.agg #[.int .i64 z1,.int .i64 z2,.pointer r]) (if 2<i then c*f else c)
theorem QN.le {V V':View}{vs:List Value}{i:Int}{f a b c:Rat}(h:QN V vs i f a b c)(l:V.Le V'):QN V' vs i f a b c:=by
 obtain ⟨d,g,j,k,p,m,n,q,o,s,r,e,t,u,v⟩:=h
 exact ⟨d,g,j,k,p,m,n,q,o,s,r,e,t.le l,u.le l,v.le l⟩
def MZ (b:Bool)(xs ys:List Nat):Rat:=mkRat (aO b xs) (val ys)
def ML (b:Bool)(xs ys:List Nat):Bool:=kH b xs&&decide (af (val ys)=ys)&&!decide (ys=[])&&decide (Nat.gcd (val xs) (val ys)=1)
def TQ (b:Bool)(xs ys:List Nat):Bool:=!b&&decide (xs=[])&&decide (ys=[])
def L9 (b:Bool)(xs ys:List Nat)(no:Bool):Rat:=if no then 0 else MZ b xs ys
def Hm (b:Bool)(xs ys:List Nat)(no:Bool):Bool:=if no then TQ b xs ys else ML b xs ys
theorem EX {q:Rat}:ML (decide (q.num<0)) (af q.num.natAbs) (af q.den)=true/\MZ (decide (q.num<0)) (af q.num.natAbs) (af q.den)=q:=by
 constructor
 ·unfold ML
  have a:kH (decide (q.num<0)) (af q.num.natAbs)=true:=by
   unfold kH
   rw [ab]
   by_cases h:q.num<0
   ·have:af q.num.natAbs≠[]:=fun e=>by have:=bf.1 e;omega
    simp [h,this]
   ·simp [h]
  have b:af q.den≠[]:=fun e=>q.den_nz (bf.1 e)
  rw [a,ab,ab]
  simp [b,q.reduced]
 ·unfold MZ
  rw [aA,ab,Rat.mkRat_self]
theorem C8 {V:View}{v:Value}{s:Sp}(h:Ex V v s){k:Nat}(hs:s.sz k)(hk:2*k<1099511627776) :
  Acts prog 202 #[v] V fun r V'=>r=.bool s.emp:=by
 obtain ⟨f,g,p,i,j,q,rfl,l,m⟩:=h
 refine si f g p i j q s.a s.b V _ ⟨fun c=>⟨fun d n e=>(j8 (l.le e) (m.le e) hs.1 hs.2 (by omega)).mono ?_,fun d o t=>?_⟩,fun c u w=>?_⟩
 ·rintro r V2 x rfl
  exact ⟨_,rfl,fun y z=>by rw [Bool.not_eq_true'] at c d;simp [Sp.emp,c,d]⟩
 ·rw [Bool.not_eq_false'] at d;simp [Sp.emp,d]
 ·rw [Bool.not_eq_false'] at c;simp [Sp.emp,c]
def Qi (V:View)(v:Value)(b1:Bool)(KL KN:List Nat)(b2:Bool)(KM KO:List Nat)(na nb:Bool):Prop:=∃p n c p' n' c' q m e q' m' e',v=.agg #[.bool b1,.slice p n c,.slice p' n' c',.bool b2,.slice q m e,.slice q' m' e',.bool na,.bool nb] /\
 Jl V (.agg #[.bool b1,.slice p n c,.slice p' n' c']) b1 KL KN/\Jl V (.agg #[.bool b2,.slice q m e,.slice q' m' e']) b2 KM KO
theorem Qi.le {V V':View}{v:Value}{b1:Bool}{KL KN:List Nat}{b2:Bool}{KM KO:List Nat}{na nb:Bool}(h:Qi V v b1 KL KN b2 KM KO na nb)(l:V.Le V'):Qi V' v b1 KL KN b2 KM KO na nb:=by
 obtain ⟨p,n,c,d,f,g,q,m,e,i,j,k,rfl,a,b⟩:=h
 exact ⟨_,_,_,_,_,_,_,_,_,_,_,_,rfl,a.le l,b.le l⟩
def P1 (b1:Bool)(KL KN:List Nat)(b2:Bool)(KM KO:List Nat)(na nb:Bool):Sp:=⟨L9 b1 KL KN na,L9 b2 KM KO nb,na,nb⟩
def okW (b1:Bool)(KL KN:List Nat)(b2:Bool)(KM KO:List Nat)(na nb:Bool):Bool:=Hm b1 KL KN na&&Hm b2 KM KO nb&&!(P1 b1 KL KN b2 KM KO na nb).emp
def VW (l:L3)(s:Sp):Prop:=okL l=true/\s.can/\s.emp=false
theorem RE.raw {V:View}{v:Value}{q:Rat}{no:Bool}(h:RE V v q no)(hc:no=true->q=0):∃b xs ys,Jl V v b xs ys/\Hm b xs ys no=true/\L9 b xs ys no=q/\(∀k,Sz k q->xs.length<=k/\ys.length<=k):=by
 cases no with
 | true=>
  exact ⟨false,[],[],h.1 rfl,rfl,by rw [hc rfl];rfl,fun k _=>⟨Nat.zero_le _,Nat.zero_le _⟩⟩
 | false=>
  obtain ⟨p,n,c,f,g,i,rfl,d,e⟩:=h.2 rfl
  exact ⟨_,_,_,⟨_,_,_,_,_,_,rfl,d,e⟩,EX.1,EX.2,fun k a=>⟨ae a.1,ae a.2⟩⟩
theorem RLi.api {V:View}{r:Value}{l:L3}(h:RL V r ((l.1:Rat)).num ((l.2.1:Rat)).num ((l.2.2:Rat)).num):RL V r l.1 l.2.1 l.2.2:=by
 simpa [Rat.num_intCast] using h
theorem Ie {l:L3}(h:okL l=true):Nz l:=by
 unfold okL at h
 intro e
 simp [e.1,e.2] at h
theorem lU.af {k:Nat}{l:L3}(h:lU k l)(hk:k<=1099511627776):(af l.1.natAbs).length<=1099511627776/\(af l.2.1.natAbs).length<=1099511627776/\(af l.2.2.natAbs).length<=1099511627776:=by
 have d1:=ae (show l.1.natAbs<2^k from h.1.1)
 have d2:=ae (show l.2.1.natAbs<2^k from h.2.1.1)
 have d3:=ae (show l.2.2.natAbs<2^k from h.2.2.1)
 exact ⟨by omega,by omega,by omega⟩
def Qe (V:View)(ad:Addr)(l:L3)(s:Sp):Prop:=∃xs:List Value,Ny V (.agg xs.toArray) l s/\∀i x,xs[i]?=some x->V.at (ad.add i) x
theorem Qe.le {V V':View}{ad:Addr}{l:L3}{s:Sp}(h:Qe V ad l s)(e:V.Le V'):Qe V' ad l s:=by
 obtain ⟨xs,a,b⟩:=h;exact ⟨xs,a.le e,fun i x c=>e.at (b i x c)⟩
structure LJ (V:View) (p:OA) (n:Nat) (fs:List (L3×Sp)):Prop where
 len:n=fs.length
 at_:∀(i:Nat)(h:i<fs.length),∃ad,addrAdd p (i*14)=some ad/\Qe V ad fs[i].1 fs[i].2
theorem LJ.le {V V':View}{p:OA}{n:Nat}{fs:List (L3×Sp)}(h:LJ V p n fs)(e:V.Le V'):LJ V' p n fs:=⟨h.len,fun i a=>by obtain ⟨b,c,d⟩:=h.at_ i a;exact ⟨b,c,d.le e⟩⟩
theorem cI {p:OA}{j:Nat}{ad:Addr}(h:addrAdd p j=some ad):p.isSome=true:=by
 cases p with
 | none=>cases h
 | some a=>rfl
def Qj (V:View)(ad:Addr)(s:Sp):Prop:=∃xs:List Value,NW V (.agg xs.toArray) s/\∀i x,xs[i]?=some x->V.at (ad.add i) x
theorem Qj.le {V V':View}{ad:Addr}{s:Sp}(h:Qj V ad s)(e:V.Le V'):Qj V' ad s:=by
 obtain ⟨xs,a,b⟩:=h;exact ⟨xs,a.le e,fun i x c=>e.at (b i x c)⟩
structure QM (V:View) (p:OA) (n:Nat) (ss:List Sp):Prop where
 len:n=ss.length
 at_:∀(i:Nat)(h:i<ss.length),∃ad,addrAdd p (i*8)=some ad/\Qj V ad ss[i]
theorem QM.le {V V':View}{p:OA}{n:Nat}{ss:List Sp}(h:QM V p n ss)(e:V.Le V'):QM V' p n ss:=⟨h.len,fun i a=>by obtain ⟨b,c,d⟩:=h.at_ i a;exact ⟨b,c,d.le e⟩⟩
def Sp.la (s:Sp)(t:Rat):Int:=if s.a then 1 else fE t s.lo
def Sp.lb (s:Sp)(t:Rat):Int:=if s.b then -1 else fE t s.hi
end Go.Proofs.Tryz
namespace Go.Proofs.Tryz
open Go.Eng
set_option maxRecDepth 100000
end Go.Proofs.Tryz
namespace Go.Proofs.Tryz
open Go.Eng Go.Big
def Qg (V:View)(v:Value)(b1:Bool)(xs:List Nat)(b2:Bool)(ys:List Nat)(b3:Bool)(zs:List Nat):Prop:=∃p n c q m e s i j,v=.agg #[.bool b1,.slice p n c,.bool b2,.slice q m e,.bool b3,.slice s i j]/\RD V p n c xs/\RD V q m e ys/\RD V s i j zs
theorem Qg.le {V V':View}{v:Value}{b1:Bool}{xs:List Nat}{b2:Bool}{ys:List Nat}{b3:Bool}{zs:List Nat}(h:Qg V v b1 xs b2 ys b3 zs)(l:V.Le V'):Qg V' v b1 xs b2 ys b3 zs:=by
 obtain ⟨p,n,c,q,m,e,s,i,j,rfl,a,b,d⟩:=h
 exact ⟨_,_,_,_,_,_,_,_,_,rfl,a.le l,b.le l,d.le l⟩
def Vs (b1:Bool)(xs:List Nat)(b2:Bool)(ys:List Nat)(b3:Bool)(zs:List Nat):L3:=(aO b1 xs,aO b2 ys,aO b3 zs)
structure FW where
 b1:Bool
 xs:List Nat
 b2:Bool
 ys:List Nat
 b3:Bool
 zs:List Nat
 c1:Bool
 us:List Nat
 vs:List Nat
 c2:Bool
 ws:List Nat
 ts:List Nat
 na:Bool
 nb:Bool
def FW.ln (f:FW):L3:=Vs f.b1 f.xs f.b2 f.ys f.b3 f.zs
def FW.sp (f:FW):Sp:=P1 f.c1 f.us f.vs f.c2 f.ws f.ts f.na f.nb
def FW.ok (f:FW):Bool:=uD f.b1 f.xs f.b2 f.ys f.b3 f.zs&&okW f.c1 f.us f.vs f.c2 f.ws f.ts f.na f.nb
structure FW.short (f:FW):Prop where
 x:f.xs.length<=1000000
 y:f.ys.length<=1000000
 z:f.zs.length<=1000000
 u:f.us.length<=1000000
 v:f.vs.length<=1000000
 w:f.ws.length<=1000000
 t:f.ts.length<=1000000
def Qf (V:View)(v:Value)(f:FW):Prop:=∃p1 n1 d1 p2 n2 d2 p3 n3 d3 p n c p' n' c' q m e q' m' e',
 v=.agg #[.bool f.b1,.slice p1 n1 d1,.bool f.b2,.slice p2 n2 d2,.bool f.b3,.slice p3 n3 d3,.bool f.c1,.slice p n c,.slice p' n' c',.bool f.c2,.slice q m e,.slice q' m' e',.bool f.na,.bool f.nb] /\
 Qg V (.agg #[.bool f.b1,.slice p1 n1 d1,.bool f.b2,.slice p2 n2 d2,.bool f.b3,.slice p3 n3 d3]) f.b1 f.xs f.b2 f.ys f.b3 f.zs /\
 Qi V (.agg #[.bool f.c1,.slice p n c,.slice p' n' c',.bool f.c2,.slice q m e,.slice q' m' e',.bool f.na,.bool f.nb]) f.c1 f.us f.vs f.c2 f.ws f.ts f.na f.nb
theorem Qf.le {V V':View}{v:Value}{f:FW}(h:Qf V v f)(l:V.Le V'):Qf V' v f:=by
 obtain ⟨d,g,d1,i,j,d2,k,o,d3,p,n,c,r,s,t,q,m,e,u,w,x,rfl,a,b⟩:=h
 exact ⟨_,_,_,_,_,_,_,_,_,_,_,_,_,_,_,_,_,_,_,_,_,rfl,a.le l,b.le l⟩
def BM (x y:Rat):Rat:=if 0<fE y x then y else x
def BR (x y:Rat):Rat:=if fE y x<0 then y else x
theorem l_ (x y:Rat):(x<y/\fE x y=-1)\/(x=y/\fE x y=0)\/(y<x/\fE x y=1):=by
 by_cases a:x<y
 ·exact .inl ⟨a,EI.1 a⟩
 ·by_cases b:x=y
  ·exact .inr (.inl ⟨b,iO.1 b⟩)
  ·have c:y<x:=by grind
   exact .inr (.inr ⟨c,EH.1 c⟩)
theorem Sp.kh {s:Sp}:s.emp=false↔(s.a=true\/s.b=true\/s.lo<s.hi):=by
 unfold Sp.emp
 rcases l_ s.lo s.hi with ⟨h,e⟩|⟨h,e⟩|⟨h,e⟩<;>rw [e]<;>cases s.a<;>cases s.b<;>simp<;>grind
def Sp.meet (v w:Sp):Sp:=⟨if v.a then w.lo else if w.a then v.lo else BM v.lo w.lo,if v.b then w.hi else if w.b then v.hi else BR v.hi w.hi,if v.a then w.a else false,if v.b then w.b else false⟩
theorem Sp.BN {v w:Sp}(h1:v.can)(h2:w.can):(v.meet w).can:=by
 unfold Sp.meet
 constructor<;>dsimp only
 ·cases hv:v.a with
  | false=>intro h;cases h
  | true=>exact fun h=>h2.1 h
 ·cases hv:v.b with
  | false=>intro h;cases h
  | true=>exact fun h=>h2.2 h
def Sp.cW (s:Sp):Rat:=if s.a then (if s.b then 0 else s.hi-((1:Int):Rat)) else if s.b then s.lo+((1:Int):Rat) else (s.lo+s.hi)*((2:Int):Rat)⁻¹
theorem Sp.E4 {s:Sp}(h:s.emp=false):(s.a=false->s.lo<s.cW)/\(s.b=false->s.cW<s.hi):=by
 rw [Sp.kh] at h
 unfold Sp.cW
 cases ha:s.a<;>cases hb:s.b<;>simp [ha,hb] at h⊢<;> grind
def fw (m l:L3):Rat:=((m.1:Rat)*(l.2.1:Rat))+((m.2.1:Rat)*(-(l.1:Rat)))
def jw (m l:L3):Rat:=aj m (fu l 0) (iF l 0)
theorem vf (m l:L3)(t:Rat):aj m (fu l t) (iF l t)=jw m l+fw m l*t:=by
 unfold jw aj fw fu iF;grind
def dm (m l:L3):Rat:=-(jw m l*(fw m l)⁻¹)
def cH (l:L3)(s:Sp)(m:L3):Sp:=
 if (fw m l).num.sign==0 then s else if (fw m l).num.sign==1 then s.meet ⟨dm m l,0,false,true⟩ else s.meet ⟨0,dm m l,true,false⟩
def c_ (l:L3)(s:Sp)(m:L3):Bool:=
 if (fw m l).num.sign==0 then decide ((jw m l).num.sign>0) else !(cH l s m).emp
theorem iZ (q:Rat):(q=0/\q.num.sign=0)\/(0<q/\q.num.sign=1)\/(q<0/\q.num.sign=-1):=by
 have a:=@BV q
 have b:=@BW q
 have c:=@Rat.num_eq_zero q
 rcases Int.lt_trichotomy q.num 0 with h|h|h
 ·exact .inr (.inr ⟨a.1 h,Int.sign_eq_neg_one_of_neg h⟩)
 ·exact .inl ⟨c.1 h,by rw [h];rfl⟩
 ·exact .inr (.inl ⟨b.1 h,Int.sign_eq_one_of_pos h⟩)
theorem Hf {l:L3}{s:Sp}{m:L3}(he:s.emp=false)(hb:c_ l s m=true):(cH l s m).emp=false:=by
 unfold c_ at hb
 split at hb
 ·rename_i h
  unfold cH
  rw [if_pos h];exact he
 ·simpa using hb
theorem Hg {l:L3}{s:Sp}{m:L3}(hc:s.can):(cH l s m).can:=by
 unfold cH
 split
 ·exact hc
 ·split
  ·exact Sp.BN hc ⟨(fun h=>nomatch h),fun _=>rfl⟩
  ·exact Sp.BN hc ⟨fun _=>rfl,(fun h=>nomatch h)⟩
theorem val_rev (m:L3)(x y:Rat):aj (revL m) x y=-aj m x y:=by
 unfold aj revL;simp only [Rat.intCast_neg];grind
def bw (l m:L3):Rat:=((l.1:Rat)*(m.2.1:Rat))-((l.2.1:Rat)*(m.1:Rat))
def Ka (l m:L3):Rat:=(((l.2.1:Rat)*(m.2.2:Rat))-((l.2.2:Rat)*(m.2.1:Rat)))*(bw l m)⁻¹
def MJ (l m:L3):Rat:=(((l.2.2:Rat)*(m.1:Rat))-((l.1:Rat)*(m.2.2:Rat)))*(bw l m)⁻¹
theorem VX.ex {V:View}{v:Value}{l:L3}{s:Sp}(h:LK V v l s):∃(x1 x2:Int)(p:OA)(y1 y2:Int)(q:OA)(z1 z2:Int)(r:OA)(u1 u2:Int)(t:OA)(w1 w2:Int)(o:OA),
 v=.agg #[.int .i64 x1,.int .i64 x2,.pointer p,.int .i64 y1,.int .i64 y2,.pointer q,.int .i64 z1,.int .i64 z2,.pointer r,.int .i64 u1,.int .i64 u2,.pointer t,.int .i64 w1,.int .i64 w2,.pointer o,.bool s.a,.bool s.b]:=by
 obtain ⟨_,_,_,_,_,_,_,_,_,_,_,_,_,_,_,e,-⟩:=h;exact ⟨_,_,_,_,_,_,_,_,_,_,_,_,_,_,_,e⟩
theorem zT:Sz 2 (((2:Int):Rat)):=⟨by show (2:Int).natAbs<_;decide,by show (1:Nat)<_;decide⟩
theorem i_:Sz 2 (((1:Int):Rat)):=⟨by show (1:Int).natAbs<_;decide,by show (1:Nat)<_;decide⟩
theorem De {V:View}{v:Value}{x:Rat}(h:RQ V v x){k:Nat}(sx:Sz k x)(hk:k+2<274877906944) :
  Acts prog 147 #[v] V fun r V'=>RQ V' r (x*((2:Int):Rat)⁻¹):=by
 have b:=h
 obtain ⟨_,_,_,_,_,_,rfl⟩:=h.shape
 refine CK _ _ _ _ _ _ _ V _ fun j c=>(h_ 2 (by decide) (by decide)).mono ?_
 rintro r V2 d g
 have e:=g
 obtain ⟨_,_,_,_,_,_,rfl⟩:=g.shape
 refine ⟨_,_,_,_,_,_,_,rfl,fun l a=>(ia (b.le (c.trans (d.trans a))) (e.le a) (by show (2:Int)≠0;decide) sx zT hk).mono ?_⟩
 rintro r m n q
 have f:=q
 obtain ⟨_,_,_,_,_,_,rfl⟩:=q.shape
 exact ⟨_,_,_,_,_,_,_,rfl,fun o i=>f.le i⟩
theorem Fy {V:View}{v w:Value}{x y:Rat}(h:RQ V v x)(h':RQ V w y){k:Nat}(sx:Sz k x)(sy:Sz k y)(hk:4*k+4<274877906944) :
  Acts prog 129 #[v,w] V fun r V'=>RQ V' r ((x+y)*((2:Int):Rat)⁻¹):=by
 have c:=h
 have a:=h'
 obtain ⟨_,_,_,_,_,_,rfl⟩:=h.shape
 obtain ⟨_,_,_,_,_,_,rfl⟩:=h'.shape
 refine Em _ _ _ _ _ _ _ _ _ _ _ _ _ _ V _ fun j b=>(dj (c.le b) (a.le b) sx sy (by omega)).mono ?_
 rintro r V2 l g
 have d:=g
 obtain ⟨_,_,_,_,_,_,rfl⟩:=g.shape
 refine ⟨_,_,_,_,_,_,_,rfl,fun m e=>(De (d.le e) (sx.add sy) (by omega)).mono ?_⟩
 rintro r n o q
 have f:=q
 obtain ⟨_,_,_,_,_,_,rfl⟩:=q.shape
 exact ⟨_,_,_,_,_,_,_,rfl,fun p i=>f.le i⟩
theorem KE {s:Sp}{k:Nat}(ss:s.sz k):Sz (2*k+10) s.cW:=by
 have z:Sz (2*k+10) (0:Rat):=⟨by show (0:Int).natAbs<_;exact Nat.lt_of_lt_of_le (by decide) (Nat.one_le_two_pow),Nat.one_lt_two_pow (by omega)⟩
 unfold Sp.cW
 split
 ·split
  ·exact z
  ·exact (ss.2.sub i_).mono (by omega)
 ·split
  ·exact (ss.1.add i_).mono (by omega)
  ·exact ((ss.1.add ss.2).mul (fl zT)).mono (by omega)
theorem Ny.raw {V:View}{v:Value}{l:L3}{s:Sp}(h:Ny V v l s)(ho:VW l s){k:Nat}(sl:lU k l)(ss:s.sz k)(hk:k<=1000000):∃f:FW,Qf V v f/\f.ok=true/\f.ln=l/\f.sp=s/\f.short:=by
 obtain ⟨b1,I,J,K,b2,L,M,N,b3,O,P,Q,b,p,n,c,R,S,T,d,q,m,e,U,W,X,rfl,u,w⟩:=h
 obtain ⟨_,_,_,_,_,_,_,_,_,el,x,y,A⟩:=u
 have el:=congrArg Array.toList (Value.agg.inj el)
 simp only [List.cons.injEq,Value.bool.injEq,Value.slice.injEq,and_true] at el
 obtain ⟨rfl,⟨rfl,rfl,rfl⟩,rfl,⟨rfl,rfl,rfl⟩,rfl,rfl,rfl,rfl⟩:=el
 obtain ⟨_,_,_,_,_,_,_,_,_,_,_,_,_,_,es,B,C⟩:=w
 have es:=congrArg Array.toList (Value.agg.inj es)
 simp only [List.cons.injEq,Value.bool.injEq,Value.slice.injEq,and_true] at es
 obtain ⟨rfl,⟨rfl,rfl,rfl⟩,⟨rfl,rfl,rfl⟩,rfl,⟨rfl,rfl,rfl⟩,⟨rfl,rfl,rfl⟩⟩:=es
 obtain ⟨ok,can,emp⟩:=ho
 obtain ⟨Y,us,g,i,D,j,E⟩:=B.raw can.1
 obtain ⟨Z,ws,o,r,F,t,G⟩:=C.raw can.2
 have i1:=i
 have i2:=r
 obtain ⟨_,_,_,_,_,_,f1,-,-⟩:=i1
 obtain ⟨_,_,_,_,_,_,f2,-,-⟩:=i2
 have f1:=congrArg Array.toList (Value.agg.inj f1)
 have f2:=congrArg Array.toList (Value.agg.inj f2)
 simp only [List.cons.injEq,Value.bool.injEq,Value.slice.injEq,and_true] at f1 f2
 obtain ⟨rfl,-⟩:=f1
 obtain ⟨rfl,-⟩:=f2
 have len:∀{z:Int},Sz k (z:Rat)->(af z.natAbs).length<=1000000:=fun h=>Nat.le_trans (ae h.1) hk
 have d1:=E k ss.1
 have d2:=G k ss.2
 refine ⟨⟨decide (l.1<0),af l.1.natAbs,decide (l.2.1<0),af l.2.1.natAbs,decide (l.2.2<0),af l.2.2.natAbs,b,us,g,d,ws,o,s.a,s.b⟩,⟨_,_,_,_,_,_,_,_,_,_,_,_,_,_,_,_,_,_,_,_,_,rfl,⟨_,_,_,_,_,_,_,_,_,rfl,x,y,A⟩,⟨_,_,_,_,_,_,_,_,_,_,_,_,rfl,i,r⟩⟩,?_,?_,?_,⟨len sl.1,len sl.2.1,len sl.2.2,Nat.le_trans d1.1 hk,Nat.le_trans d1.2 hk,Nat.le_trans d2.1 hk,Nat.le_trans d2.2 hk⟩⟩
 ·have H:P1 b us g d ws o s.a s.b=s:=by unfold P1;rw [j,t]
  unfold FW.ok okW
  dsimp only
  rw [BZ,D,F,H,emp]
  show okL l&&true=true
  rw [ok];rfl
 ·unfold FW.ln Vs
  dsimp only
  rw [aA,aA,aA]
 ·unfold FW.sp P1
  dsimp only
  rw [j,t]
end Go.Proofs.Tryz
namespace Go.Proofs.Tryz
open Go.Eng
set_option maxRecDepth 100000
end Go.Proofs.Tryz
namespace Go.Proofs.Tryz
open Go.Eng Go.Big
theorem yq {V:View}{p:OA}{n:Nat}{qs:List Rat}(h:Lst 3 RQ V p n qs){i:Nat}(hi:i<qs.length):∃ad b p1 n1 c1 p2 n2 c2,addrAdd p (i*3)=some ad/\RQ V (.agg #[.bool b,.slice p1 n1 c1,.slice p2 n2 c2]) qs[i] /\
  V.at (ad.add 0) (.bool b)/\V.at (ad.add 1) (.slice p1 n1 c1)/\V.at (ad.add 2) (.slice p2 n2 c2):=by
 obtain ⟨ad,f,xs,-,d,a⟩:=h.at_ i hi
 have c:=d
 obtain ⟨p1,n1,c1,p2,n2,c2,e⟩:=d.shape
 have e:=congrArg Array.toList (Value.agg.inj e)
 dsimp only at e
 subst e
 exact ⟨ad,_,p1,n1,c1,p2,n2,c2,f,c,a 0 _ rfl,a 1 _ rfl,a 2 _ rfl⟩
def uF (c:List Rat)(i:Nat):List Rat:=(c.getD 0 0-((1:Int):Rat))::(List.range (i-1)).map fun k=>(c.getD k 0+c.getD (k+1) 0)*((2:Int):Rat)⁻¹
def fN (c:List Rat):List Rat:=if c.length=0 then [0] else uF c c.length++[c.getD (c.length-1) 0+((1:Int):Rat)]
theorem B2 (c:List Rat){i:Nat}(h:1<=i):(uF c i).length=i:=by unfold uF;simp;omega
theorem F4 (c:List Rat){i:Nat}(h:1<=i):uF c (i+1)=uF c i++[(c.getD (i-1) 0+c.getD i 0)*((2:Int):Rat)⁻¹]:=by
 obtain ⟨m,rfl⟩:∃m,i=m+1:=⟨i-1,by omega⟩
 unfold uF
 rw [Nat.add_sub_cancel,Nat.add_sub_cancel,List.range_succ,List.map_append]
 rfl
theorem iS {c:List Rat}{i:Nat}(h:i<c.length):c.getD i 0=c[i]:=by rw [List.getD_eq_getElem?_getD,List.getElem?_eq_getElem h];rfl
def wu (x:Rat):List Rat->List Rat
 | []=>[x]
 | y::r=>if y<x then y::wu x r else if y=x then y::r else x::y::r
theorem JS {x:Rat}:∀(o:List Rat)(k:Nat),k<=o.length->(∀j (h:j<o.length),j<k->o[j]<x)->(∀h:k<o.length,¬o[k]<x) ->
  wu x o=if (∃h:k<o.length,o[k]=x) then o else o.take k++x::o.drop k:=by
 intro o
 induction o with
 | nil=>
  intro k f _ _
  obtain rfl:k=0:=by simpa using f
  simp [wu]
 | cons y r ih=>
  intro k f a b
  cases k with
  | zero=>
   have g:¬y<x:=b (by simp)
   unfold wu
   rw [if_neg g]
   by_cases e:y=x
   ·rw [if_pos e,if_pos ⟨by simp,e⟩]
   ·rw [if_neg e,if_neg (by rintro ⟨_,h⟩;exact e h)]
    rfl
  | succ k=>
   have g:y<x:=a 0 (by simp) (by omega)
   unfold wu
   rw [if_pos g,ih k (by simpa using f) (fun j h i=>a (j+1) (by simpa using h) (by omega)) (fun h=>b (by simpa using h))]
   by_cases e:∃h:k<r.length,r[k]=x
   ·obtain ⟨c,d⟩:=e
    rw [if_pos ⟨c,d⟩,if_pos ⟨by simpa using c,d⟩]
   ·rw [if_neg e,if_neg (by rintro ⟨c,d⟩;exact e ⟨by simpa using c,d⟩)]
    rfl
theorem II {V:View}{vs:List Value}{qs:List Rat}(h:Row 3 RQ V vs qs){i:Nat}(hi:i<qs.length):∃b p1 n1 c1 p2 n2 c2,i*3+3<=vs.length/\(vs.drop (i*3)).take 3=[.bool b,.slice p1 n1 c1,.slice p2 n2 c2]/\RQ V (.agg #[.bool b,.slice p1 n1 c1,.slice p2 n2 c2]) qs[i]:=by
 obtain ⟨xs,-,d,a⟩:=h.at_ i hi
 have c:=d
 obtain ⟨p1,n1,c1,p2,n2,c2,e⟩:=d.shape
 have e:=congrArg Array.toList (Value.agg.inj e)
 dsimp only at e
 subst e
 have k:=a 0 _ rfl
 have l:=a 1 _ rfl
 have f:=a 2 _ rfl
 have m:=(List.getElem?_eq_some_iff.1 f).1
 refine ⟨_,p1,n1,c1,p2,n2,c2,by omega,?_,c⟩
 apply List.ext_getElem?
 intro j
 rw [List.getElem?_take]
 by_cases g:j<3
 ·rw [if_pos g,List.getElem?_drop]
  have:j=0\/j=1\/j=2:=by omega
  rcases this with rfl|rfl|rfl
  ·exact k
  ·exact l
  ·exact f
 ·rw [if_neg g,List.getElem?_eq_none (by simp;omega)]
theorem Hb {a b:Rat}:fE a b<0↔a<b:=by
 rcases l_ a b with ⟨h,e⟩|⟨h,e⟩|⟨h,e⟩<;>rw [e]<;>constructor<;>intro c<;>first|exact h|omega|(exfalso;grind)
theorem M8 {V:View}{xs:List Value}{q:Rat}(h:RQ V (.agg xs.toArray) q):∀v∈xs,v.oneCell'=true:=by
 obtain ⟨p,n,c,b,d,e,ex⟩:=h.shape
 have ex:=congrArg Array.toList (Value.agg.inj ex)
 dsimp only at ex
 subst ex
 intro v a
 simp only [List.mem_cons,List.not_mem_nil,or_false] at a
 rcases a with rfl|rfl|rfl<;>rfl
end Go.Proofs.Tryz
namespace Go.Proofs.Tryz
open Go.Big
section
variable {α:Type}
structure Ord (c:α->α->Int):Prop where
 NH:∀a b,c a b<0->¬c b a<0
 tr:∀a b d,¬c a b<0->¬c b d<0->¬c a d<0
variable {c:α->α->Int}
theorem Ord.le (h:Ord c){a b:α}(l:c a b<0):¬c b a<0:=h.NH a b l
theorem Ord.refl (h:Ord c)(a:α):¬c a a<0:=fun l=>h.NH a a l l
def rC (d:α)(l:List α)(i j:Nat):List α:=(l.set i (l.getD j d)).set j (l.getD i d)
variable {d:α}
theorem oV {l:List α}{i j:Nat}:(rC d l i j).length=l.length:=by simp [rC]
theorem oo {l:List α}{i k:Nat}{x:α}(hi:i<l.length):(l.set i x).getD k d=if k=i then x else l.getD k d:=by
 simp only [List.getD_eq_getElem?_getD,List.getElem?_set]
 by_cases h:k=i
 ·subst h;simp [hi]
 ·have:¬i=k:=fun e=>h e.symm
  simp [h,this]
theorem ny {l:List α}{i j k:Nat}(hi:i<l.length)(hj:j<l.length):(rC d l i j).getD k d=if k=j then l.getD i d else if k=i then l.getD j d else l.getD k d:=by
 unfold rC
 rw [oo (by simpa using hj),oo hi]
theorem IY {l:List α}{i j:Nat}(hi:i<l.length)(hj:j<l.length):(rC d l i j).Perm l:=by
 have h:=Array.swap_perm (xs:=l.toArray) (i:=i) (j:=j) (by simpa using hi) (by simpa using hj)
 have e:(l.toArray.swap i j (by simpa using hi) (by simpa using hj)).toList=rC d l i j:=by
  simp [Array.swap,rC,List.getD_eq_getElem?_getD,hi,hj]
 have:=h.toList
 rw [e] at this
 simpa using this
structure qF (d:α) (l m:List α) (a b:Nat):Prop where
 len:m.length=l.length
 out:∀k,¬(a<=k/\k<b)->m.getD k d=l.getD k d
 mem:∀k,a<=k->k<b->∃k',a<=k'/\k'<b/\m.getD k d=l.getD k' d
 perm:m.Perm l
theorem qF.refl (l:List α)(a b:Nat):qF d l l a b:=⟨rfl,fun _ _=>rfl,fun k h c=>⟨k,h,c,rfl⟩,.refl _⟩
theorem qF.trans {l m n:List α}{a b:Nat}(h:qF d l m a b)(g:qF d m n a b):qF d l n a b:=
 ⟨g.len.trans h.len,fun k f=>(g.out k f).trans (h.out k f),fun k i j=>by
  obtain ⟨o,p,q,e⟩:=g.mem k i j
  obtain ⟨c,r,s,t⟩:=h.mem o p q
  exact ⟨c,r,s,e.trans t⟩,g.perm.trans h.perm⟩
theorem qF.wide {l m:List α}{a b a' b':Nat}(h:qF d l m a b)(ha:a'<=a)(hb:b<=b'):qF d l m a' b':=
 ⟨h.len,fun k c=>h.out k (by omega),fun k f g=>by
  by_cases c:a<=k/\k<b
  ·obtain ⟨i,j,n,e⟩:=h.mem k c.1 c.2
   exact ⟨i,by omega,by omega,e⟩
  ·exact ⟨k,f,g,h.out k c⟩,h.perm⟩
theorem qF.rC {l:List α}{a b i j:Nat}(hi:a<=i)(hi':i<b)(hj:a<=j)(hj':j<b)(hb:b<=l.length):qF d l (rC d l i j) a b:=by
 refine ⟨oV,fun k f=>?_,fun k c e=>?_,IY (by omega) (by omega)⟩
 ·rw [ny (by omega) (by omega),if_neg (by omega),if_neg (by omega)]
 ·rw [ny (by omega) (by omega)]
  split
  ·exact ⟨i,hi,hi',rfl⟩
  ·split
   ·exact ⟨j,hj,hj',rfl⟩
   ·exact ⟨k,c,e,rfl⟩
def vQ (c:α->α->Int)(d:α)(l:List α)(a b:Nat):Prop:=∀p q,a<=p->p<q->q<b->¬c (l.getD q d) (l.getD p d)<0
theorem vQ.short {l:List α}{a b:Nat}(h:b<=a+1):vQ c d l a b:=fun p q e f g=>by omega
theorem vQ.step (ho:Ord c){l:List α}{a b:Nat}(h:vQ c d l a b)(h0:a<b)(hb:¬c (l.getD b d) (l.getD (b-1) d)<0):vQ c d l a (b+1):=by
 intro p q f g j
 by_cases e:q=b
 ·subst e
  by_cases i:p=q-1
  ·subst i;exact hb
  ·exact ho.tr _ _ _ hb (h p (q-1) f (by omega) (by omega))
 ·exact h p q f g (by omega)
def LH (c:α->α->Int)(d:α)(l:List α)(a i j:Nat):Prop:=∀p q,a<=p->p<q->q<=i->q≠j->¬c (l.getD q d) (l.getD p d)<0
theorem LH.start {l:List α}{a i:Nat}(h:vQ c d l a i):LH c d l a i i:=fun p q b e f g=>h p q b e (by omega)
theorem LH.done (ho:Ord c){l:List α}{a i j:Nat}(h:LH c d l a i j)(hji:j<=i)(hs:j<=a\/¬c (l.getD j d) (l.getD (j-1) d)<0):vQ c d l a (i+1):=by
 intro p q b f k
 by_cases e:q=j
 ·subst e
  rcases hs with hs|hs
  ·omega
  ·by_cases g:p=q-1
   ·subst g;exact hs
   ·exact ho.tr _ _ _ hs (h p (q-1) b (by omega) (by omega) (by omega))
 ·exact h p q b f (by omega) e
theorem LH.move (ho:Ord c){l:List α}{a i j:Nat}(h:LH c d l a i j)(hj:a<j)(hji:j<=i)(hi:i<l.length)(hl:c (l.getD j d) (l.getD (j-1) d)<0):LH c d (rC d l j (j-1)) a i (j-1):=by
 intro p q f n e o
 have g:=fun k=>ny (d:=d) (l:=l) (i:=j) (j:=j-1) (k:=k) (by omega) (by omega)
 rw [g,g]
 by_cases eq:q=j
 ·subst eq
  rw [if_neg (by omega),if_pos rfl]
  by_cases b:p=q-1
  ·rw [if_pos b];exact ho.NH _ _ hl
  ·rw [if_neg b,if_neg (by omega)];exact h p (q-1) f (by omega) (by omega) (by omega)
 ·rw [if_neg o,if_neg eq]
  by_cases b:p=j-1
  ·rw [if_pos b];exact h j q (by omega) (by omega) e eq
  ·rw [if_neg b]
   by_cases m:p=j
   ·rw [if_pos m];exact h (j-1) q (by omega) (by omega) e eq
   ·rw [if_neg m];exact h p q f n e eq
def Hp (c:α->α->Int)(d:α)(l:List α)(f lo hi:Nat)(r:Option Nat):Prop:=
 (∀i k,lo<=i->(k=2*i+1\/k=2*i+2)->k<hi->r≠some i->¬c (l.getD (f+i) d) (l.getD (f+k) d)<0) /\
 (∀i j k,r=some j->lo<=i->(j=2*i+1\/j=2*i+2)->(k=2*j+1\/k=2*j+2)->k<hi->¬c (l.getD (f+i) d) (l.getD (f+k) d)<0)
theorem Hp.top (ho:Ord c){l:List α}{f hi:Nat}(h:Hp c d l f 0 hi none):∀k,k<hi->¬c (l.getD f d) (l.getD (f+k) d)<0:=by
 intro k
 induction k using Nat.strongRecOn with
 | ind k ih=>
  intro a
  by_cases b:k=0
  ·subst b;exact ho.refl _
  ·exact ho.tr _ _ _ (ih ((k-1) / 2) (by omega) (by omega)) (h.1 ((k-1) / 2) k (by omega) (by omega) a (by simp))
theorem Hp.leaf {l:List α}{f lo hi r:Nat}(h:Hp c d l f lo hi (some r))(hr:hi<=2*r+1):Hp c d l f lo hi none:=
 ⟨fun i k a b g _=>by
  by_cases e:r=i
  ·omega
  ·exact h.1 i k a b g (by simpa using e),fun i j k e=>by cases e⟩
theorem Hp.stop (ho:Ord c){l:List α}{f lo hi r k:Nat}(h:Hp c d l f lo hi (some r))(hk:k=2*r+1\/k=2*r+2)(hm:∀k',(k'=2*r+1\/k'=2*r+2)->k'<hi->¬c (l.getD (f+k) d) (l.getD (f+k') d)<0)
  (hs:¬c (l.getD (f+r) d) (l.getD (f+k) d)<0):Hp c d l f lo hi none:=
 ⟨fun i k' g a b _=>by
  by_cases e:r=i
  ·subst e;exact ho.tr _ _ _ hs (hm k' a b)
  ·exact h.1 i k' g a b (by simpa using e),fun i j k e=>by cases e⟩
theorem Hp.down (ho:Ord c){l:List α}{f lo hi r k:Nat}(h:Hp c d l f lo hi (some r))(hlo:lo<=r)(hl:f+hi<=l.length)(hk:k=2*r+1\/k=2*r+2)(hkh:k<hi)(hm:∀k',(k'=2*r+1\/k'=2*r+2)->k'<hi->¬c (l.getD (f+k) d) (l.getD (f+k') d)<0)
  (hs:c (l.getD (f+r) d) (l.getD (f+k) d)<0):Hp c d (rC d l (f+r) (f+k)) f lo hi (some k):=by
 have a:=fun x=>ny (d:=d) (l:=l) (i:=f+r) (j:=f+k) (k:=x) (by omega) (by omega)
 refine ⟨fun i k' n b g m=>?_,fun i j k' e n b g m=>?_⟩
 ·have m:¬i=k:=fun e=>m (by rw [e])
  rw [a,a,if_neg (show ¬f+i=f+k by omega)]
  by_cases p:i=r
  ·subst p
   rw [if_pos rfl]
   by_cases o:k'=k
   ·rw [if_pos (by omega)];exact ho.NH _ _ hs
   ·rw [if_neg (by omega),if_neg (by omega)];exact hm k' b g
  ·rw [if_neg (by omega)]
   by_cases o:k'=r
   ·subst o
    rw [if_neg (by omega),if_pos rfl]
    exact h.2 i k' k rfl n b hk hkh
   ·rw [if_neg (by omega),if_neg (by omega)]
    exact h.1 i k' n b g (by simp;omega)
 ·cases e
  rw [a,a]
  have:i=r:=by omega
  subst this
  rw [if_neg (by omega),if_pos rfl,if_neg (by omega),if_neg (by omega)]
  exact h.1 k k' (by omega) g m (by simp;omega)
theorem Hp.more {l:List α}{f lo hi:Nat}(h:Hp c d l f (lo+1) hi none):Hp c d l f lo hi (some lo):=
 ⟨fun i k m a b g=>h.1 i k (by have:¬lo=i:=fun e=>g (by rw [e]);omega) a b (by simp),fun i j k e m a b g=>by cases e;omega⟩
def Sep (c:α->α->Int)(d:α)(l:List α)(a m b:Nat):Prop:=∀p q,a<=p->p<m->m<=q->q<b->¬c (l.getD q d) (l.getD p d)<0
theorem qF.sep {l m:List α}{a b x y z:Nat}(h:qF d l m a b)(hs:Sep c d l x y z)(hc:(x<=a/\b<=y)\/(y<=a/\b<=z)\/b<=x\/z<=a):Sep c d m x y z:=by
 intro p q r s t u
 have key:∀k,∃f,m.getD k d=l.getD f d/\(k=f\/a<=k/\k<b/\a<=f/\f<b):=fun k=>by
  by_cases g:a<=k/\k<b
  ·obtain ⟨f,i,j,e⟩:=h.mem k g.1 g.2
   exact ⟨f,e,.inr ⟨g.1,g.2,i,j⟩⟩
  ·exact ⟨k,h.out k g,.inl rfl⟩
 obtain ⟨n,i,j⟩:=key p
 obtain ⟨o,f1,f2⟩:=key q
 rw [i,f1]
 exact hs n o (by omega) (by omega) (by omega) (by omega)
theorem qF.asc {l m:List α}{a b x y:Nat}(h:qF d l m a b)(hs:vQ c d l x y)(hc:y<=a\/b<=x):vQ c d m x y:=by
 intro p q e f g
 rw [h.out p (by omega),h.out q (by omega)]
 exact hs p q e f g
theorem vQ.join {l:List α}{a m b:Nat}(h1:vQ c d l a m)(h2:vQ c d l m b)(h3:Sep c d l a m b):vQ c d l a b:=by
 intro p q e f g
 by_cases h:q<m
 ·exact h1 p q e f h
 ·by_cases i:m<=p
  ·exact h2 p q i f g
  ·exact h3 p q e (by omega) (by omega) g
end
end Go.Proofs.Tryz
