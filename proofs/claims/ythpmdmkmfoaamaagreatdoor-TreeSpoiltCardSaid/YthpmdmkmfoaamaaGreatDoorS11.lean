import Derived.Test.YthpmdmkmfoaamaaGreatDoorS10
import Derived.Test.YthpmdmkmfoaamaaGreatDoorS7
set_option linter.unusedVariables false
open Go.IntKind (i64 u64 u32)
namespace Go.Proofs.Tryz
open Go.br Go.dS
theorem lC {V:View}{p:OA}{n c x:Nat}(h:RN V p n c x) :
  ab prog 76 #[.bool false,.slice p n c] V fun r V'=>RI V' r (x:Int):=by
 have:=dk false h
 rwa [if_neg (by decide)] at this
theorem bN {x:Rat}{k:Nat}(h:Sz k x):(ag x.num.natAbs).length<=k/\(ag x.den).length<=k/\(ag (x.den:Int).natAbs).length<=k:=⟨ao h.1,ao h.2,ao h.2⟩
theorem g_ {V:View}{v w:Value}{x y:Rat}(hx:RQ V v x)(hy:RQ V w y){k m:Nat}(hk:Sz k x)(hm:Sz m y)(hkm:k+m<274877906944) :
  ab prog 24 #[v,w] V fun r V'=>RQ V' r (x+y):=by
 obtain ⟨p,n,c,p',n',c',rfl,hx1,hx2⟩:=hx
 obtain ⟨q,i,e,q',i',e',rfl,hy1,hy2⟩:=hy
 have hlx:=iN hx2
 have sf:=iN hy2
 obtain ⟨b1,b2,b3,b4⟩:=nY hk hm
 obtain ⟨d1,d2,d3⟩:=bN hk
 obtain ⟨d4,d5,d6⟩:=bN hm
 have hxy:x+y=mkRat (x.num*y.den+y.num*x.den) (x.den*y.den):=Rat.add_def' x y
 refine (fun tail=>wj _ p n c p' n' c' _ q i e q' i' e' V _ ⟨fun h0=>⟨fun h1 V1 l1=>?_,fun _=>tail⟩,fun _=>tail⟩) ?_
 ·clear tail
  have h0:x.den=1:=hlx.1 (by simp at h0;omega)
  have h1:y.den=1:=sf.1 (by simp at h1;omega)
  refine (rR x.num y.num (hx1.le l1) (hy1.le l1) (by omega) (by omega)).mono ?_
  rintro r V2 l2 ⟨p2,n2,c2,rfl,g⟩
  have e1:x+y=((x.num+y.num:Int):Rat):=by
   rw [hxy,h0,h1];simp [Rat.mkRat_one]
  rw [e1]
  exact ⟨_,_,_,_,rfl,fun V3 l3=>kQ (z:=x.num+y.num) (d:=1) rfl rfl (g.le l3) RD.nil rfl⟩
 ·intro V1 l1
  refine (cN y _ (hy2.le l1)).mono ?_
  rintro r V2 l2 ⟨p1,n1,c1,rfl,g1⟩
  refine ⟨_,_,_,rfl,fun V3 l3=>(lC (g1.le l3)).mono ?_⟩
  rintro r V4 l4 ⟨p3,n3,c3,rfl,g3⟩
  have xp:=l1.trans (l2.trans (l3.trans l4))
  refine ⟨_,_,_,_,rfl,fun V5 l5=>(jk x.num y.den (hx1.le (xp.trans l5)) (g3.le l5) (by omega)).mono ?_⟩
  rintro r V6 l6 ⟨p5,n5,c5,rfl,g5⟩
  have zv:=xp.trans (l5.trans l6)
  refine ⟨_,_,_,_,rfl,fun V7 l7=>(cN x _ (hx2.le (zv.trans l7))).mono ?_⟩
  rintro r V8 l8 ⟨p7,n7,c7,rfl,g7⟩
  have HK:=zv.trans (l7.trans l8)
  refine ⟨_,_,_,rfl,fun V9 l9=>(lC (g7.le l9)).mono ?_⟩
  rintro r iC l10 ⟨p9,n9,c9,rfl,g9⟩
  have Gk:=HK.trans (l9.trans l10)
  refine ⟨_,_,_,_,rfl,fun mf cB=>(jk y.num x.den (hy1.le (Gk.trans cB)) (g9.le cB) (by omega)).mono ?_⟩
  rintro r mg cX ⟨Nj,n11,c11,rfl,g11⟩
  have tu:=Gk.trans (cB.trans cX)
  refine ⟨_,_,_,_,rfl,fun nW cZ=>(rR _ _ (g5.le (l7.trans (l8.trans (l9.trans (l10.trans (cB.trans (cX.trans cZ))))))) (g11.le cZ) (Nat.le_trans (ao b1) (by omega)) (Nat.le_trans (ao b2) (by omega))).mono ?_⟩
  rintro r mU dL ⟨N9,n13,c13,rfl,g13⟩
  have A3:=tu.trans (cZ.trans dL)
  refine ⟨_,_,_,_,rfl,fun mh eC=>(cN x _ (hx2.le (A3.trans eC))).mono ?_⟩
  rintro r nX dM ⟨N_,n15,c15,rfl,g15⟩
  have EH:=A3.trans (eC.trans dM)
  refine ⟨_,_,_,rfl,fun nJ dR=>(cN y _ (hy2.le (EH.trans dR))).mono ?_⟩
  rintro r ry fu ⟨Oa,n17,c17,rfl,g17⟩
  refine ⟨_,_,_,rfl,fun wE gG=>(bX (g15.le (dR.trans (fu.trans gG))) (g17.le gG) (by omega)).mono ?_⟩
  rintro r Al lj ⟨Ob,n19,c19,rfl,g19⟩
  rw [ae,ae] at g19
  refine ⟨_,_,_,rfl,fun ux iy=>(ot _ (g13.le (eC.trans (dM.trans (dR.trans (fu.trans (gG.trans (lj.trans iy))))))) (g19.le iy) (Nat.le_trans (ao b3) (by omega)) (Nat.le_trans (ao b4) (by omega)) (Nat.mul_ne_zero x.den_nz y.den_nz)).mono ?_⟩
  rw [hxy]
  rintro r yS lN ⟨Nk,n21,c21,Nl,n22,Mj,rfl,g21,g22⟩
  exact ⟨_,_,_,_,_,_,_,rfl,fun wJ jy=>⟨_,_,_,_,_,_,rfl,g21.le jy,g22.le jy⟩⟩
theorem zc {V:View}{v w:Value}{x y:Rat}(hx:RQ V v x)(hy:RQ V w y){k m:Nat}(hk:Sz k x)(hm:Sz m y)(hkm:k+m<274877906944) :
  ab prog 65 #[v,w] V fun r V'=>RQ V' r (x-y):=by
 have hx0:=hx
 obtain ⟨p,n,c,p',n',c',rfl,hx1,hx2⟩:=hx
 obtain ⟨q,i,e,q',i',e',rfl,hy1,hy2⟩:=hy
 refine yj _ p n c p' n' c' _ q i e q' i' e' V _ fun V1 l1=>(lB y (hy1.le l1) (hy2.le l1)).mono ?_
 rintro r V2 l2 h2
 obtain ⟨p1,n1,c1,p2,n2,c2,rfl,g1,g2⟩:=id h2
 refine ⟨_,_,_,_,_,_,_,rfl,fun V3 l3=>(g_ (hx0.le (l1.trans (l2.trans l3))) (h2.le l3) hk hm.neg hkm).mono ?_⟩
 rw [←Rat.sub_eq_add_neg]
 rintro r V4 l4 ⟨p3,n3,c3,p4,n4,c4,rfl,g3,g4⟩
 exact ⟨_,_,_,_,_,_,_,rfl,fun V5 l5=>⟨_,_,_,_,_,_,rfl,g3.le l5,g4.le l5⟩⟩
theorem yr {V:View}{v w:Value}{x y:Rat}(hx:RQ V v x)(hy:RQ V w y){k m:Nat}(hk:Sz k x)(hm:Sz m y)(hkm:k+m<274877906944) :
  ab prog 68 #[v,w] V fun r V'=>r=.int .i64 (fW x y):=by
 have hx0:=hx
 have hy0:=hy
 obtain ⟨p,n,c,p',n',c',rfl,hx1,hx2⟩:=hx
 obtain ⟨q,i,e,q',i',e',rfl,hy1,hy2⟩:=hy
 refine B5 _ p n c p' n' c' _ q i e q' i' e' V _ fun V1 l1=>(zc (hx0.le l1) (hy0.le l1) hk hm hkm).mono ?_
 rintro r V2 l2 ⟨p1,n1,c1,p2,n2,c2,rfl,g1,g2⟩
 refine ⟨_,_,_,_,_,_,_,rfl,fun V3 l3=>(Cv (x-y) (g1.le l3)).mono ?_⟩
 rintro r V4 l4 rfl
 exact ⟨_,rfl,fun V5 l5=>rfl⟩
theorem cG {V:View}{v w:Value}{x y:Rat}(hx:RQ V v x)(hy:RQ V w y){k m:Nat}(hk:Sz k x)(hm:Sz m y)(hkm:k+m<274877906944) :
  ab prog 96 #[v,w] V fun r V'=>RQ V' r (x*y):=by
 obtain ⟨p,n,c,p',n',c',rfl,hx1,hx2⟩:=hx
 obtain ⟨q,i,e,q',i',e',rfl,hy1,hy2⟩:=hy
 have hlx:=iN hx2
 have sf:=iN hy2
 obtain ⟨d1,d2,d3⟩:=bN hk
 obtain ⟨d4,d5,d6⟩:=bN hm
 have hxy:x*y=mkRat (x.num*y.num) (x.den*y.den):=Rat.mul_def' x y
 have b1:(x.num*y.num).natAbs<2^(k+m):=by rw [Int.natAbs_mul];exact bJ hk.1 hm.1
 have b2:x.den*y.den<2^(k+m):=bJ hk.2 hm.2
 refine (fun tail=>tX _ p n c p' n' c' _ q i e q' i' e' V _ ⟨fun h0=>⟨fun h1 V1 l1=>?_,fun _=>tail⟩,fun _=>tail⟩) ?_
 ·clear tail
  have h0:x.den=1:=hlx.1 (by simp at h0;omega)
  have h1:y.den=1:=sf.1 (by simp at h1;omega)
  refine (jk x.num y.num (hx1.le l1) (hy1.le l1) (by omega)).mono ?_
  rintro r V2 l2 ⟨p2,n2,c2,rfl,g⟩
  have e1:x*y=((x.num*y.num:Int):Rat):=by
   rw [hxy,h0,h1];simp [Rat.mkRat_one]
  rw [e1]
  exact ⟨_,_,_,_,rfl,fun V3 l3=>kQ (z:=x.num*y.num) (d:=1) rfl rfl (g.le l3) RD.nil rfl⟩
 ·intro V1 l1
  refine (jk x.num y.num (hx1.le l1) (hy1.le l1) (by omega)).mono ?_
  rintro r V2 l2 ⟨p2,n2,c2,rfl,g2⟩
  refine ⟨_,_,_,_,rfl,fun V3 l3=>(cN x _ (hx2.le (l1.trans (l2.trans l3)))).mono ?_⟩
  rintro r V4 l4 ⟨p4,n4,c4,rfl,g4⟩
  refine ⟨_,_,_,rfl,fun V5 l5=>(cN y _ (hy2.le (l1.trans (l2.trans (l3.trans (l4.trans l5)))))).mono ?_⟩
  rintro r V6 l6 ⟨p6,n6,c6,rfl,g6⟩
  refine ⟨_,_,_,rfl,fun V7 l7=>(bX (g4.le (l5.trans (l6.trans l7))) (g6.le l7) (by omega)).mono ?_⟩
  rintro r V8 l8 ⟨p8,n8,c8,rfl,g8⟩
  rw [ae,ae] at g8
  refine ⟨_,_,_,rfl,fun V9 l9=>(ot _ (g2.le (l3.trans (l4.trans (l5.trans (l6.trans (l7.trans (l8.trans l9))))))) (g8.le l9) (Nat.le_trans (ao b1) (by omega)) (Nat.le_trans (ao b2) (by omega)) (Nat.mul_ne_zero x.den_nz y.den_nz)).mono ?_⟩
  rw [hxy]
  rintro r yS lN ⟨Nk,n21,c21,Nl,n22,Mj,rfl,g21,g22⟩
  exact ⟨_,_,_,_,_,_,_,rfl,fun wJ jy=>⟨_,_,_,_,_,_,rfl,g21.le jy,g22.le jy⟩⟩
end Go.Proofs.Tryz
namespace Go.br
open Go.dS
def RP (V:View)(v:Value)(x y:Rat):Prop:=∃p n c p' n' c' q m e q' m' e',v=.agg #[.bool (decide (x.num<0)),.slice p n c,.slice p' n' c',.bool (decide (y.num<0)),.slice q m e,.slice q' m' e'] /\
 RQ V (.agg #[.bool (decide (x.num<0)),.slice p n c,.slice p' n' c']) x/\RQ V (.agg #[.bool (decide (y.num<0)),.slice q m e,.slice q' m' e']) y
theorem RP.le {V V':View}{v:Value}{x y:Rat}(h:RP V v x y)(l:V.Le V'):RP V' v x y:=by
 obtain ⟨p,n,c,p',n',c',q,m,e,q',m',e',rfl,h1,h2⟩:=h
 exact ⟨p,n,c,p',n',c',q,m,e,q',m',e',rfl,h1.le l,h2.le l⟩
theorem RQ.shape {V:View}{v:Value}{q:Rat}(h:RQ V v q):∃p n c p' n' c',v=.agg #[.bool (decide (q.num<0)),.slice p n c,.slice p' n' c']:=by
 obtain ⟨p,n,c,p',n',c',e,-⟩:=h;exact ⟨_,_,_,_,_,_,e⟩
end Go.br
namespace Go.Proofs.Tryz
open Go.br Go.dS
theorem uM {V:View}{p:OA}{n c:Nat}{ds:List Nat}(h:RD V p n c ds)(hm:ds.length<=1099511627776) :
  ab prog 105 #[.slice p n c] V fun r V'=>∃p1 n1 c1,r=.slice p1 n1 c1/\RD V' p1 n1 c1 ds:=by
 have hl:=h.len
 refine tZ p n c V _ ⟨aA ds,h.sl,by simp [hl],by omega,by omega,by simp,by simp [hl],?_,?_⟩
 ·intro v hv
  simp only [aA,List.mem_map] at hv
  obtain ⟨d,-,rfl⟩:=hv
  rfl
 ·intro bk J sp c' h1 h2 V1 l1 b hb
  refine ⟨_,_,_,rfl,?_⟩
  simp only [Nat.zero_add,Nat.zero_mul,List.take_zero,List.nil_append] at hb h1 ⊢
  exact copied h.cD hl h1 hb
theorem iJ {V:View}{v:Value}{z:Int}(h:RI V v z)(hm:(ag z.natAbs).length<=1099511627776) :
  ab prog 104 #[v] V fun r V'=>RI V' r z:=by
 obtain ⟨p,n,c,rfl,h⟩:=h
 refine tY _ p n c V _ fun V1 l1=>(uM (h.le l1) hm).mono ?_
 rintro r V2 l2 ⟨p1,n1,c1,rfl,g⟩
 exact ⟨_,_,_,rfl,fun V3 l3=>⟨_,_,_,rfl,g.le l3⟩⟩
theorem hJ {V:View}(x y:Int)(h0:-9223372036854775808<=x)(h1:x<=9223372036854775807)(h2:-9223372036854775808<=y)(h3:y<=9223372036854775807) :
  ab prog 51 #[.int .i64 x,.int .i64 y] V fun r V'=>RP V' r (x:Rat) (y:Rat):=by
 refine wC x y V _ fun V1 l1=>(ku x h0 h1).mono ?_
 rintro r V2 l2 hx
 obtain ⟨p,n,c,p',n',c',rfl⟩:=hx.shape
 refine ⟨_,_,_,_,_,_,_,rfl,fun V3 l3=>(ku y h2 h3).mono ?_⟩
 rintro r V4 l4 hy
 obtain ⟨q,m,e,q',m',e',rfl⟩:=hy.shape
 exact ⟨_,_,_,_,_,_,_,rfl,fun V5 l5=>⟨_,_,_,_,_,_,_,_,_,_,_,_,rfl,hx.le (l3.trans (l4.trans l5)),hy.le l5⟩⟩
theorem mq {V:View}{u v w:Value}{px py c qx qy:Rat}(hp:RP V u px py)(hc:RQ V v c)(hq:RP V w qx qy){k m:Nat}(s1:Sz k px)(s2:Sz k py)(s3:Sz m c)(s4:Sz m qx)(s5:Sz m qy)(hkm:k+(m+m+1)<274877906944) :
  ab prog 62 #[u,v,w] V fun r V'=>RP V' r (px+c*qx) (py+c*qy):=by
 obtain ⟨p1,n1,c1,p2,n2,c2,p3,n3,c3,p4,n4,c4,rfl,hp1,hp2⟩:=hp
 obtain ⟨p5,n5,c5,p6,n6,c6,rfl⟩:=hc.shape
 obtain ⟨q1,m1,e1,q2,m2,e2,q3,m3,e3,q4,m4,e4,rfl,hq1,hq2⟩:=hq
 refine t_ _ p1 n1 c1 p2 n2 c2 _ p3 n3 c3 p4 n4 c4 _ p5 n5 c5 p6 n6 c6 _ q1 m1 e1 q2 m2 e2 _ q3 m3 e3 q4 m4 e4 V _ fun V1 l1=>(cG (hc.le l1) (hq1.le l1) s3 s4 (by omega)).mono ?_
 rintro r V2 l2 g1
 obtain ⟨a1,a2,a3,a4,a5,a6,rfl⟩:=g1.shape
 refine ⟨_,_,_,_,_,_,_,rfl,fun V3 l3=>(g_ (hp1.le (l1.trans (l2.trans l3))) (g1.le l3) s1 (s3.mul s4) (by omega)).mono ?_⟩
 rintro r V4 l4 g2
 obtain ⟨b1,b2,b3,b4,b5,b6,rfl⟩:=g2.shape
 have xp:=l1.trans (l2.trans (l3.trans l4))
 refine ⟨_,_,_,_,_,_,_,rfl,fun V5 l5=>(cG (hc.le (xp.trans l5)) (hq2.le (xp.trans l5)) s3 s5 (by omega)).mono ?_⟩
 rintro r V6 l6 g3
 obtain ⟨d1,d2,d3,d4,d5,d6,rfl⟩:=g3.shape
 refine ⟨_,_,_,_,_,_,_,rfl,fun V7 l7=>(g_ (hp2.le (xp.trans (l5.trans (l6.trans l7)))) (g3.le l7) s2 (s3.mul s5) (by omega)).mono ?_⟩
 rintro r V8 l8 g4
 obtain ⟨f1,f2,f3,f4,f5,f6,rfl⟩:=g4.shape
 exact ⟨_,_,_,_,_,_,_,rfl,fun V9 l9=>⟨_,_,_,_,_,_,_,_,_,_,_,_,rfl,g2.le (l5.trans (l6.trans (l7.trans (l8.trans l9)))),g4.le l9⟩⟩
theorem Di:Sz 1 ((-1:Int):Rat):=by unfold Sz;decide
theorem uN {V:View}{u w:Value}{px py qx qy:Rat}(hp:RP V u px py)(hq:RP V w qx qy){k m:Nat}(s1:Sz k px)(s2:Sz k py)(s4:Sz m qx)(s5:Sz m qy)(hm:1<=m)(hkm:k+(m+m+1)<274877906944) :
  ab prog 106 #[u,w] V fun r V'=>RP V' r (px-qx) (py-qy):=by
 have hp0:=hp
 have hq0:=hq
 obtain ⟨p1,n1,c1,p2,n2,c2,p3,n3,c3,p4,n4,c4,rfl,-,-⟩:=hp
 obtain ⟨q1,m1,e1,q2,m2,e2,q3,m3,e3,q4,m4,e4,rfl,-,-⟩:=hq
 refine ua _ p1 n1 c1 p2 n2 c2 _ p3 n3 c3 p4 n4 c4 _ q1 m1 e1 q2 m2 e2 _ q3 m3 e3 q4 m4 e4 V _ fun V1 l1=>(ku (-1) (by omega) (by omega)).mono ?_
 rintro r V2 l2 g1
 obtain ⟨a1,a2,a3,a4,a5,a6,rfl⟩:=g1.shape
 have Ai:=l1.trans l2
 refine ⟨_,_,_,_,_,_,_,rfl,fun V3 l3=>(mq (hp0.le (Ai.trans l3)) (g1.le l3) (hq0.le (Ai.trans l3)) s1 s2 (Di.mono hm) s4 s5 hkm).mono ?_⟩
 have e1:∀a b:Rat,a+((-1:Int):Rat)*b=a-b:=by
  intro a b
  have:((-1:Int):Rat)=-1:=rfl
  rw [this,Rat.neg_mul,Rat.one_mul,Rat.sub_eq_add_neg]
 rw [e1,e1]
 rintro r V4 l4 ⟨b1,b2,b3,b4,b5,b6,b7,b8,b9,b10,b11,b12,rfl,g2,g3⟩
 exact ⟨_,_,_,_,_,_,_,_,_,_,_,_,_,_,rfl,fun V5 l5=>⟨_,_,_,_,_,_,_,_,_,_,_,_,rfl,g2.le l5,g3.le l5⟩⟩
theorem sW {V:View}{u w:Value}{px py qx qy:Rat}(hp:RP V u px py)(hq:RP V w qx qy){k m:Nat}(s1:Sz k px)(s2:Sz k py)(s4:Sz m qx)(s5:Sz m qy)(hkm:k+m<274877906944) :
  ab prog 116 #[u,w] V fun r V'=>r=.bool (decide (px=qx/\py=qy)):=by
 obtain ⟨p1,n1,c1,p2,n2,c2,p3,n3,c3,p4,n4,c4,rfl,hp1,hp2⟩:=hp
 obtain ⟨q1,m1,e1,q2,m2,e2,q3,m3,e3,q4,m4,e4,rfl,hq1,hq2⟩:=hq
 refine qY _ p1 n1 c1 p2 n2 c2 _ p3 n3 c3 p4 n4 c4 _ q1 m1 e1 q2 m2 e2 _ q3 m3 e3 q4 m4 e4 V _ fun V1 l1=>(yr (hp1.le l1) (hq1.le l1) s1 s4 hkm).mono ?_
 rintro r V2 l2 rfl
 refine ⟨_,rfl,fun h0 V3 l3=>(yr (hp2.le (l1.trans (l2.trans l3))) (hq2.le (l1.trans (l2.trans l3))) s2 s5 hkm).mono ?_,fun h0 V3 l3=>?_⟩
 ·have h0:px=qx:=jl.2 (by simpa using h0)
  rintro r V4 l4 rfl
  refine ⟨_,rfl,fun V5 l5=>?_⟩
  congr 1
  rw [Bool.eq_iff_iff,decide_eq_true_eq,beq_iff_eq,←jl]
  exact ⟨fun h=>⟨h0,h⟩,fun h=>h.2⟩
 ·have h0:¬px=qx:=fun e=>by rw [jl.1 e] at h0;simp at h0
  rw [decide_eq_false fun h=>h0 h.1]
end Go.Proofs.Tryz
namespace Go.br
open Go.dS
def RL (V:View)(v:Value)(a b c:Int):Prop:=∃p n s p' n' s' q m e,v=.agg #[.bool (decide (a<0)),.slice p n s,.bool (decide (b<0)),.slice p' n' s',.bool (decide (c<0)),.slice q m e] /\
 RD V p n s (ag a.natAbs)/\RD V p' n' s' (ag b.natAbs)/\RD V q m e (ag c.natAbs)
theorem RL.le {V V':View}{v:Value}{a b c:Int}(h:RL V v a b c)(l:V.Le V'):RL V' v a b c:=by
 obtain ⟨p,n,s,p',n',s',q,m,e,rfl,h1,h2,h3⟩:=h
 exact ⟨p,n,s,p',n',s',q,m,e,rfl,h1.le l,h2.le l,h3.le l⟩
end Go.br
namespace Go.Proofs.Tryz
open Go.br Go.dS
theorem qz {V:View}{p q:OA}{n c m e:Nat}{xs ys:List Nat}(hx:RD V p n c xs)(hy:RD V q m e ys)(hm:xs.length<=1099511627776) :
  ab prog 184 #[.slice p n c,.slice q m e] V fun r V'=>r=.bool (decide (xs=ys)):=by
 have hlx:=hx.len
 have sf:=hy.len
 refine qc p n c q m e V _ ⟨fun h0 V1 l1=>?_,fun h0=>?_⟩
 ·have h0:n≠m:=by simp at h0;omega
  rw [decide_eq_false fun h=>h0 (by rw [hlx,sf,h])]
 ·have h0:n=m:=by simp at h0;omega
  refine ⟨fun z V'=>0<=z/\z<=n/\xs.take z.toNat=ys.take z.toNat,fun z=>n-z.toNat,⟨0,by (try dsimp only);and_intros<;>first|exact True.intro|rfl,by (try dsimp only);omega,by (try dsimp only);omega,rfl⟩,?_⟩
  rintro i V2 l2 ⟨hi0,hi1,ht⟩
  dsimp only at hi1 ht ⊢
  obtain ⟨i,rfl⟩:=Int.eq_ofNat_of_zero_le hi0
  simp only [Int.toNat_natCast] at ht
  refine ⟨by trivial,fun h3=>?_,fun h3 V4 l4=>?_⟩
  ·have h3:i<n:=by simpa using h3
   refine (hx.le l2).rd i rfl (by omega) ((hy.le l2).rd i rfl (by omega) ⟨fun h4 V8 l8=>?_,fun h4=>?_⟩)
   ·have h4:xs[i]≠ys[i]:=by simp at h4;omega
    rw [decide_eq_false fun h=>h4 (by subst h;rfl)]
   ·have h4:xs[i]=ys[i]:=by simp at h4;omega
    have w:i64.wrap ((i:Int)+1)=((i+1:Nat):Int):=by rw [aD (by omega)];omega
    simp only [w]
    refine ⟨((i+1:Nat):Int),?_,by (try dsimp only);and_intros<;>first|exact True.intro|rfl,by (try dsimp only);omega,by (try dsimp only);omega,?_⟩
    ·(try dsimp only);omega
    ·(try dsimp only)
     simp only [Int.toNat_natCast]
     rw [List.take_succ_eq_append_getElem (by omega),List.take_succ_eq_append_getElem (l:=ys) (by omega),ht,h4]
  ·have h3:i=n:=by simp at h3;omega
   rw [List.take_of_length_le (by omega),List.take_of_length_le (by omega)] at ht
   rw [decide_eq_true ht]
theorem BV {z w:Int}:(decide (z<0)==decide (w<0))=true->(decide (ag z.natAbs=ag w.natAbs)=decide (z=w)):=by
 intro h
 have h1:(z<0↔w<0):=by simpa using h
 rw [Bool.eq_iff_iff,decide_eq_true_eq,decide_eq_true_eq]
 constructor
 ·intro h2
  have:=kz h2
  omega
 ·intro h2;rw [h2]
theorem fU {V:View}{z w:Int}{p q:OA}{n c m e:Nat}(hx:RD V p n c (ag z.natAbs))(hy:RD V q m e (ag w.natAbs))(hm:(ag z.natAbs).length<=1099511627776) :
  ab prog 144 #[.agg #[.bool (decide (z<0)),.slice p n c],.agg #[.bool (decide (w<0)),.slice q m e]] V fun r V'=>r=.bool (decide (z=w)):=by
 refine p_ _ p n c _ q m e V _ ⟨fun h0 V1 l1=>(qz (hx.le l1) (hy.le l1) hm).mono ?_,fun h0 V1 l1=>?_⟩
 ·rintro r V2 l2 rfl
  refine ⟨_,rfl,fun V3 l3=>?_⟩
  rw [BV h0]
 ·rw [decide_eq_false fun h=>by subst h;simp at h0]
theorem qB {V:View}{v w:Value}{a b c a' b' c':Int}(hx:RL V v a b c)(hy:RL V w a' b' c')(h1:(ag a.natAbs).length<=1099511627776)(h2:(ag b.natAbs).length<=1099511627776)(h3:(ag c.natAbs).length<=1099511627776) :
  ab prog 94 #[v,w] V fun r V'=>r=.bool (decide (a=a'/\b=b'/\c=c')):=by
 obtain ⟨p,n,s,p',n',s',q,m,e,rfl,x1,x2,x3⟩:=hx
 obtain ⟨i,j,k,i',j',k',i2,j2,k2,rfl,y1,y2,y3⟩:=hy
 refine qf _ p n s _ p' n' s' _ q m e _ i j k _ i' j' k' _ i2 j2 k2 V _ fun V1 l1=>(fU (x1.le l1) (y1.le l1) h1).mono ?_
 rintro r V2 l2 rfl
 refine ⟨_,rfl,fun g1 V3 l3=>(fU (x2.le (l1.trans (l2.trans l3))) (y2.le (l1.trans (l2.trans l3))) h2).mono ?_,fun g1 V9 l9=>?_⟩
 ·rintro r V4 l4 rfl
  rw [decide_eq_true_eq] at g1
  refine ⟨_,rfl,fun g2 V5 l5=>(fU (x3.le (l1.trans (l2.trans (l3.trans (l4.trans l5))))) (y3.le (l1.trans (l2.trans (l3.trans (l4.trans l5))))) h3).mono ?_,fun g2 V8 l8=>?_⟩
  ·rintro r V6 l6 rfl
   rw [decide_eq_true_eq] at g2
   refine ⟨_,rfl,fun V7 l7=>?_⟩
   congr 1
   rw [Bool.eq_iff_iff,decide_eq_true_eq,decide_eq_true_eq]
   exact ⟨fun h=>⟨g1,g2,h⟩,fun h=>h.2.2⟩
  ·rw [decide_eq_false_iff_not] at g2
   rw [decide_eq_false fun h=>g2 h.2.1]
 ·rw [decide_eq_false_iff_not] at g1
  rw [decide_eq_false fun h=>g1 h.1]
theorem mr {V:View}{v:Value}{a b c:Int}(hx:RL V v a b c)(h1:(ag a.natAbs).length<=1099511627776)(h2:(ag b.natAbs).length<=1099511627776)(h3:(ag c.natAbs).length<=1099511627776) :
  ab prog 89 #[v] V fun r V'=>RL V' r a b c:=by
 obtain ⟨p,n,s,p',n',s',q,m,e,rfl,x1,x2,x3⟩:=hx
 refine ub _ p n s _ p' n' s' _ q m e V _ fun V1 l1=>(iJ ⟨_,_,_,rfl,x1.le l1⟩ h1).mono ?_
 rintro r V2 l2 ⟨p1,n1,c1,rfl,g1⟩
 refine ⟨_,_,_,_,rfl,fun V3 l3=>(iJ ⟨_,_,_,rfl,x2.le (l1.trans (l2.trans l3))⟩ h2).mono ?_⟩
 rintro r V4 l4 ⟨p2,n2,c2,rfl,g2⟩
 refine ⟨_,_,_,_,rfl,fun V5 l5=>(iJ ⟨_,_,_,rfl,x3.le (l1.trans (l2.trans (l3.trans (l4.trans l5))))⟩ h3).mono ?_⟩
 rintro r V6 l6 ⟨p3,n3,c3,rfl,g3⟩
 exact ⟨_,_,_,_,rfl,fun V7 l7=>⟨_,_,_,_,_,_,_,_,_,rfl,g1.le (l3.trans (l4.trans (l5.trans (l6.trans l7)))),g2.le (l5.trans (l6.trans l7)),g3.le l7⟩⟩
theorem oC {z:Int}{g:Nat}(hg:0<g)(hd:g∣z.natAbs):(if decide (z<0)=true then -((z.natAbs / g:Nat):Int) else ((z.natAbs / g:Nat):Int))=z / (g:Int):=by
 obtain ⟨k,hk⟩:=hd
 have hk1:z.natAbs / g=k:=by rw [hk,Nat.mul_div_cancel_left _ hg]
 rw [hk1]
 have hz:z=(g:Int)*(if decide (z<0)=true then -(k:Int) else k):=by
  split
  ·rename_i h
   rw [decide_eq_true_eq] at h
   rw [Int.mul_neg,←Int.natCast_mul,←hk];omega
  ·rename_i h
   rw [decide_eq_true_eq] at h
   rw [←Int.natCast_mul,←hk];omega
 generalize (if decide (z<0)=true then -(k:Int) else k)=t at *
 rw [hz,Int.mul_ediv_cancel_left _ (by omega)]
def fX (a b c:Int):Nat:=Nat.gcd (Nat.gcd a.natAbs b.natAbs) c.natAbs
theorem qA {V:View}{u v w:Value}{a b c:Int}(ha:RI V u a)(hb:RI V v b)(hc:RI V w c)(h1:(ag a.natAbs).length<=274877906944)(h2:(ag b.natAbs).length<=274877906944)(h3:(ag c.natAbs).length<=274877906944) :
  ab prog 107 #[u,v,w] V fun r V'=>(a=0/\b=0->∃l,r=.tuple #[l,.bool false]/\RL V' l 0 0 0) /\
   (¬(a=0/\b=0)->∃l,r=.tuple #[l,.bool true]/\RL V' l (a / (fX a b c:Int)) (b / (fX a b c:Int)) (c / (fX a b c:Int))):=by
 obtain ⟨p,n,s,rfl,ha⟩:=ha
 obtain ⟨p',n',s',rfl,hb⟩:=hb
 obtain ⟨q,m,e,rfl,hc⟩:=hc
 refine qe _ p n s _ p' n' s' _ q m e V _ fun V1 l1=>(dH (ha.le l1) (hb.le l1) h1 h2).mono ?_
 rintro r V2 l2 ⟨p1,n1,c1,rfl,g1⟩
 have hp:=dN g1.len
 have wF:Nat.gcd a.natAbs b.natAbs=0↔a=0/\b=0:=by rw [Nat.gcd_eq_zero_iff];omega
 refine ⟨_,_,_,rfl,fun h0 V3 l3=>⟨fun _=>⟨_,rfl,_,_,_,_,_,_,_,_,_,rfl,RD.nil,RD.nil,RD.nil⟩,fun h=>?_⟩,fun h0 V4 l4=>?_⟩
 ·exact absurd (wF.1 (by simp at h0;omega)) h
 have hne:¬(a=0/\b=0):=fun h=>by have:=wF.2 h;simp at h0;omega
 have hg0:0<Nat.gcd a.natAbs b.natAbs:=by have:=wF;omega
 have hgl:(ag (Nat.gcd a.natAbs b.natAbs)).length<=274877906944:=by
  rcases Nat.eq_zero_or_pos a.natAbs with h|h
  ·rw [h,Nat.gcd_zero_left];exact h2
  ·exact Nat.le_trans (ax (Nat.gcd_le_left _ h)) h1
 refine (dH (g1.le l4) (hc.le (l1.trans (l2.trans l4))) hgl h3).mono ?_
 rintro r V5 l5 ⟨p2,n2,c2,rfl,g2⟩
 have EJ:=l1.trans (l2.trans (l4.trans l5))
 have e3:Nat.gcd (Nat.gcd a.natAbs b.natAbs) c.natAbs=fX a b c:=rfl
 have hG0:0<fX a b c:=Nat.gcd_pos_of_pos_left _ hg0
 have E8:(ag (fX a b c)).length<=274877906944:=Nat.le_trans (ax (Nat.gcd_le_left _ hg0)) hgl
 have da:fX a b c∣a.natAbs:=Nat.dvd_trans (Nat.gcd_dvd_left _ _) (Nat.gcd_dvd_left _ _)
 have db:fX a b c∣b.natAbs:=Nat.dvd_trans (Nat.gcd_dvd_left _ _) (Nat.gcd_dvd_right _ _)
 have dc:fX a b c∣c.natAbs:=Nat.gcd_dvd_right _ _
 have sa:=oC hG0 da
 have sb:=oC hG0 db
 have sc:=oC hG0 dc
 rw [e3] at g2
 generalize fX a b c=G at *
 refine ⟨_,_,_,rfl,fun V6 l6=>(cO (ha.le (EJ.trans l6)) (g2.le l6) h1 E8 hG0).mono ?_⟩
 rintro r V7 l7 ⟨p3,n3,c3,p4,n4,c4,rfl,g3,-⟩
 have gF:=l6.trans l7
 refine ⟨_,_,_,_,_,_,rfl,fun V8 l8=>(cO (hb.le (EJ.trans (gF.trans l8))) (g2.le (gF.trans l8)) h2 E8 hG0).mono ?_⟩
 rintro r V9 l9 ⟨p5,n5,c5,p6,n6,c6,rfl,g5,-⟩
 have DL:=gF.trans (l8.trans l9)
 refine ⟨_,_,_,_,_,_,rfl,fun iC l10=>(cO (hc.le (EJ.trans (DL.trans l10))) (g2.le (DL.trans l10)) h3 E8 hG0).mono ?_⟩
 rintro r mf cB ⟨p7,n7,c7,p8,n8,c8,rfl,g7,-⟩
 refine ⟨_,_,_,_,_,_,rfl,fun mg cX=>(dk _ (g3.le (l8.trans (l9.trans (l10.trans (cB.trans cX)))))).mono ?_⟩
 rw [sa]
 rintro r nW cZ ⟨p9,n9,c9,rfl,g9⟩
 refine ⟨_,_,_,_,rfl,fun mU dL=>(dk _ (g5.le (l10.trans (cB.trans (cX.trans (cZ.trans dL)))))).mono ?_⟩
 rw [sb]
 rintro r mh eC ⟨Ji,n10,c10,rfl,g10⟩
 refine ⟨_,_,_,_,rfl,fun nX dM=>(dk _ (g7.le (cX.trans (cZ.trans (dL.trans (eC.trans dM)))))).mono ?_⟩
 rw [sc]
 rintro r nJ dR ⟨Nj,n11,c11,rfl,g11⟩
 refine ⟨_,_,_,_,rfl,fun ry fu=>⟨fun h=>absurd h hne,fun _=>⟨_,rfl,_,_,_,_,_,_,_,_,_,rfl,?_,?_,?_⟩⟩⟩
 ·exact g9.le (dL.trans (eC.trans (dM.trans (dR.trans fu))))
 ·exact g10.le (dM.trans (dR.trans fu))
 ·exact g11.le fu
abbrev L3:=Int×Int×Int
def fF (x:L3):Bool:=decide (¬(x.1=0/\x.2.1=0))&&decide (fX x.1 x.2.1 x.2.2=1)
def Bd (x:L3):Prop:=x.1.natAbs<2^1000/\x.2.1.natAbs<2^1000/\x.2.2.natAbs<2^1000
inductive Tr where
 | leaf (i:Bool)|node (l:L3) (a b:Tr)
 deriving DecidableEq
structure Nd where
 ln:L3
 left:Int
 right:Int
 deriving DecidableEq
def Tr.size:Tr->Nat
 | .leaf _=>0
 | .node _ a b=>a.size+b.size+1
def Tr.fZ:Tr->Bool
 | .leaf _=>true
 | .node ..=>false
def Tr.jB (p:L3->Prop):Tr->Prop
 | .leaf _=>True
 | .node l a b=>p l/\a.jB p/\b.jB p
theorem Tr.jB.imp {p q:L3->Prop}(h:∀x,p x->q x):∀{t:Tr},t.jB p->t.jB q
 | .leaf _,_=>trivial
 | .node _ _ _,⟨h1,h2,h3⟩=>⟨h _ h1,Tr.jB.imp h h2,Tr.jB.imp h h3⟩
def rt (k:Nat):Tr->Int
 | .leaf i=>if i then -2 else -1
 | .node ..=>(k:Int)
def wr:Nat->Tr->List Nd
 | _,.leaf _=>[]
 | k,.node l a b=>⟨l,rt (k+1) a,rt (k+1+a.size) b⟩::(wr (k+1) a++wr (k+1+a.size) b)
theorem aW:∀(t:Tr)(k:Nat),(wr k t).length=t.size
 | .leaf _,_=>rfl
 | .node _ a b,k=>by simp only [wr,List.length_cons,List.length_append,aW a,aW b,Tr.size]
def Fi (l:List Nd):Int->Tr->List Nat->Prop
 | n,.leaf i,I=>n=(if i then -2 else -1)/\I=[]
 | n,.node ln a b,I=>∃(k:Nat)(x:Nd)(A B:List Nat),n=(k:Int)/\l[k]?=some x/\x.ln=ln/\Fi l x.left a A/\Fi l x.right b B/\I=k::(A++B)
theorem xL:∀(t:Tr)(l pre post:List Nd)(k:Nat),l=pre++(wr k t++post)->pre.length=k->Fi l (rt k t) t (List.range' k t.size)
 | .leaf i,l,pre,post,k,_,_=>⟨rfl,rfl⟩
 | .node ln a b,l,pre,post,k,hl,hp=>by
  refine ⟨k,⟨ln,rt (k+1) a,rt (k+1+a.size) b⟩,List.range' (k+1) a.size,List.range' (k+1+a.size) b.size,rfl,?_,rfl,?_,?_,?_⟩
  ·subst hl
   rw [List.getElem?_append_right (by omega)]
   simp [hp,wr]
  ·refine xL a l (pre++[⟨ln,rt (k+1) a,rt (k+1+a.size) b⟩]) (wr (k+1+a.size) b++post) (k+1) ?_ (by simp [hp])
   rw [hl];simp [wr]
  ·refine xL b l (pre++(⟨ln,rt (k+1) a,rt (k+1+a.size) b⟩::wr (k+1) a)) post (k+1+a.size) ?_ (by simp [hp,aW];omega)
   rw [hl];simp [wr]
  ·simp only [Tr.size]
   rw [List.range'_succ,←List.range'_append_1]
structure RS where
 seen:List Bool
 eS:Nat
 bad:Bool
def bQ (l:List Nd):Nat->Int->RS->Tr×RS
 | 0,_,s=>(.leaf false,s)
 | f+1,n,s=>
  if n=-2 then (.leaf true,s) else if n=-1 then (.leaf false,s) else if n<0 then (.leaf false,{ s with bad:=true })
  else match l[n.toNat]?,s.seen[n.toNat]? with
   | some x,some false=>
    if fF x.ln then
     let r1:=bQ l f x.left ⟨s.seen.set n.toNat true,s.eS+1,s.bad⟩
     let r2:=bQ l f x.right r1.2
     (.node x.ln r1.1 r2.1,r2.2)
    else (.leaf false,⟨s.seen.set n.toNat true,s.eS+1,true⟩)
   | _,_=>(.leaf false,{ s with bad:=true })
theorem count_set {l:List Bool}{k:Nat}(h:l[k]?=some false):(l.set k true).count false+1=l.count false:=by
 induction l generalizing k with
 | nil=>simp at h
 | cons x r ih=>
  cases k with
  | zero=>simp at h;subst h;simp
  | succ k=>
   simp at h
   have:=ih h
   simp only [List.set_cons_succ,List.count_cons]
   omega
theorem gK (l:List Nd):∀(f:Nat)(n:Int)(s:RS),(bQ l f n s).2.seen.count false<=s.seen.count false/\(bQ l f n s).2.seen.length=s.seen.length
 | 0,_,_=>⟨Nat.le_refl _,rfl⟩
 | f+1,n,s=>by
  simp only [bQ]
  split
  ·exact ⟨Nat.le_refl _,rfl⟩
  ·split
   ·exact ⟨Nat.le_refl _,rfl⟩
   ·split
    ·exact ⟨Nat.le_refl _,rfl⟩
    ·split
     ·rename_i x hx hs
      have hc:=count_set hs
      split
      ·obtain ⟨h1,h2⟩:=gK l f x.left ⟨s.seen.set n.toNat true,s.eS+1,s.bad⟩
       obtain ⟨h3,h4⟩:=gK l f x.right (bQ l f x.left ⟨s.seen.set n.toNat true,s.eS+1,s.bad⟩).2
       dsimp only at h1 h2 h3 h4 ⊢
       exact ⟨by omega,by rw [h4,h2,List.length_set]⟩
      ·dsimp only;exact ⟨by omega,by simp⟩
     ·exact ⟨Nat.le_refl _,rfl⟩
theorem nR (l:List Nd):∀(f:Nat)(n:Int)(s:RS),(bQ l f n s).2.eS+(bQ l f n s).2.seen.count false=s.eS+s.seen.count false
 | 0,_,_=>rfl
 | f+1,n,s=>by
  simp only [bQ]
  split
  ·rfl
  ·split
   ·rfl
   ·split
    ·rfl
    ·split
     ·rename_i x hx hs
      have hc:=count_set hs
      split
      ·have h1:=nR l f x.left ⟨s.seen.set n.toNat true,s.eS+1,s.bad⟩
       have h3:=nR l f x.right (bQ l f x.left ⟨s.seen.set n.toNat true,s.eS+1,s.bad⟩).2
       dsimp only at h1 h3 ⊢
       omega
      ·dsimp only;omega
     ·rfl
theorem tC {p:L3->Prop}{l:List Nd}(hl:∀x∈l,p x.ln):∀(f:Nat)(n:Int)(s:RS),(bQ l f n s).1.jB p
 | 0,_,_=>trivial
 | f+1,n,s=>by
  simp only [bQ]
  split
  ·trivial
  ·split
   ·trivial
   ·split
    ·trivial
    ·split
     ·rename_i x hx hs
      split
      ·exact ⟨hl x (List.mem_of_getElem? hx),tC hl f _ _,tC hl f _ _⟩
      ·trivial
     ·trivial
theorem pB (l:List Nd):∀(f:Nat)(n:Int)(s:RS),(bQ l f n s).1.size+s.eS<=(bQ l f n s).2.eS
 | 0,_,_=>by simp [bQ,Tr.size]
 | f+1,n,s=>by
  simp only [bQ]
  split
  ·simp [Tr.size]
  ·split
   ·simp [Tr.size]
   ·split
    ·simp [Tr.size]
    ·split
     ·split
      ·rename_i x hx hs hok
       have h1:=pB l f x.left ⟨s.seen.set n.toNat true,s.eS+1,s.bad⟩
       have h3:=pB l f x.right (bQ l f x.left ⟨s.seen.set n.toNat true,s.eS+1,s.bad⟩).2
       dsimp only at h1 h3 ⊢
       simp only [Tr.size]
       omega
      ·simp [Tr.size]
     ·simp [Tr.size]
def jV (s:List Bool)(I:List Nat):List Bool:=I.foldl (fun s k=>s.set k true) s
theorem pI:∀(I:List Nat)(s:List Bool)(k:Nat),k∉I->(jV s I)[k]?=s[k]?
 | [],_,_,_=>rfl
 | i::r,s,k,h=>by
  have:=pI r (s.set i true) k (fun h'=>h (List.mem_cons_of_mem _ h'))
  unfold jV at this ⊢
  rw [List.foldl_cons,this,List.getElem?_set_ne (fun e=>h (by simp [e]))]
theorem tE (l:List Nd):∀(t:Tr)(f:Nat)(n:Int)(s:RS)(I:List Nat),Fi l n t I->I.Nodup->(∀k∈I,s.seen[k]?=some false)->t.jB (fun x=>fF x=true)->t.size<f->bQ l f n s=(t,⟨jV s.seen I,s.eS+t.size,s.bad⟩)
 | .leaf i,f,n,s,I,⟨h1,h2⟩,_,_,_,hf=>by
  subst h2
  obtain ⟨f,rfl⟩:∃g,f=g+1:=⟨f-1,by simp [Tr.size] at hf;omega⟩
  cases i with
  | true=>simp only [if_true] at h1;subst h1;simp [bQ,jV,Tr.size]
  | false=>
   have h1:n=-1:=by simpa using h1
   subst h1;simp [bQ,jV,Tr.size]
 | .node ln a b,f,n,s,I,⟨k,x,A,B,h1,h2,h3,h4,h5,h6⟩,hnd,hun,hok,hf=>by
  subst h1 h3 h6
  obtain ⟨f,rfl⟩:∃g,f=g+1:=⟨f-1,by simp [Tr.size] at hf;omega⟩
  rw [List.nodup_cons,List.nodup_append] at hnd
  obtain ⟨hk,hA,hB,Mn⟩:=hnd
  have hks:=hun k (by simp)
  simp only [Tr.size] at hf
  have e1:=tE l a f x.left ⟨s.seen.set k true,s.eS+1,s.bad⟩ A h4 hA (fun j hj=>by
   have:k≠j:=fun e=>hk (by rw [e];simp [hj])
   dsimp only
   rw [List.getElem?_set_ne this]
   exact hun j (by simp [hj])) hok.2.1 (by omega)
  have e2:=tE l b f x.right ⟨jV (s.seen.set k true) A,s.eS+1+a.size,s.bad⟩ B h5 hB (fun j hj=>by
   have:k≠j:=fun e=>hk (by rw [e];simp [hj])
   dsimp only
   rw [pI A _ j (fun h=>Mn j h j hj rfl),List.getElem?_set_ne this]
   exact hun j (by simp [hj])) hok.2.2 (by omega)
  have hn1:¬((k:Int)=-2):=by omega
  have hn2:¬((k:Int)=-1):=by omega
  have MF:¬((k:Int)<0):=by omega
  have e0:bQ l (f+1) (k:Int) s=(.node x.ln (bQ l f x.left ⟨s.seen.set k true,s.eS+1,s.bad⟩).1 (bQ l f x.right (bQ l f x.left ⟨s.seen.set k true,s.eS+1,s.bad⟩).2).1,(bQ l f x.right (bQ l f x.left ⟨s.seen.set k true,s.eS+1,s.bad⟩).2).2):=by
   rw [bQ]
   rw [if_neg hn1,if_neg hn2,if_neg MF]
   simp only [Int.toNat_natCast,h2,hks,hok.1,if_true]
  rw [e0,e1]
  dsimp only
  rw [e2]
  simp only [jV,List.foldl_cons,List.foldl_append,Tr.size,Prod.mk.injEq,RS.mk.injEq,true_and]
  first|omega|exact ⟨by omega,trivial⟩
def dz (l:List Nd)(root:Int):Option Tr:=
 if 65536<l.length then none else
 let r:=bQ l (l.length+1) root ⟨List.replicate l.length false,0,false⟩
 if r.2.bad=true\/r.2.eS≠l.length then none else some r.1
theorem C0 {l:List Nd}{n:Int}{t:Tr}{I:List Nat}(h:Fi l n t I)(hn:I.Nodup)(hI:∀k∈I,k<l.length)(hs:t.size=l.length)(hok:t.jB fun x=>fF x=true)(hl:l.length<=65536):dz l n=some t:=by
 unfold dz
 rw [if_neg (by omega)]
 rw [tE l t (l.length+1) n _ I h hn (fun k hk=>by simp [hI k hk]) hok (by omega)]
 simp [hs]
theorem xz {t:Tr}(hok:t.jB fun x=>fF x=true)(hl:t.size<=65536):dz (wr 0 t) (rt 0 t)=some t:=by
 have h:=xL t (wr 0 t) [] [] 0 (by simp) rfl
 refine C0 h List.nodup_range' (fun k hk=>?_) (aW t 0).symm hok (by rw [aW];exact hl)
 rw [aW]
 have:=List.mem_range'_1.1 hk
 omega
theorem jr {p:L3->Prop}{l:List Nd}{n:Int}{t:Tr}(hl:∀x∈l,p x.ln)(h:dz l n=some t):t.jB p:=by
 unfold dz at h
 split at h
 ·cases h
 ·dsimp only at h
  split at h
  ·cases h
  ·cases h;exact tC hl _ _ _
theorem pt {l:List Nd}{n:Int}{t:Tr}(h:dz l n=some t):t.size<=65536:=by
 unfold dz at h
 split at h
 ·cases h
 ·dsimp only at h
  split at h
  ·cases h
  ·rename_i h1 h2
   cases h
   have:=pB l (l.length+1) n ⟨List.replicate l.length false,0,false⟩
   dsimp only at this
   have h3:(bQ l (l.length+1) n ⟨List.replicate l.length false,0,false⟩).2.eS=l.length:=by
    rcases Nat.lt_or_ge 0 1 with _|h
    ·by_cases e:(bQ l (l.length+1) n ⟨List.replicate l.length false,0,false⟩).2.eS=l.length
     ·exact e
     ·exact absurd (.inr e) h2
    ·omega
   omega
def Aj (n rJ i:Nat):Nat:=n-1-(i+rJ)%n
def mv (n rJ:Nat)(i:Int):Int:=if i<0 then i else (Aj n rJ i.toNat:Int)
def Nf (n rJ:Nat)(d:Nd):Nd:=⟨d.ln,mv n rJ d.left,mv n rJ d.right⟩
theorem EN {n b i:Nat}(hn:0<n):Aj n b i<n:=by unfold Aj;omega
theorem CX {n b i j:Nat}(hi:i<n)(hj:j<n)(h:Aj n b i=Aj n b j):i=j:=by
 unfold Aj at h
 have h1:=Nat.mod_lt (i+b) (show 0<n by omega)
 have h2:=Nat.mod_lt (j+b) (show 0<n by omega)
 have h3:(i+b)%n=(j+b)%n:=by omega
 have key:∀x y:Nat,x<n->y<n->x<=y->(x+b)%n=(y+b)%n->x=y:=by
  intro x y hx hy hxy e
  have h5:(y+b)%n=((x+b)%n+(y-x))%n:=by
   rw [Nat.mod_add_mod];congr 1;omega
  rw [←e] at h5
  have h6:=Nat.mod_lt (x+b) (show 0<n by omega)
  clear h h1 h2 h3 e
  generalize (x+b)%n=r at h5 h6
  rcases Nat.lt_or_ge (r+(y-x)) n with h7|h7
  ·rw [Nat.mod_eq_of_lt h7] at h5;omega
  ·rw [Nat.mod_eq_sub_mod h7,Nat.mod_eq_of_lt (by omega)] at h5;omega
 rcases Nat.le_total i j with h|h
 ·exact key i j hi hj h h3
 ·exact (key j i hj hi h h3.symm).symm
theorem kL (l:List Nd):∀(f:Nat)(n:Int)(s:RS),s.bad=true->(bQ l f n s).2.bad=true
 | 0,_,_,h=>h
 | f+1,n,s,h=>by
  simp only [bQ]
  split
  ·exact h
  ·split
   ·exact h
   ·split
    ·rfl
    ·split
     ·split
      ·exact kL l f _ _ (kL l f _ _ h)
      ·rfl
     ·rfl
def Rp (l:List Nd):Int->Tr->Prop
 | n,.leaf i=>n=(if i then -2 else -1)
 | n,.node ln a b=>∃(k:Nat)(x:Nd),n=(k:Int)/\l[k]?=some x/\x.ln=ln/\fF ln=true/\Rp l x.left a/\Rp l x.right b
theorem xB (l:List Nd):∀(f:Nat)(n:Int)(s:RS),s.seen.count false<f->(bQ l f n s).2.bad=false->Rp l n (bQ l f n s).1/\(bQ l f n s).2.eS=s.eS+(bQ l f n s).1.size
 | 0,_,_,h,_=>by omega
 | f+1,n,s,hf,h=>by
  simp only [bQ] at h ⊢
  by_cases n2:n=-2
  ·rw [if_pos n2];exact ⟨n2,rfl⟩
  rw [if_neg n2] at h ⊢
  by_cases n1:n=-1
  ·rw [if_pos n1];exact ⟨n1,rfl⟩
  rw [if_neg n1] at h ⊢
  by_cases n0:n<0
  ·rw [if_pos n0] at h;cases h
  rw [if_neg n0] at h ⊢
  split at h
  ·rename_i x hx hs
   by_cases ho:fF x.ln=true
   ·rw [if_pos ho] at h ⊢
    dsimp only at h ⊢
    have hb:(bQ l f x.left ⟨s.seen.set n.toNat true,s.eS+1,s.bad⟩).2.bad=false:=by
     cases e:(bQ l f x.left ⟨s.seen.set n.toNat true,s.eS+1,s.bad⟩).2.bad
     ·rfl
     ·have:=kL l f x.right _ e
      rw [h] at this;cases this
    have hc:=count_set hs
    obtain ⟨i1,i2⟩:=xB l f x.left _ (by dsimp only;omega) hb
    have hm:=(gK l f x.left ⟨s.seen.set n.toNat true,s.eS+1,s.bad⟩).1
    dsimp only at i2 hm
    obtain ⟨j1,j2⟩:=xB l f x.right _ (by omega) h
    exact ⟨⟨n.toNat,x,by omega,hx,rfl,ho,i1,j1⟩,by simp only [Tr.size];omega⟩
   ·rw [if_neg ho] at h;cases h
  ·cases h
def Lay (l:List Nd):Int->Nat->Tr->Prop
 | n,_,.leaf i=>n=(if i then -2 else -1)
 | n,k,.node ln a b=>n=(k:Int)/\∃x,l[k]?=some x/\x.ln=ln/\Lay l x.left (k+1) a/\Lay l x.right (k+1+a.size) b
theorem xr {l:List Nd}:∀{t:Tr} {n:Int} {k:Nat},Lay l n k t->n=rt k t/\∀i d,(wr k t)[i]?=some d->l[k+i]?=some d
 | .leaf i,n,k,h=>⟨h,fun i d hd=>by simp [wr] at hd⟩
 | .node ln a b,n,k,⟨h,x,hx,hl,ha,hb⟩=>by
  obtain ⟨a1,a2⟩:=xr ha
  obtain ⟨b1,b2⟩:=xr hb
  refine ⟨h,fun i d hd=>?_⟩
  simp only [wr] at hd
  cases i with
  | zero=>
   simp only [List.getElem?_cons_zero,Option.some.injEq] at hd
   subst hd
   rw [Nat.add_zero,hx,←a1,←b1,←hl]
  | succ i=>
   rw [List.getElem?_cons_succ] at hd
   rcases Nat.lt_or_ge i a.size with hi|hi
   ·rw [List.getElem?_append_left (by rw [aW];exact hi)] at hd
    rw [show k+(i+1)=k+1+i by omega]
    exact a2 i d hd
   ·rw [List.getElem?_append_right (by rw [aW];exact hi),aW] at hd
    rw [show k+(i+1)=k+1+a.size+(i-a.size) by omega]
    exact b2 _ d hd
theorem lP:∀(t:Tr)(l pre post:List Nd)(k:Nat),l=pre++(wr k t++post)->pre.length=k->Lay l (rt k t) k t
 | .leaf i,l,pre,post,k,_,_=>rfl
 | .node ln a b,l,pre,post,k,hl,hp=>by
  refine ⟨rfl,⟨ln,rt (k+1) a,rt (k+1+a.size) b⟩,?_,rfl,?_,?_⟩
  ·subst hl
   rw [List.getElem?_append_right (by omega)]
   simp [hp,wr]
  ·refine lP a l (pre++[⟨ln,rt (k+1) a,rt (k+1+a.size) b⟩]) (wr (k+1+a.size) b++post) (k+1) ?_ (by simp [hp])
   rw [hl];simp [wr]
  ·refine lP b l (pre++(⟨ln,rt (k+1) a,rt (k+1+a.size) b⟩::wr (k+1) a)) post (k+1+a.size) ?_ (by simp [hp,aW];omega)
   rw [hl];simp [wr]
theorem CT {l:List Nd}{root:Int}{t:Tr}(hs:l.length=t.size):Lay l root 0 t↔root=rt 0 t/\l=wr 0 t:=by
 constructor
 ·intro h
  obtain ⟨h1,h2⟩:=xr h
  refine ⟨h1,List.ext_getElem? fun i=>?_⟩
  rcases Nat.lt_or_ge i t.size with hi|hi
  ·have e:(wr 0 t)[i]?=some ((wr 0 t)[i]'(by rw [aW];exact hi)):=List.getElem?_eq_getElem _
   have:=h2 i _ e
   rw [Nat.zero_add] at this
   rw [this,e]
  ·rw [List.getElem?_eq_none (by omega),List.getElem?_eq_none (by rw [aW];exact hi)]
 ·rintro ⟨rfl,rfl⟩
  exact lP t (wr 0 t) [] [] 0 (by simp) rfl
def wH (l:List Nd):List Int->List Tr->Nat->Prop
 | n::ns,t::ts,k=>Lay l n k t/\wH l ns ts (k+t.size)
 | _,_,_=>True
def J8 (l:List Nd):List Int->List Tr->Prop
 | n::ns,t::ts=>Rp l n t/\J8 l ns ts
 | [],[]=>True
 | _,_=>False
theorem Bu {l:List Nd}{root:Int}{t:Tr}(h:dz l root=some t):Rp l root t/\l.length=t.size/\t.jB fun x=>fF x=true:=by
 unfold dz at h
 split at h
 ·cases h
 ·dsimp only at h
  split at h
  ·cases h
  ·rename_i hb
   cases h
   have hb':(bQ l (l.length+1) root ⟨List.replicate l.length false,0,false⟩).2.bad=false/\(bQ l (l.length+1) root ⟨List.replicate l.length false,0,false⟩).2.eS=l.length:=by
    constructor
    ·cases e:(bQ l (l.length+1) root ⟨List.replicate l.length false,0,false⟩).2.bad
     ·rfl
     ·exact absurd (.inl e) hb
    ·by_cases e:(bQ l (l.length+1) root ⟨List.replicate l.length false,0,false⟩).2.eS=l.length
     ·exact e
     ·exact absurd (.inr e) hb
   obtain ⟨h1,h2⟩:=xB l (l.length+1) root ⟨List.replicate l.length false,0,false⟩ (by simp) hb'.1
   have ok:∀{t:Tr} {n:Int},Rp l n t->t.jB fun x=>fF x=true:=by
    intro t
    induction t with
    | leaf i=>intro n _;trivial
    | node ln a b iha ihb=>rintro n ⟨k,x,_,_,_,ho,ha,hb⟩;exact ⟨ho,iha ha,ihb hb⟩
   refine ⟨h1,?_,ok h1⟩
   have:=hb'.2
   rw [h2] at this
   dsimp only at this
   omega
theorem vt {l:List Nd}{root:Int}(hl:l.length<=65536):dz l root=if (bQ l (l.length+1) root ⟨List.replicate l.length false,0,false⟩).2.bad=false/\((bQ l (l.length+1) root ⟨List.replicate l.length false,0,false⟩).2.seen.all id)=true then some (bQ l (l.length+1) root ⟨List.replicate l.length false,0,false⟩).1 else none:=by
 have hc:=nR l (l.length+1) root ⟨List.replicate l.length false,0,false⟩
 have hc0:(List.replicate l.length false).count false=l.length:=by simp
 dsimp only at hc
 rw [hc0] at hc
 unfold dz
 rw [if_neg (by omega)]
 generalize bQ l (l.length+1) root ⟨List.replicate l.length false,0,false⟩=r at *
 have e:(r.2.seen.all id)=true↔r.2.eS=l.length:=by
  have e1:(r.2.seen.all id)=true↔r.2.seen.count false=0:=by
   rw [List.count_eq_zero,List.all_eq_true]
   constructor
   ·intro h hm;have:=h false hm;cases this
   ·intro h x hx;cases x
    ·exact absurd hx h
    ·rfl
  rw [e1];omega
 dsimp only
 by_cases h1:r.2.bad=true
 ·rw [if_pos (.inl h1),if_neg (fun h=>by rw [h1] at h;cases h.1)]
 ·have h1:r.2.bad=false:=by simpa using h1
  by_cases h2:r.2.eS=l.length
  ·rw [if_neg (by rintro (h|h);rw [h1] at h;cases h;exact h h2),if_pos ⟨h1,e.2 h2⟩]
  ·rw [if_pos (.inr h2),if_neg (fun h=>h2 (e.1 h.2))]
theorem zx {l:List Nd}{n:Int}{i:Bool}{ns:List Int}{ts:List Tr}{k:Nat}(h:Rp l n (.leaf i)):wH l (n::ns) (.leaf i::ts) k↔wH l ns ts k:=
 ⟨fun g=>g.2,fun g=>⟨h,g⟩⟩
theorem zy {l:List Nd}{x:Nd}{ln:L3}{a b:Tr}{ns:List Int}{ts:List Tr}{k:Nat}(hx:l[k]?=some x)(hl:x.ln=ln) :
  wH l ((k:Int)::ns) (.node ln a b::ts) k↔wH l (x.left::x.right::ns) (a::b::ts) (k+1):=by
 constructor
 ·rintro ⟨⟨_,y,hy,_,ha,hb⟩,hr⟩
  rw [hx] at hy;cases hy
  simp only [Tr.size] at hr
  exact ⟨ha,hb,by rw [show k+1+a.size+b.size=k+(a.size+b.size+1) by omega];exact hr⟩
 ·rintro ⟨ha,hb,hr⟩
  refine ⟨⟨rfl,x,hx,hl,ha,hb⟩,?_⟩
  simp only [Tr.size]
  rw [show k+(a.size+b.size+1)=k+1+a.size+b.size by omega]
  exact hr
theorem Ba {l:List Nd}{n:Int}{ln:L3}{a b:Tr}{ns:List Int}{ts:List Tr}{k:Nat}(h:n≠(k:Int)):¬wH l (n::ns) (.node ln a b::ts) k:=fun g=>h g.1.1
def iG (l:List Nd):Nat->Int->List Bool->Option Tr×List Bool
 | 0,_,s=>(none,s)
 | f+1,n,s=>
  if n=-2 then (some (.leaf true),s) else if n=-1 then (some (.leaf false),s) else if n<0 then (none,s)
  else match l[n.toNat]?,s[n.toNat]? with
   | some x,some false=>
    if fF x.ln then
     match iG l f x.left (s.set n.toNat true) with
     | (none,s1)=>(none,s1)
     | (some a,s1)=>match iG l f x.right s1 with
      | (none,s2)=>(none,s2)
      | (some b,s2)=>(some (.node x.ln a b),s2)
    else (none,s.set n.toNat true)
   | _,_=>(none,s)
theorem tK (l:List Nd):∀(f:Nat)(n:Int)(s:List Bool)(c:Nat),s.count false<f ->
  ((bQ l f n ⟨s,c,false⟩).2.bad=true->(iG l f n s).1=none)/\((bQ l f n ⟨s,c,false⟩).2.bad=false->iG l f n s=(some (bQ l f n ⟨s,c,false⟩).1,(bQ l f n ⟨s,c,false⟩).2.seen))
 | 0,_,_,_,h=>by omega
 | f+1,n,s,c,hf=>by
  simp only [bQ,iG]
  by_cases n2:n=-2
  ·rw [if_pos n2,if_pos n2];exact ⟨(fun h=>by cases h),fun _=>rfl⟩
  rw [if_neg n2,if_neg n2]
  by_cases n1:n=-1
  ·rw [if_pos n1,if_pos n1];exact ⟨(fun h=>by cases h),fun _=>rfl⟩
  rw [if_neg n1,if_neg n1]
  by_cases n0:n<0
  ·rw [if_pos n0,if_pos n0];exact ⟨fun _=>rfl,(fun h=>by cases h)⟩
  rw [if_neg n0,if_neg n0]
  cases hx:l[n.toNat]? with
  | none=>dsimp only;exact ⟨fun _=>rfl,(fun h=>by cases h)⟩
  | some x=>
  cases hs:s[n.toNat]? with
  | none=>dsimp only;exact ⟨fun _=>rfl,(fun h=>by cases h)⟩
  | some b=>
  cases b with
  | true=>dsimp only;exact ⟨fun _=>rfl,(fun h=>by cases h)⟩
  | false=>
   dsimp only
   by_cases ho:fF x.ln=true
   ·rw [if_pos ho,if_pos ho]
    dsimp only
    have hc:=count_set hs
    obtain ⟨i1,i2⟩:=tK l f x.left (s.set n.toNat true) (c+1) (by omega)
    have hm:=(gK l f x.left ⟨s.set n.toNat true,c+1,false⟩).1
    dsimp only at hm
    generalize bQ l f x.left ⟨s.set n.toNat true,c+1,false⟩=r1 at *
    obtain ⟨t1,s1,c1,b1⟩:=r1
    dsimp only at i1 i2 hm ⊢
    cases b1 with
    | true=>
     have e:=i1 rfl
     have hb:=kL l f x.right ⟨s1,c1,true⟩ rfl
     refine ⟨fun _=>?_,fun h=>by rw [hb] at h;cases h⟩
     generalize iG l f x.left (s.set n.toNat true)=q at *
     obtain ⟨q1,q2⟩:=q
     dsimp only at e
     subst e
     rfl
    | false=>
     have e:=i2 rfl
     rw [e]
     dsimp only
     obtain ⟨j1,j2⟩:=tK l f x.right s1 c1 (by omega)
     refine ⟨fun h=>?_,fun h=>?_⟩
     ·have e2:=j1 h
      generalize iG l f x.right s1=q at *
      obtain ⟨q1,q2⟩:=q
      dsimp only at e2
      subst e2
      rfl
     ·rw [j2 h]
   ·rw [if_neg ho,if_neg ho]
    exact ⟨fun _=>rfl,(fun h=>by cases h)⟩
theorem BO {l:List Nd}{root:Int}(hl:l.length<=65536):dz l root=if (iG l (l.length+1) root (List.replicate l.length false)).2.all id=true then (iG l (l.length+1) root (List.replicate l.length false)).1 else none:=by
 rw [vt hl]
 obtain ⟨h1,h2⟩:=tK l (l.length+1) root (List.replicate l.length false) 0 (by simp)
 cases hb:(bQ l (l.length+1) root ⟨List.replicate l.length false,0,false⟩).2.bad
 ·rw [h2 hb]
  dsimp only
  by_cases c:((bQ l (l.length+1) root ⟨List.replicate l.length false,0,false⟩).2.seen.all id)=true
  ·rw [if_pos ⟨rfl,c⟩,if_pos c]
  ·rw [if_neg (fun h=>c h.2),if_neg c]
 ·rw [if_neg (fun h=>by cases h.1),h1 hb]
  split<;>rfl
theorem nS (l:List Nd):∀(f:Nat)(n:Int)(s:List Bool),(iG l f n s).2.length=s.length/\(iG l f n s).2.count false<=s.count false
 | 0,_,_=>⟨rfl,Nat.le_refl _⟩
 | f+1,n,s=>by
  simp only [iG]
  split
  ·exact ⟨rfl,Nat.le_refl _⟩
  split
  ·exact ⟨rfl,Nat.le_refl _⟩
  split
  ·exact ⟨rfl,Nat.le_refl _⟩
  split
  ·rename_i x hx hs
   have hc:=count_set hs
   split
   ·have i1:=nS l f x.left (s.set n.toNat true)
    generalize iG l f x.left (s.set n.toNat true)=q at *
    obtain ⟨q1,q2⟩:=q
    rw [List.length_set] at i1
    dsimp only at i1
    cases q1 with
    | none=>exact ⟨i1.1,by dsimp only;omega⟩
    | some a=>
     dsimp only
     have i2:=nS l f x.right q2
     generalize iG l f x.right q2=r at *
     obtain ⟨r1,r2⟩:=r
     dsimp only at i2
     cases r1 with
     | none=>exact ⟨i2.1.trans i1.1,by dsimp only;omega⟩
     | some b=>exact ⟨i2.1.trans i1.1,by dsimp only;omega⟩
   ·exact ⟨List.length_set ..,by dsimp only;omega⟩
  ·exact ⟨rfl,Nat.le_refl _⟩
theorem tD (l:List Nd):∀(f:Nat)(n:Int)(s:RS),(bQ l f n s).2.bad=false->∀i:Nat,(bQ l f n s).2.seen[i]?=some true->s.seen[i]?=some true\/∃x:Nd,l[i]?=some x/\fF x.ln=true
 | 0,_,_,_,_,h=>.inl h
 | f+1,n,s,h,i,hi=>by
  simp only [bQ] at h hi
  by_cases n2:n=-2
  ·rw [if_pos n2] at hi;exact .inl hi
  rw [if_neg n2] at h hi
  by_cases n1:n=-1
  ·rw [if_pos n1] at hi;exact .inl hi
  rw [if_neg n1] at h hi
  by_cases n0:n<0
  ·rw [if_pos n0] at h;cases h
  rw [if_neg n0] at h hi
  cases hx:l[n.toNat]? with
  | none=>rw [hx] at h;cases h
  | some x=>
  cases hs:s.seen[n.toNat]? with
  | none=>rw [hx,hs] at h;cases h
  | some b=>
  cases b with
  | true=>rw [hx,hs] at h;cases h
  | false=>
   rw [hx,hs] at h hi
   dsimp only at h hi
   by_cases ho:fF x.ln=true
   ·rw [if_pos ho] at h hi
    dsimp only at h hi
    have hb:(bQ l f x.left ⟨s.seen.set n.toNat true,s.eS+1,s.bad⟩).2.bad=false:=by
     cases e:(bQ l f x.left ⟨s.seen.set n.toNat true,s.eS+1,s.bad⟩).2.bad
     ·rfl
     ·have:=kL l f x.right _ e
      rw [h] at this;cases this
    rcases tD l f x.right _ h i hi with g|g
    ·rcases tD l f x.left _ hb i g with g|g
     ·dsimp only at g
      rw [List.getElem?_set] at g
      split at g
      ·rename_i e;subst e;exact .inr ⟨x,hx,ho⟩
      ·exact .inl g
     ·exact .inr g
    ·exact .inr g
   ·rw [if_neg ho] at h;cases h
theorem CZ {l:List Nd}{root:Int}{t:Tr}(h:dz l root=some t):∀x∈l,fF x.ln=true:=by
 have hl:l.length<=65536:=by
  rcases Nat.lt_or_ge 65536 l.length with h'|h'
  ·unfold dz at h;rw [if_pos h'] at h;cases h
  ·exact h'
 rw [vt hl] at h
 split at h
 ·rename_i hc
  intro x hx
  obtain ⟨i,hi,rfl⟩:=List.mem_iff_getElem.1 hx
  have hm:=(gK l (l.length+1) root ⟨List.replicate l.length false,0,false⟩).2
  have hs:(bQ l (l.length+1) root ⟨List.replicate l.length false,0,false⟩).2.seen[i]?=some true:=by
   have hlt:i<(bQ l (l.length+1) root ⟨List.replicate l.length false,0,false⟩).2.seen.length:=by rw [hm];simpa using hi
   rw [List.getElem?_eq_getElem hlt]
   have:=List.all_eq_true.1 hc.2 _ (List.getElem_mem hlt)
   exact congrArg some this
  rcases tD l _ root _ hc.1 i hs with g|⟨y,hy,ho⟩
  ·simp [hi] at g
  ·rw [List.getElem?_eq_getElem hi] at hy;cases hy;exact ho
 ·cases h
end Go.Proofs.Tryz
namespace Go.br
open Go.dS
def uv (V:View)(v:Value)(a b c:Rat):Prop:=∃(x1 x2:Int)(p:OA)(y1 y2:Int)(q:OA)(z1 z2:Int)(r:OA),v=.agg #[.int .i64 x1,.int .i64 x2,.pointer p,.int .i64 y1,.int .i64 y2,.pointer q,.int .i64 z1,.int .i64 z2,.pointer r] /\
 RR V (.agg #[.int .i64 x1,.int .i64 x2,.pointer p]) a/\RR V (.agg #[.int .i64 y1,.int .i64 y2,.pointer q]) b/\RR V (.agg #[.int .i64 z1,.int .i64 z2,.pointer r]) c
def Ck (v:Value):Prop:=∃(x1 x2:Int)(x3:OA)(y1 y2:Int)(y3:OA)(z1 z2:Int)(z3:OA),v=.agg #[.int .i64 x1,.int .i64 x2,.pointer x3,.int .i64 y1,.int .i64 y2,.pointer y3,.int .i64 z1,.int .i64 z2,.pointer z3]
theorem uv.le {V V':View}{v:Value}{a b c:Rat}(h:uv V v a b c)(l:V.Le V'):uv V' v a b c:=by
 obtain ⟨x1,x2,p,y1,y2,q,z1,z2,r,rfl,h1,h2,h3⟩:=h
 exact ⟨x1,x2,p,y1,y2,q,z1,z2,r,rfl,h1.le l,h2.le l,h3.le l⟩
end Go.br
namespace Go.Proofs.Tryz
open Go.br Go.dS
theorem yX {V:View}{v:Value}{a b c:Rat}(h:uv V v a b c){k:Nat}(s1:Sz k a)(s2:Sz k b)(s3:Sz k c)(hk:k<=1099511627776) :
  ab prog 92 #[v] V fun r V'=>RL V' r a.num b.num c.num:=by
 obtain ⟨x1,x2,p,y1,y2,q,z1,z2,r,rfl,h1,h2,h3⟩:=h
 refine qR _ _ _ _ _ _ _ _ _ V _ fun V1 l1=>(gT (h1.le l1) s1 hk).mono ?_
 rintro r V2 l2 ⟨p1,n1,c1,rfl,g1⟩
 refine ⟨_,_,_,_,rfl,fun V3 l3=>(gT (h2.le (l1.trans (l2.trans l3))) s2 hk).mono ?_⟩
 rintro r V4 l4 ⟨p2,n2,c2,rfl,g2⟩
 refine ⟨_,_,_,_,rfl,fun V5 l5=>(gT (h3.le (l1.trans (l2.trans (l3.trans (l4.trans l5))))) s3 hk).mono ?_⟩
 rintro r V6 l6 ⟨p3,n3,c3,rfl,g3⟩
 exact ⟨_,_,_,_,rfl,fun V7 l7=>⟨_,_,_,_,_,_,_,_,_,rfl,g1.le (l3.trans (l4.trans (l5.trans (l6.trans l7)))),g2.le (l5.trans (l6.trans l7)),g3.le l7⟩⟩
def fH (b1:Bool)(xs:List Nat)(b2:Bool)(ys:List Nat)(b3:Bool)(zs:List Nat):Bool:=
 dT b1 xs&&dT b2 ys&&dT b3 zs&&!(decide ((au b1 xs:Rat)=0)&&decide ((au b2 ys:Rat)=0))&&decide (fY (fY (au b1 xs) (au b2 ys)) (au b3 zs)=((1:Int):Rat))
theorem lQ {V:View}{ok:Bool}{A B C:Rat}(h:ok=false):∃v,Value.tuple #[.agg #[.int .i64 0,.int .i64 0,.pointer none,.int .i64 0,.int .i64 0,.pointer none,.int .i64 0,.int .i64 0,.pointer none],.bool false]=.tuple #[v,.bool ok]/\Ck v/\(ok=true->uv V v A B C):=by
 subst h;exact ⟨_,rfl,⟨_,_,_,_,_,_,_,_,_,rfl⟩,fun h=>nomatch h⟩
theorem xP:Sz 1 ((1:Int):Rat):=by unfold Sz;decide
theorem oq {V:View}(b1 b2 b3:Bool){p q s:OA}{n c m e i j:Nat}{xs ys zs:List Nat}(hx:RD V p n c xs)(hy:RD V q m e ys)(hz:RD V s i j zs)
  (h1:xs.length<=1099511627776)(h2:ys.length<=1099511627776)(h3:zs.length<=1099511627776){k:Nat}(s1:Sz k (au b1 xs:Rat))(s2:Sz k (au b2 ys:Rat))(s3:Sz k (au b3 zs:Rat))(hk:4*k+4<1099511627776) :
  ab prog 132 #[.agg #[.bool b1,.slice p n c,.bool b2,.slice q m e,.bool b3,.slice s i j]] V fun r V'=>∃v,r=.tuple #[v,.bool (fH b1 xs b2 ys b3 zs)]/\Ck v/\(fH b1 xs b2 ys b3 zs=true->uv V' v (au b1 xs) (au b2 ys) (au b3 zs)):=by
 refine vW _ p n c _ q m e _ s i j V _ fun V1 l1=>(dY b1 (hx.le l1) h1).mono ?_
 rintro r V2 l2 rfl
 refine ⟨_,rfl,fun h0 V3 l3=>lQ ?_,fun h0 V4 l4=>(dY b2 (hy.le (l1.trans (l2.trans l4))) h2).mono ?_⟩
 ·have h0:dT b1 xs=false:=by simpa using h0
  simp [fH,h0]
 have h0:dT b1 xs=true:=by simpa using h0
 rintro r V5 l5 rfl
 refine ⟨_,rfl,fun g0 V6 l6=>lQ ?_,fun g0 V7 l7=>(dY b3 (hz.le (l1.trans (l2.trans (l4.trans (l5.trans l7))))) h3).mono ?_⟩
 ·have g0:dT b2 ys=false:=by simpa using g0
  simp [fH,g0]
 have g0:dT b2 ys=true:=by simpa using g0
 rintro r V8 l8 rfl
 have HK:=l1.trans (l2.trans (l4.trans (l5.trans (l7.trans l8))))
 refine ⟨_,rfl,fun f0 V9 l9=>lQ ?_,fun f0 iC l10=>(gV b1 (hx.le (HK.trans l10)) h1).mono ?_⟩
 ·have f0:dT b3 zs=false:=by simpa using f0
  simp [fH,f0]
 have f0:dT b3 zs=true:=by simpa using f0
 rintro r mf cB ra
 obtain ⟨x1,x2,x3,rfl⟩:=ra.shape
 have Gh:=HK.trans (l10.trans cB)
 refine ⟨_,_,_,rfl,fun mg cX=>(gV b2 (hy.le (Gh.trans cX)) h2).mono ?_⟩
 rintro r nW cZ rb
 obtain ⟨y1,y2,y3,rfl⟩:=rb.shape
 have xo:=Gh.trans (cX.trans cZ)
 refine ⟨_,_,_,rfl,fun mU dL=>(gV b3 (hz.le (xo.trans dL)) h3).mono ?_⟩
 rintro r mh eC rc
 obtain ⟨z1,z2,z3,rfl⟩:=rc.shape
 replace ra:=ra.le (cX.trans (cZ.trans (dL.trans eC)))
 replace rb:=rb.le (dL.trans eC)
 have hok:fH b1 xs b2 ys b3 zs=(!(decide ((au b1 xs:Rat)=0)&&decide ((au b2 ys:Rat)=0))&&decide (fY (fY (au b1 xs) (au b2 ys)) (au b3 zs)=((1:Int):Rat))):=by
  simp only [fH,h0,g0,f0,Bool.true_and]
 rw [hok]
 clear hok h0 g0 f0 hx hy hz
 generalize (au b1 xs:Rat)=A at *
 generalize (au b2 ys:Rat)=B at *
 generalize (au b3 zs:Rat)=C at *
 refine ⟨_,_,_,rfl,fun nX dM=>(uG (ra.le dM)).mono ?_⟩
 rintro r nJ dR rfl
 refine ⟨_,rfl,fun t0 ry fu=>(uG (rb.le (dM.trans (dR.trans fu)))).mono ?_,fun t0 ux iy=>?_⟩
 ·rintro r wE gG rfl
  refine ⟨_,rfl,fun u0 Al lj=>lQ (by rw [t0,u0];rfl),fun u0 ux iy=>?_⟩
  have lb:mh.Le ux:=dM.trans (dR.trans (fu.trans (gG.trans iy)))
  have hn:(decide (A=0)&&decide (B=0))=false:=by rw [u0,Bool.and_false]
  rw [hn]
  refine (gU (ra.le lb) (rb.le lb) s1 s2 (by omega)).mono ?_
  rintro r yS lN rg
  obtain ⟨g1,g2,g3,rfl⟩:=rg.shape
  refine ⟨_,_,_,rfl,fun wJ jy=>(gU (rg.le jy) (rc.le (lb.trans (lN.trans jy))) (jj s1 s2) s3 (by omega)).mono ?_⟩
  rintro r Cc xq rh
  obtain ⟨h1,h2,h3,rfl⟩:=rh.shape
  refine ⟨_,_,_,rfl,fun Cd qk=>(jL 1 (by omega) (by omega)).mono ?_⟩
  rintro r Fk yy ri
  obtain ⟨i1,i2,i3,rfl⟩:=ri.shape
  refine ⟨_,_,_,rfl,fun Hy sj=>(rK (rh.le (qk.trans (yy.trans sj))) (ri.le sj) (jj (jj s1 s2) s3) xP (by omega)).mono ?_⟩
  rintro r Fl CQ rfl
  have lz:mh.Le Fl:=lb.trans (lN.trans (jy.trans (xq.trans (qk.trans (yy.trans (sj.trans CQ))))))
  refine ⟨_,rfl,fun w0 H5 DS=>lQ ?_,fun w0 Fm zw=>?_⟩
  ·rw [Bool.not_eq_true'] at w0
   rw [w0];rfl
  ·have w0:decide (fY (fY A B) C=((1:Int):Rat))=true:=by
    cases h:decide (fY (fY A B) C=((1:Int):Rat))
    ·rw [h] at w0;cases w0
    ·rfl
   rw [w0]
   exact ⟨_,rfl,⟨_,_,_,_,_,_,_,_,_,rfl⟩,fun _=>⟨_,_,_,_,_,_,_,_,_,rfl,ra.le (lz.trans zw),rb.le (lz.trans zw),rc.le (lz.trans zw)⟩⟩
 ·have lb:mh.Le ux:=dM.trans (dR.trans iy)
  have hn:(decide (A=0)&&decide (B=0))=false:=by rw [t0,Bool.false_and]
  rw [hn]
  refine (gU (ra.le lb) (rb.le lb) s1 s2 (by omega)).mono ?_
  rintro r yS lN rg
  obtain ⟨g1,g2,g3,rfl⟩:=rg.shape
  refine ⟨_,_,_,rfl,fun wJ jy=>(gU (rg.le jy) (rc.le (lb.trans (lN.trans jy))) (jj s1 s2) s3 (by omega)).mono ?_⟩
  rintro r Cc xq rh
  obtain ⟨h1,h2,h3,rfl⟩:=rh.shape
  refine ⟨_,_,_,rfl,fun Cd qk=>(jL 1 (by omega) (by omega)).mono ?_⟩
  rintro r Fk yy ri
  obtain ⟨i1,i2,i3,rfl⟩:=ri.shape
  refine ⟨_,_,_,rfl,fun Hy sj=>(rK (rh.le (qk.trans (yy.trans sj))) (ri.le sj) (jj (jj s1 s2) s3) xP (by omega)).mono ?_⟩
  rintro r Fl CQ rfl
  have lz:mh.Le Fl:=lb.trans (lN.trans (jy.trans (xq.trans (qk.trans (yy.trans (sj.trans CQ))))))
  refine ⟨_,rfl,fun w0 H5 DS=>lQ ?_,fun w0 Fm zw=>?_⟩
  ·rw [Bool.not_eq_true'] at w0
   rw [w0];rfl
  ·have w0:decide (fY (fY A B) C=((1:Int):Rat))=true:=by
    cases h:decide (fY (fY A B) C=((1:Int):Rat))
    ·rw [h] at w0;cases w0
    ·rfl
   rw [w0]
   exact ⟨_,rfl,⟨_,_,_,_,_,_,_,_,_,rfl⟩,fun _=>⟨_,_,_,_,_,_,_,_,_,rfl,ra.le (lz.trans zw),rb.le (lz.trans zw),rc.le (lz.trans zw)⟩⟩
def C3:List Int->Int
 | []=>0
 | x::r=>if x=0 then C3 r else x
def EE (l:List Int):List Value:=l.map fun x=>Value.int .i64 x
theorem ET {l:List Int}:C3 l=0↔∀x∈l,x=0:=by
 induction l with
 | nil=>simp [C3]
 | cons x r ih=>
  simp only [C3,List.mem_cons,forall_eq_or_imp]
  split
  ·rename_i h;simp [h,ih]
  ·rename_i h;simp [h]
theorem AF {V:View}{p:OA}{n c:Nat}{l:List Int}(hl:n=l.length)(hs:V.sl p (EE l))(hm:l.length<=1099511627776) :
  ab prog 177 #[.slice p n c] V fun r V'=>r=.int .i64 (C3 l):=by
 refine zY p n c V _ ⟨fun z V'=>0<=z/\z<=n/\C3 l=C3 (l.drop z.toNat),fun z=>n-z.toNat,⟨0,by (try dsimp only);and_intros<;>first|exact True.intro|rfl,by (try dsimp only);omega,by (try dsimp only);omega,rfl⟩,?_⟩
 rintro i V1 l1 ⟨hi0,hi1,he⟩
 dsimp only at hi1 he ⊢
 obtain ⟨i,rfl⟩:=Int.eq_ofNat_of_zero_le hi0
 simp only [Int.toNat_natCast] at he
 refine ⟨by trivial,fun h3=>?_,fun h3 V3 l3=>?_⟩
 ·have h3:i<n:=by simpa using h3
  have hil:i<l.length:=by omega
  obtain ⟨ad,e1,hat⟩:=(l1.sl hs) i (.int .i64 l[i]) (by simp [EE,hil])
  rw [List.drop_eq_getElem_cons hil,C3] at he
  refine ⟨by rw [e1];rfl,⟨by omega,by omega⟩,l[i],⟨ad.add i,by rw [e1];simp [af],hat⟩,fun h4 V2 l2=>?_,fun h4=>?_⟩
  ·have h4:l[i]≠0:=by simpa using h4
   rw [if_neg h4] at he
   rw [he]
  ·have h4:l[i]=0:=by simpa using h4
   rw [if_pos h4] at he
   have w:i64.wrap ((i:Int)+1)=((i+1:Nat):Int):=by rw [aD (by omega)];omega
   simp only [w]
   refine ⟨((i+1:Nat):Int),?_,by (try dsimp only);and_intros<;>first|exact True.intro|rfl,by (try dsimp only);omega,by (try dsimp only);omega,?_⟩
   ·(try dsimp only);omega
   ·exact he
 ·have h3:i=n:=by simp at h3;omega
  rw [List.drop_of_length_le (by omega)] at he
  rw [he];rfl
theorem yY {V:View}{v w:Value}{a b c a' b' c':Rat}(hx:uv V v a b c)(hy:uv V w a' b' c'){k m:Nat}(s1:Sz k a)(s2:Sz k b)(s3:Sz k c)(t1:Sz m a')(t2:Sz m b')(t3:Sz m c')(hk:k+m<1099511627776) :
  ab prog 140 #[v,w] V fun r V'=>r=.int .i64 (C3 [fW a a',fW b b',fW c c']):=by
 obtain ⟨x1,x2,p,y1,y2,q,z1,z2,r,rfl,h1,h2,h3⟩:=hx
 obtain ⟨x3,x4,p',y3,y4,q',z3,z4,r',rfl,g1,g2,g3⟩:=hy
 refine qS _ _ _ _ _ _ _ _ _ _ _ _ _ _ _ _ _ _ V _ fun V1 l1=>(nK (h1.le l1) (g1.le l1) s1 t1 hk).mono ?_
 rintro r V2 l2 rfl
 refine ⟨_,rfl,fun V3 l3=>(nK (h2.le (l1.trans (l2.trans l3))) (g2.le (l1.trans (l2.trans l3))) s2 t2 hk).mono ?_⟩
 rintro r V4 l4 rfl
 have xp:=l1.trans (l2.trans (l3.trans l4))
 refine ⟨_,rfl,fun V5 l5=>(nK (h3.le (xp.trans l5)) (g3.le (xp.trans l5)) s3 t3 hk).mono ?_⟩
 rintro r V6 l6 rfl
 refine ⟨_,rfl,fun V7 l7 bk hb=>(AF (l:=[fW a a',fW b b',fW c c']) rfl (fun i v hv=>⟨_,rfl,by rw [add_zero'];exact bW (xs:=EE [fW a a',fW b b',fW c c']) hb hv⟩) (by simp)).mono ?_⟩
 rintro r V8 l8 rfl
 exact ⟨_,rfl,fun _ V9 l9=>rfl⟩
theorem uI {V:View}{v w:Value}{a b c a' b' c':Rat}(hx:uv V v a b c)(hy:uv V w a' b' c'){k m:Nat}(s1:Sz k a)(s2:Sz k b)(s3:Sz k c)(t1:Sz m a')(t2:Sz m b')(t3:Sz m c')(hk:k+m<1099511627776) :
  ab prog 142 #[v,w] V fun r V'=>r=.bool (decide (a=a'/\b=b'/\c=c')):=by
 have hx0:=hx
 have hy0:=hy
 obtain ⟨x1,x2,p,y1,y2,q,z1,z2,r,rfl,-,-,-⟩:=hx
 obtain ⟨x3,x4,p',y3,y4,q',z3,z4,r',rfl,-,-,-⟩:=hy
 refine ny _ _ _ _ _ _ _ _ _ _ _ _ _ _ _ _ _ _ V _ fun V1 l1=>(yY (hx0.le l1) (hy0.le l1) s1 s2 s3 t1 t2 t3 hk).mono ?_
 rintro r V2 l2 rfl
 refine ⟨_,rfl,fun V3 l3=>?_⟩
 congr 1
 rw [Bool.eq_iff_iff,decide_eq_true_eq,beq_iff_eq,ET]
 simp [←jl]
theorem An (a:Addr)(i j:Nat):(a.add i).add j=a.add (i+j):=by
 unfold Addr.add
 by_cases h1:i=0
 ·subst h1;simp
 ·by_cases h2:j=0
  ·subst h2;simp [h1]
  ·simp [h1,h2,Nat.add_assoc]
theorem um {V:View}{b:Nat}{xs:List Value}{ty:TypeId}{m:Nat×Nat}(h:V.bf b (.cells xs.toArray ty m))(i:Nat){v:Value}(hv:xs[i]?=some v):∃a,af (some ⟨b,0,none⟩) i=some a/\V.at a v:=
 ⟨⟨b,i,none⟩,by simp [af,add_zero'],bW h hv⟩
theorem pv {a b c:Int}:fH (decide (a<0)) (ag a.natAbs) (decide (b<0)) (ag b.natAbs) (decide (c<0)) (ag c.natAbs)=fF (a,b,c):=by
 have hn:∀z:Int,dT (decide (z<0)) (ag z.natAbs)=true:=by
  intro z
  unfold dT
  rw [ae]
  simp only [decide_true,Bool.true_and]
  by_cases h:z<0
  ·simp only [h,decide_true,Bool.not_true,Bool.false_or,decide_eq_true_eq]
   intro e
   have:=bg.1 e
   omega
  ·simp [h]
 have hg:fY (fY (a:Rat) (b:Rat)) (c:Rat)=((fX a b c:Nat):Int):=by
  have g2:∀x y:Int,fY (x:Rat) (y:Rat)=((Nat.gcd x.natAbs y.natAbs:Nat):Int):=by
   intro x y
   unfold fY
   have e1:((x:Rat)).num=x:=rfl
   have e2:((y:Rat)).num=y:=rfl
   have e3:((x:Rat)).den=1:=rfl
   have e4:((y:Rat)).den=1:=rfl
   rw [e1,e2,e3,e4]
   simp only [Nat.mul_one]
   exact Rat.mkRat_one _
  rw [g2,g2]
  rfl
 unfold fH fF
 rw [hn,hn,hn,aM,aM,aM,hg]
 have h0:∀z:Int,((z:Rat)=0)↔z=0:=fun z=>by exact Rat.intCast_eq_zero_iff
 simp only [Bool.true_and,h0]
 rw [Bool.eq_iff_iff]
 simp only [Bool.and_eq_true,Bool.not_eq_true',Bool.and_eq_false_iff,decide_eq_false_iff_not,decide_eq_true_eq]
 have h1:(((fX a b c:Nat):Int):Rat)=((1:Int):Rat)↔fX a b c=1:=by
  rw [Rat.intCast_inj];omega
 rw [h1]
 constructor
 ·rintro ⟨h,h'⟩;exact ⟨fun e=>by rcases h with h|h;exact h e.1;exact h e.2,h'⟩
 ·rintro ⟨h,h'⟩
  refine ⟨?_,h'⟩
  by_cases ha:a=0
  ·exact .inr fun hb=>h ⟨ha,hb⟩
  ·exact .inl ha
theorem jY {z:Int}{k:Nat}(h:z.natAbs<2^k)(hk:0<k):Sz k (z:Rat):=⟨h,Nat.one_lt_two_pow (by omega)⟩
theorem Bd.ag {x:L3}(h:Bd x):(ag x.1.natAbs).length<=1000/\(ag x.2.1.natAbs).length<=1000/\(ag x.2.2.natAbs).length<=1000:=⟨ao h.1,ao h.2.1,ao h.2.2⟩
theorem Bd.sz {x:L3}(h:Bd x):Sz 1000 (x.1:Rat)/\Sz 1000 (x.2.1:Rat)/\Sz 1000 (x.2.2:Rat):=⟨jY h.1 (by omega),jY h.2.1 (by omega),jY h.2.2 (by omega)⟩
theorem mo {V:View}{v:Value}{x:L3}(h:RL V v x.1 x.2.1 x.2.2)(hb:Bd x) :
  ab prog 132 #[v] V fun r V'=>∃w,r=.tuple #[w,.bool (fF x)]/\Ck w/\(fF x=true->uv V' w x.1 x.2.1 x.2.2):=by
 obtain ⟨p,n,s,p',n',s',q,m,e,rfl,h1,h2,h3⟩:=h
 obtain ⟨d1,d2,d3⟩:=hb.ag
 obtain ⟨s1,s2,s3⟩:=hb.sz
 have hc:=oq (V:=V) (decide (x.1<0)) (decide (x.2.1<0)) (decide (x.2.2<0)) h1 h2 h3 (by omega) (by omega) (by omega) (k:=1000) (by rw [aM];exact s1) (by rw [aM];exact s2) (by rw [aM];exact s3) (by omega)
 rw [pv,aM,aM,aM] at hc
 exact hc
def RT (V:View):OA->Tr->Prop
 | p,.leaf i=>∃(b:Nat)(c0 c1 c2 c3 c4 c5 c6 c7 c8:Value)(r:OA),p=some ⟨b,0,none⟩/\V.bf b (.cells #[c0,c1,c2,c3,c4,c5,c6,c7,c8,.pointer none,.pointer r,.bool i] 190 (0,0))
 | p,.node l x y=>∃(b:Nat)(x1 x2:Int)(x3:OA)(y1 y2:Int)(y3:OA)(z1 z2:Int)(z3:OA)(pl pr:OA)(i:Bool),p=some ⟨b,0,none⟩ /\
   V.bf b (.cells #[.int .i64 x1,.int .i64 x2,.pointer x3,.int .i64 y1,.int .i64 y2,.pointer y3,.int .i64 z1,.int .i64 z2,.pointer z3,.pointer pl,.pointer pr,.bool i] 190 (0,0)) /\
   uv V (.agg #[.int .i64 x1,.int .i64 x2,.pointer x3,.int .i64 y1,.int .i64 y2,.pointer y3,.int .i64 z1,.int .i64 z2,.pointer z3]) l.1 l.2.1 l.2.2/\RT V pl x/\RT V pr y
theorem RT.le {V V':View}(h:V.Le V'):∀{t:Tr} {p:OA},RT V p t->RT V' p t
 | .leaf i,p,⟨b,c0,c1,c2,c3,c4,c5,c6,c7,c8,r,e,hb⟩=>⟨b,c0,c1,c2,c3,c4,c5,c6,c7,c8,r,e,h _ _ hb⟩
 | .node l x y,p,⟨b,x1,x2,x3,y1,y2,y3,z1,z2,z3,pl,pr,i,e,hb,hl,hx,hy⟩=>⟨b,x1,x2,x3,y1,y2,y3,z1,z2,z3,pl,pr,i,e,h _ _ hb,hl.le h,RT.le h hx,RT.le h hy⟩
theorem RT.Ah {V:View}{t:Tr}{p:OA}(h:RT V p t):p.isSome=true:=by
 cases t with
 | leaf i=>obtain ⟨b,c0,c1,c2,c3,c4,c5,c6,c7,c8,r,rfl,hb⟩:=h;rfl
 | node l x y=>obtain ⟨b,x1,x2,x3,y1,y2,y3,z1,z2,z3,pl,pr,i,rfl,-⟩:=h;rfl
theorem dV {V:View}(i:Bool):ab prog 145 #[.bool i] V fun r V'=>∃p,r=.pointer p/\RT V' p (.leaf i):=
 vS i V _ fun V1 l1 b hb=>⟨_,rfl,b,_,_,_,_,_,_,_,_,_,_,rfl,hb⟩
theorem bF {V:View}{p:OA}{t:Tr}(h:RT V p t):ab prog 124 #[.pointer p] V fun r V'=>r=.bool t.fZ:=by
 cases t with
 | leaf i=>
  obtain ⟨b,c0,c1,c2,c3,c4,c5,c6,c7,c8,r,rfl,hb⟩:=h
  exact iB _ V _ ⟨rfl,rfl,_,um hb 9 rfl,fun V1 l1=>rfl⟩
 | node l x y=>
  obtain ⟨b,x1,x2,x3,y1,y2,y3,z1,z2,z3,pl,pr,i,rfl,hb,hl,hx,hy⟩:=h
  refine iB _ V _ ⟨rfl,rfl,_,um hb 9 rfl,fun V1 l1=>?_⟩
  have:=hx.Ah
  cases pl with
  | none=>cases this
  | some a=>rfl
theorem rM {V:View}{v:Value}{l:L3}{p q:OA}{x y:Tr}(hl:uv V v l.1 l.2.1 l.2.2)(hx:RT V p x)(hy:RT V q y) :
  ab prog 133 #[v,.pointer p,.pointer q] V fun r V'=>∃p',r=.pointer p'/\RT V' p' (.node l x y):=by
 have hl0:=hl
 obtain ⟨x1,x2,x3,y1,y2,y3,z1,z2,z3,rfl,-⟩:=hl
 exact xT _ _ _ _ _ _ _ _ _ p q V _ fun V1 l1 b hb=>⟨_,rfl,b,_,_,_,_,_,_,_,_,_,_,_,_,rfl,hb,hl0.le l1,hx.le l1,hy.le l1⟩
def Aa (V:View)(v:Value)(l:L3):Prop:=RL V v l.1 l.2.1 l.2.2\/fF l=false/\∃b1 p n c xs b2 q m e ys b3 s i j zs,v=.agg #[.bool b1,.slice p n c,.bool b2,.slice q m e,.bool b3,.slice s i j]/\RD V p n c xs/\RD V q m e ys/\RD V s i j zs /\
 fH b1 xs b2 ys b3 zs=false/\(xs.length<=1000000/\ys.length<=1000000/\zs.length<=1000000)/\Sz 1000000 (au b1 xs:Rat)/\Sz 1000000 (au b2 ys:Rat)/\Sz 1000000 (au b3 zs:Rat)
theorem Aa.le {V V':View}{v:Value}{l:L3}(h:Aa V v l)(e:V.Le V'):Aa V' v l:=by
 rcases h with h|⟨ho,b1,p,n,c,xs,b2,q,m,e',ys,b3,s,i,j,zs,hv,h1,h2,h3,h4⟩
 ·exact .inl (h.le e)
 ·exact .inr ⟨ho,b1,p,n,c,xs,b2,q,m,e',ys,b3,s,i,j,zs,hv,h1.le e,h2.le e,h3.le e,h4⟩
theorem Aa.ok {V:View}{v:Value}{l:L3}(h:Aa V v l)(ho:fF l=true):RL V v l.1 l.2.1 l.2.2:=by
 rcases h with h|⟨h,-⟩
 ·exact h
 ·rw [ho] at h;cases h
theorem sS {V:View}{v:Value}{x:L3}(h:Aa V v x)(hb:Bd x) :
  ab prog 132 #[v] V fun r V'=>∃w,r=.tuple #[w,.bool (fF x)]/\Ck w/\(fF x=true->uv V' w x.1 x.2.1 x.2.2):=by
 rcases h with h|⟨ho,b1,p,n,c,xs,b2,q,m,e',ys,b3,s,i,j,zs,rfl,h1,h2,h3,h4,⟨m1,m2,m3⟩,s1,s2,s3⟩
 ·exact mo h hb
 ·refine (oq b1 b2 b3 h1 h2 h3 (by omega) (by omega) (by omega) s1 s2 s3 (by omega)).mono ?_
  rintro r V2 l2 ⟨w,rfl,g1,g2⟩
  rw [h4] at g2 ⊢
  rw [ho]
  exact ⟨w,rfl,g1,fun h=>by cases h⟩
def NR (V:View)(vs:List Value)(l:List Nd):Prop:=∀(i:Nat)(d:Nd),l[i]?=some d->∃(b1:Bool)(p1:OA)(n1 c1:Nat)(b2:Bool)(p2:OA)(n2 c2:Nat)(b3:Bool)(p3:OA)(n3 c3:Nat),
 (∀j v,([.bool b1,.slice p1 n1 c1,.bool b2,.slice p2 n2 c2,.bool b3,.slice p3 n3 c3,.int .i64 d.left,.int .i64 d.right]:List Value)[j]?=some v->vs[i*8+j]?=some v) /\
 Aa V (.agg #[.bool b1,.slice p1 n1 c1,.bool b2,.slice p2 n2 c2,.bool b3,.slice p3 n3 c3]) d.ln
theorem NR.le {V V':View}{vs:List Value}{l:List Nd}(h:NR V vs l)(hl:V.Le V'):NR V' vs l:=fun i d hd=>by
 obtain ⟨b1,p1,n1,c1,b2,p2,n2,c2,b3,p3,n3,c3,h1,h2⟩:=h i d hd
 exact ⟨b1,p1,n1,c1,b2,p2,n2,c2,b3,p3,n3,c3,h1,h2.le hl⟩
structure NS (V:View) (p:OA) (n c:Nat) (l:List Nd):Prop where
 len:n=l.length
 cap:n<=c
 row:∃vs,V.sl p vs/\NR V vs l
 zD:p.isNone=true->c=0
theorem NS.le {V V':View}{p:OA}{n c:Nat}{l:List Nd}(h:NS V p n c l)(hl:V.Le V'):NS V' p n c l:=by
 obtain ⟨h1,h2,⟨vs,h3,h4⟩,h5⟩:=h
 exact ⟨h1,h2,⟨vs,hl.sl h3,h4.le hl⟩,h5⟩
theorem NS.nil {V:View}:NS V none 0 0 []:=⟨rfl,Nat.le_refl _,⟨[],fun i v h=>by simp at h,fun i d h=>by simp at h⟩,fun _=>rfl⟩
theorem NS.Ah {V:View}{p:OA}{n c:Nat}{l:List Nd}(h:NS V p n c l)(hn:n≠0):p.isSome=true:=by
 cases p with
 | none=>have:=h.zD rfl;have:=h.cap;omega
 | some a=>rfl
def dt (l:List Bool):List Value:=l.map .bool
theorem lx {l:List Bool}{i:Nat}{b:Bool}(h:l[i]?=some b):(dt l)[i]?=some (.bool b):=by simp [dt,h]
theorem NS.rd {V:View}{p:OA}{n c:Nat}{l:List Nd}(h:NS V p n c l){k:Nat}{d:Nd}(hd:l[k]?=some d) :
  ∃(b1:Bool)(p1:OA)(n1 c1:Nat)(b2:Bool)(p2:OA)(n2 c2:Nat)(b3:Bool)(p3:OA)(n3 c3:Nat)(a:Addr),af p (k*8)=some a /\
   V.at (a.add 0) (.bool b1)/\V.at (a.add 1) (.slice p1 n1 c1)/\V.at (a.add 2) (.bool b2)/\V.at (a.add 3) (.slice p2 n2 c2)/\V.at (a.add 4) (.bool b3)/\V.at (a.add 5) (.slice p3 n3 c3)/\V.at (a.add 6) (.int .i64 d.left)/\V.at (a.add 7) (.int .i64 d.right) /\
   Aa V (.agg #[.bool b1,.slice p1 n1 c1,.bool b2,.slice p2 n2 c2,.bool b3,.slice p3 n3 c3]) d.ln:=by
 obtain ⟨vs,hs,hr⟩:=h.row
 obtain ⟨b1,p1,n1,c1,b2,p2,n2,c2,b3,p3,n3,c3,h1,h2⟩:=hr k d hd
 obtain ⟨ad,rfl,-⟩:=hs _ _ (h1 0 _ rfl)
 have key:∀j v,([.bool b1,.slice p1 n1 c1,.bool b2,.slice p2 n2 c2,.bool b3,.slice p3 n3 c3,.int .i64 d.left,.int .i64 d.right]:List Value)[j]?=some v->V.at ((ad.add (k*8)).add j) v:=by
  intro j v hv
  obtain ⟨Mf,e,ha⟩:=hs _ _ (h1 j v hv)
  cases e
  rw [An]
  exact ha
 exact ⟨b1,p1,n1,c1,b2,p2,n2,c2,b3,p3,n3,c3,_,rfl,key 0 _ rfl,key 1 _ rfl,key 2 _ rfl,key 3 _ rfl,key 4 _ rfl,key 5 _ rfl,key 6 _ rfl,key 7 _ rfl,h2⟩
theorem wT {l:List Nd}(hb:∀x∈l,Bd x.ln)(hlen:l.length<=65536):∀(f:Nat) (n:Int) (s:RS) {V:View} {rb sb:Nat} {Ci:OA} {nc:Nat},NS V Ci l.length nc l ->
  V.w.heap[rb]?=some (.cells #[.slice Ci l.length nc,.slice (some ⟨sb,0,none⟩) l.length l.length,.int .i64 (s.eS:Int),.bool s.bad] 162 (0,0))->V.X rb ->
  V.w.heap[sb]?=some (.cells (dt s.seen).toArray 4 (0,0))->V.X sb->rb≠sb->s.seen.length=l.length->s.seen.count false<f->s.eS+s.seen.count false<=l.length ->
  ab prog 98 #[.pointer (some ⟨rb,0,none⟩),.int .i64 n] V fun r V'=>∃p,r=.pointer p/\RT V' p (bQ l f n s).1 /\
   V'.w.heap[rb]?=some (.cells #[.slice Ci l.length nc,.slice (some ⟨sb,0,none⟩) l.length l.length,.int .i64 ((bQ l f n s).2.eS:Int),.bool (bQ l f n s).2.bad] 162 (0,0)) /\
   V'.w.heap[sb]?=some (.cells (dt (bQ l f n s).2.seen).toArray 4 (0,0)):=by
 intro f
 induction f with
 | zero=>intro n s V rb sb Ci nc _ _ _ _ _ _ _ h;omega
 | succ f ih=>
  intro n s V rb sb Ci nc hns hw1 hx1 hw2 hx2 hne hsl hcf hct
  refine kd rb sb Ci l.length nc l.length l.length s.eS s.bad (dt s.seen) n V _ hw1 hx1 hw2 hx2 hne ⟨fun h0 V1 l1=>(dV _).mono ?_,fun h0=>⟨fun h1 V4 l4=>(dV _).mono ?_,fun h1=>⟨fun h2 V7 l7=>(dV _).mono ?_,fun h2=>⟨fun h3 iC l10=>(dV _).mono ?_,fun h3=>?_⟩⟩⟩⟩
  ·rintro r V2 l2 ⟨p,rfl,hp⟩
   have e0:n=-2:=by simpa using h0
   have e:bQ l (f+1) n s=(.leaf true,s):=by simp [bQ,e0]
   rw [h0] at hp
   exact ⟨p,rfl,fun V3 l3 g1 g2=>⟨p,rfl,by rw [e];exact hp.le l3,by rw [e];exact g1,by rw [e];exact g2⟩⟩
  ·rintro r V2 l2 ⟨p,rfl,hp⟩
   have e0:n=-1:=by simpa using h1
   have e:bQ l (f+1) n s=(.leaf false,s):=by simp [bQ,e0]
   rw [h0] at hp
   exact ⟨p,rfl,fun V3 l3 g1 g2=>⟨p,rfl,by rw [e];exact hp.le l3,by rw [e];exact g1,by rw [e];exact g2⟩⟩
  ·rintro r V2 l2 ⟨p,rfl,hp⟩
   have n0:¬n=-2:=by simpa using h0
   have n1:¬n=-1:=by simpa using h1
   have n2:n<0:=by simpa using h2
   have e:bQ l (f+1) n s=(.leaf false,{ s with bad:=true }):=by simp [bQ,n0,n1,n2]
   exact ⟨p,rfl,fun V3 l3 g1 g2=>⟨p,rfl,by rw [e];exact hp.le l3,by rw [e];exact g1,by rw [e];exact g2⟩⟩
  ·rintro r V2 l2 ⟨p,rfl,hp⟩
   have n0:¬n=-2:=by simpa using h0
   have n1:¬n=-1:=by simpa using h1
   have n2:¬n<0:=by simpa using h2
   have n3:(l.length:Int)<=n:=by simpa using h3
   have e:bQ l (f+1) n s=(.leaf false,{ s with bad:=true }):=by
    simp only [bQ,n0,n1,n2,if_false]
    rw [List.getElem?_eq_none (by omega)]
   exact ⟨p,rfl,fun V3 l3 g1 g2=>⟨p,rfl,by rw [e];exact hp.le l3,by rw [e];exact g1,by rw [e];exact g2⟩⟩
  ·have n0:¬n=-2:=by simpa using h0
   have n1:¬n=-1:=by simpa using h1
   have n2:¬n<0:=by simpa using h2
   have n3:n<(l.length:Int):=by simpa using h3
   clear h0 h1 h2 h3
   obtain ⟨k,rfl⟩:=Int.eq_ofNat_of_zero_le (Int.not_lt.1 n2)
   have hk:k<l.length:=by omega
   have hks:k<s.seen.length:=by omega
   simp only [Int.toNat_natCast,Nat.mul_one,Nat.zero_add]
   have hsk:s.seen[k]?=some s.seen[k]:=List.getElem?_eq_getElem hks
   have hlk:l[k]?=some l[k]:=List.getElem?_eq_getElem hk
   refine ⟨⟨by omega,n3⟩,s.seen[k],lx hsk,fun h4 nW cZ=>(dV _).mono ?_,fun h4=>⟨⟨by omega,n3⟩,by simp [dt];omega,hns.Ah (by omega),⟨by omega,n3⟩,?_⟩⟩
   ·rintro r V2 l2 ⟨p,rfl,hp⟩
    have e:bQ l (f+1) (k:Int) s=(.leaf false,{ s with bad:=true }):=by
     simp only [bQ,n0,n1,n2,if_false,Int.toNat_natCast]
     rw [hsk,h4,hlk]
    exact ⟨p,rfl,fun V3 l3 g1 g2=>⟨p,rfl,by rw [e];exact hp.le l3,by rw [e];exact g1,by rw [e];exact g2⟩⟩
   ·obtain ⟨b1,p1,m1,c1,b2,p2,m2,c2,b3,p3,m3,c3,a,ha,a0,a1,a2,a3,a4,a5,a6,a7,hL⟩:=hns.rd hlk
    refine ⟨b1,p1,m1,c1,b2,p2,m2,c2,b3,p3,m3,c3,_,_,a,ha,a0,a1,a2,a3,a4,a5,a6,a7,fun nX dM=>(sS (hL.le dM) (hb _ (List.getElem_mem hk))).mono ?_⟩
    rintro r nJ dR ⟨w,rfl,⟨x1,x2,x3,y1,y2,y3,z1,z2,z3,rfl⟩,hw⟩
    rw [h4] at hsk
    have hset:(dt s.seen).set k (.bool true)=dt (s.seen.set k true):=by simp [dt,List.map_set]
    have hcount:=count_set hsk
    have w1:i64.wrap ((s.eS:Int)+1)=((s.eS+1:Nat):Int):=by rw [aD (by omega)];omega
    rw [hset,w1]
    refine ⟨_,_,_,_,_,_,_,_,_,_,rfl,fun h5 ry fu=>(dV _).mono ?_,fun h5 ux iy bk1 bk2 g1 g2 g3 g4 g5=>?_⟩
    ·rintro r V2 l2 ⟨p,rfl,hp⟩
     have h5:fF l[k].ln=false:=by simpa using h5
     have e:bQ l (f+1) (k:Int) s=(.leaf false,⟨s.seen.set k true,s.eS+1,true⟩):=by
      simp only [bQ,n0,n1,n2,if_false,Int.toNat_natCast]
      rw [hsk,hlk]
      simp [h5]
     exact ⟨p,rfl,fun V3 l3 g1 g2=>⟨p,rfl,by rw [e];exact hp.le l3,by rw [e];exact g1,by rw [e];exact g2⟩⟩
    ·have h5:fF l[k].ln=true:=by simpa using h5
     have lv:V.Le ux:=dM.trans (dR.trans iy)
     have lX:∀(U:View)(u v:Nat),U.H u->U.H v->(U.aH [u,v]).X u/\(U.aH [u,v]).X v:=fun U u v hu hv=>⟨⟨by simp,hu⟩,⟨by simp,hv⟩⟩
     have i1:=ih l[k].left ⟨s.seen.set k true,s.eS+1,s.bad⟩ (V:=ux.aH [bk1,bk2]) (hns.le lv) g1 (lX _ _ _ g2 g4).1 g3 (lX _ _ _ g2 g4).2 g5 (by simp [hsl]) (by dsimp only;omega) (by dsimp only;omega)
     have hm:=gK l f l[k].left ⟨s.seen.set k true,s.eS+1,s.bad⟩
     have hcc:=nR l f l[k].left ⟨s.seen.set k true,s.eS+1,s.bad⟩
     have e:bQ l (f+1) (k:Int) s=(.node l[k].ln (bQ l f l[k].left ⟨s.seen.set k true,s.eS+1,s.bad⟩).1 (bQ l f l[k].right (bQ l f l[k].left ⟨s.seen.set k true,s.eS+1,s.bad⟩).2).1,(bQ l f l[k].right (bQ l f l[k].left ⟨s.seen.set k true,s.eS+1,s.bad⟩).2).2):=by
      simp only [bQ,n0,n1,n2,if_false,Int.toNat_natCast]
      rw [hsk,hlk]
      simp [h5]
     rw [e]
     clear e
     dsimp only
     generalize bQ l f l[k].left ⟨s.seen.set k true,s.eS+1,s.bad⟩=q1 at *
     obtain ⟨t1,s1⟩:=q1
     dsimp only at i1 hm hcc ⊢
     refine i1.mono ?_
     rintro r yS lN ⟨p,rfl,hp,e1,e2⟩
     refine ⟨p,rfl,_,_,_,_,_,e1,_,e2,fun wJ jy E5 E6 f1 f2 f3 f4 f5=>?_⟩
     have Ld:ux.Le wJ:=fun b o h=>jy b o (lN b o h)
     have i2:=ih l[k].right s1 (V:=wJ.aH [E5,E6]) (hns.le (lv.trans Ld)) f1 (lX _ _ _ f2 f4).1 f3 (lX _ _ _ f2 f4).2 f5 (by rw [hm.2];simp [hsl]) (by omega) (by omega)
     generalize bQ l f l[k].right s1=q2 at *
     obtain ⟨t2,s2⟩:=q2
     dsimp only at i2 ⊢
     refine i2.mono ?_
     rintro r Cc xq ⟨q,rfl,hq,e3,e4⟩
     refine ⟨q,rfl,_,_,_,_,_,e3,_,e4,fun Cd qk=>?_⟩
     have Gm:wJ.Le Cc:=fun b o h=>xq b o h
     have EK:Cc.Le Cd:=fun b o h=>qk b o h
     have lw:nJ.Le Cd:=iy.trans (Ld.trans (Gm.trans EK))
     have I9:yS.Le wJ:=fun b o h=>jy b o h
     refine (rM ((hw h5).le lw) (hp.le (I9.trans (Gm.trans EK))) (hq.le EK)).mono ?_
     rintro r Fk yy ⟨u,rfl,hu⟩
     exact ⟨u,rfl,fun Hy sj g1 g2=>⟨u,rfl,hu.le sj,g1,g2⟩⟩
theorem AE {V:View}{l:List Nd}(hb:∀x∈l,Bd x.ln){p:OA}{n c:Nat}(root:Int)(h:NS V p n c l) :
  ab prog 45 #[.agg #[.int .i64 root,.slice p n c]] V fun r V'=>(dz l root=none->∃q,r=.tuple #[.pointer q,.bool false])/\(∀t,dz l root=some t->∃q,r=.tuple #[.pointer q,.bool true]/\RT V' q t):=by
 have hl:=h.len
 subst hl
 refine zX root p l.length c V _ ⟨fun h0 V1 l1=>?_,fun h0=>⟨by omega,Int.le_refl _,?_,fun V2 l2 bk1 bk2 g1 g2 g3 g4 g5=>?_⟩⟩
 ·have h0:65536<l.length:=by simp at h0;omega
  have e:dz l root=none:=by unfold dz;rw [if_pos h0]
  exact ⟨fun _=>⟨_,rfl⟩,fun t ht=>by rw [e] at ht;cases ht⟩
 ·have h0:¬65536<l.length:=by simp at h0;omega
  omega
 ·have h0:¬65536<l.length:=by simp at h0;omega
  simp only [Int.toNat_natCast] at g1 g3 ⊢
  have hr:List.replicate l.length (Value.bool false)=dt (List.replicate l.length false):=by simp [dt]
  rw [hr] at g3
  have hc0:(List.replicate l.length false).count false=l.length:=by simp
  refine (wT hb (by omega) (l.length+1) root ⟨List.replicate l.length false,0,false⟩ (V:=V2.aH [bk1,bk2]) (h.le l2) g1 ⟨by simp,g2⟩ g3 ⟨by simp,g4⟩ g5 (by simp) (by dsimp only;omega) (by dsimp only;omega)).mono ?_
  rintro r V3 l3 ⟨q,rfl,hq,e1,e2⟩
  have hof:dz l root=if (bQ l (l.length+1) root ⟨List.replicate l.length false,0,false⟩).2.bad=true\/(bQ l (l.length+1) root ⟨List.replicate l.length false,0,false⟩).2.eS≠l.length then none else some (bQ l (l.length+1) root ⟨List.replicate l.length false,0,false⟩).1:=by
   unfold dz;rw [if_neg h0]
  rw [hof]
  clear hof
  generalize bQ l (l.length+1) root ⟨List.replicate l.length false,0,false⟩=r0 at *
  obtain ⟨t,s⟩:=r0
  refine ⟨q,rfl,_,_,_,_,_,e1,_,e2,fun h1 V4 l4=>?_,fun h1=>⟨fun h2 V5 l5=>?_,fun h2 V6 l6=>?_⟩⟩
  ·rw [if_pos (.inl h1)]
   exact ⟨fun _=>⟨_,rfl⟩,fun t ht=>by cases ht⟩
  ·have h2:s.eS≠l.length:=by simp at h2;omega
   rw [if_pos (.inr h2)]
   exact ⟨fun _=>⟨_,rfl⟩,fun t ht=>by cases ht⟩
  ·have h2:s.eS=l.length:=by simp at h2;omega
   dsimp only at h1 ⊢
   rw [if_neg (by rw [h1,h2];simp)]
   exact ⟨fun e=>(by cases e),fun t1 ht=>by cases ht;exact ⟨q,rfl,RT.le (V:=V3) (V':=V6) (fun b o h=>l6 b o h) hq⟩⟩
end Go.Proofs.Tryz
