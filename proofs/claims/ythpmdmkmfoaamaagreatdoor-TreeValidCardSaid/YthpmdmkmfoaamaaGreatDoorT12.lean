import Derived.Test.YthpmdmkmfoaamaaGreatDoorT11
import Derived.Test.YthpmdmkmfoaamaaGreatDoorT7
import Derived.Test.YthpmdmkmfoaamaaGreatDoorT5
set_option linter.unusedVariables false
open Go.IntKind (i64 u64 u32)
namespace Go.bh
open Go.dN
def mF (d:Nat):List Nat:=if d=1 then [] else ag d
def RQ (V:View)(v:Value)(q:Rat):Prop:=∃p n c p' n' c',v=.agg #[.bool (decide (q.num<0)),.slice p n c,.slice p' n' c'] /\
 RD V p n c (ag q.num.natAbs)/\RD V p' n' c' (mF q.den)
theorem RQ.le {V V':View}{v:Value}{q:Rat}(h:RQ V v q)(l:V.Le V'):RQ V' v q:=by
 obtain ⟨p,n,c,p',n',c',e,h1,h2⟩:=h
 exact ⟨p,n,c,p',n',c',e,h1.le l,h2.le l⟩
theorem ug {q:Rat}:mF q.den=[]↔q.den=1:=by
 unfold mF
 split
 ·rename_i h;simp [h]
 ·rename_i h
  rw [bf]
  have:=q.den_nz
  omega
end Go.bh
namespace Go.Proofs.Tryz
open Go.bh Go.dN
theorem iI {V:View}{q:Rat}{p:OA}{n c:Nat}(h:RD V p n c (mF q.den)):n=0↔q.den=1:=by
 rw [←ug,h.len,List.length_eq_zero_iff]
theorem cL {V:View}(q:Rat){p p':OA}{n c n' c':Nat}(b:Bool)(h2:RD V p' n' c' (mF q.den)) :
  ab prog 77 #[.agg #[.bool b,.slice p n c,.slice p' n' c']] V fun r V'=>∃p1 n1 c1,r=.slice p1 n1 c1/\RN V' p1 n1 c1 q.den:=by
 have hl:=iI h2
 refine xk b p n c p' n' c' V _ ⟨fun h0 V1 l1=>gy.mono ?_,fun h0 V1 l1=>⟨_,_,_,rfl,?_⟩⟩
 ·rintro r V2 l2 ⟨p1,n1,c1,rfl,g⟩
  have:q.den=1:=hl.1 (by simp at h0;omega)
  rw [this]
  exact ⟨_,_,_,rfl,fun V3 l3=>⟨_,_,_,rfl,g.le l3⟩⟩
 ·have:q.den≠1:=fun e=>by have:=hl.2 e;simp at h0;omega
  unfold mF at h2
  rw [if_neg this] at h2
  exact h2.le l1
theorem kD {V:View}{q:Rat}{z:Int}{d:Nat}{p p':OA}{n c n' c':Nat}(hn:q.num=z)(hd:q.den=d)(h1:RD V p n c (ag z.natAbs))(h2:RD V p' n' c' (mF d)){b:Bool}(hb:b=decide (z<0)) :
  RQ V (.agg #[.bool b,.slice p n c,.slice p' n' c']) q:=by
 subst hn hd hb
 exact ⟨_,_,_,_,_,_,rfl,h1,h2⟩
theorem nJ {V:View}(z:Int){d:Nat}{p q:OA}{n c m e:Nat}(hx:RN V p n c z.natAbs)(hy:RN V q m e d)(hm:(ag z.natAbs).length<=274877906944)(hn:(ag d).length<=274877906944)(hd:d≠0) :
  ab prog 74 #[.agg #[.bool (decide (z<0)),.slice p n c],.slice q m e] V fun r V'=>RQ V' r (mkRat z d):=by
 refine vv _ p n c q m e V _ fun V1 l1=>(dF (hx.le l1) (hy.le l1) hm hn).mono ?_
 rintro r V2 l2 ⟨p1,n1,c1,rfl,hg⟩
 have hgd:=Nat.gcd_dvd_right z.natAbs d
 have hgx:=Nat.gcd_dvd_left z.natAbs d
 have CO:0<Nat.gcd z.natAbs d:=Nat.gcd_pos_of_pos_right _ (by omega)
 have hgl:(ag (Nat.gcd z.natAbs d)).length<=274877906944:=Nat.le_trans (ax (Nat.le_of_dvd (by omega) hgd)) hn
 have mI:(mkRat z d).num=z / (Nat.gcd d z.natAbs:Nat):=by rw [Rat.num_mkRat,if_neg hd]
 have hden:(mkRat z d).den=d / Nat.gcd d z.natAbs:=by rw [Rat.den_mkRat,if_neg hd]
 rw [Nat.gcd_comm d] at mI hden
 generalize hG:Nat.gcd z.natAbs d=g at *
 generalize mkRat z d=w at *
 refine ⟨_,_,_,rfl,fun V3 l3=>gy.mono ?_⟩
 rintro r V4 l4 ⟨p2,n2,c2,rfl,h1⟩
 refine ⟨_,_,_,rfl,fun V5 l5=>(dV (hg.le (l3.trans (l4.trans l5))) (h1.le l5) (by omega) (by decide)).mono ?_⟩
 rintro r V6 l6 rfl
 replace hx:=hx.le (l1.trans (l2.trans (l3.trans (l4.trans (l5.trans l6)))))
 replace hy:=hy.le (l1.trans (l2.trans (l3.trans (l4.trans (l5.trans l6)))))
 replace hg:=hg.le (l3.trans (l4.trans (l5.trans l6)))
 refine ⟨_,rfl,fun h0 V7 l7=>(cM (hx.le l7) (hg.le l7) hm hgl CO).mono ?_,fun h0 zi iB=>gy.mono ?_⟩
 ·rintro r V8 l8 ⟨p4,n4,c4,p5,n5,c5,rfl,g1,-⟩
  have hnd:(mkRat z d).num.natAbs=(mkRat z d).num.natAbs:=rfl
  obtain ⟨k,hk⟩:=hgx
  have hk1:z.natAbs / g=k:=by rw [hk,Nat.mul_div_cancel_left _ CO]
  rw [hk1] at g1
  have hz:z=(g:Int)*(if z<0 then -(k:Int) else k):=by
   split
   ·rw [Int.mul_neg,←Int.natCast_mul,←hk];omega
   ·rw [←Int.natCast_mul,←hk];omega
  have hwn:w.num=(if z<0 then -(k:Int) else k):=by
   rw [mI]
   generalize (if z<0 then -(k:Int) else k)=t at *
   rw [hz,Int.mul_ediv_cancel_left _ (by omega)]
  refine ⟨_,_,_,_,_,_,rfl,fun V9 l9=>(dh _ (g1.le l9)).mono ?_⟩
  have Hv:(if decide (z<0)=true then -(k:Int) else k)=w.num:=by
   rw [hwn];simp
  rw [Hv]
  rintro r jq l10 ⟨p7,n7,c7,rfl,g2⟩
  refine ⟨_,_,_,_,rfl,fun pJ cA=>(cM (hy.le (l7.trans (l8.trans (l9.trans (l10.trans cA))))) (hg.le (l7.trans (l8.trans (l9.trans (l10.trans cA))))) hn hgl CO).mono ?_⟩
  rintro r nu dt ⟨p8,n8,c8,p9,n9,c9,rfl,g3,-⟩
  rw [←hden] at g3
  refine ⟨_,_,_,_,_,_,rfl,fun qH dJ=>gy.mono ?_⟩
  rintro r pK dO ⟨H4,n10,c10,rfl,g4⟩
  have hdl:(ag w.den).length<=274877906944:=by rw [hden];exact Nat.le_trans (ax (Nat.div_le_self _ _)) hn
  refine ⟨_,_,_,rfl,fun pL fp=>(dV (g3.le (dJ.trans (dO.trans fp))) (g4.le fp) (by omega) (by decide)).mono ?_⟩
  rintro r rV dX rfl
  refine ⟨_,rfl,fun h9 pP ew=>kD rfl rfl (g2.le (cA.trans (dt.trans (dJ.trans (dO.trans (fp.trans (dX.trans ew))))))) ?_ rfl,fun h9 vH gk=>kD rfl rfl (g2.le (cA.trans (dt.trans (dJ.trans (dO.trans (fp.trans (dX.trans gk))))))) ?_ rfl⟩
  ·have:w.den=1:=eZ.1 (by simpa using h9)
   rw [ug.2 this];exact RD.nil
  ·have:w.den≠1:=fun e=>by rw [eZ.2 e] at h9;simp at h9
   unfold mF
   rw [if_neg this]
   exact g3.le (dJ.trans (dO.trans (fp.trans (dX.trans gk))))
 ·have hg1:g=1:=eZ.1 (by simpa using h0)
  have hwn:w.num=z:=by rw [mI,hg1];simp
  have hwd:w.den=d:=by rw [hden,hg1];simp
  rintro r Bm lr ⟨MO,n12,c12,rfl,g4⟩
  refine ⟨_,_,_,rfl,fun tL il=>(dV (hy.le (iB.trans (lr.trans il))) (g4.le il) (by omega) (by decide)).mono ?_⟩
  rintro r xY lu rfl
  refine ⟨_,rfl,fun h9 pP ew=>kD hwn hwd (hx.le (iB.trans (lr.trans (il.trans (lu.trans ew))))) ?_ rfl,fun h9 vH gk=>kD hwn hwd (hx.le (iB.trans (lr.trans (il.trans (lu.trans gk))))) ?_ rfl⟩
  ·have:d=1:=eZ.1 (by simpa using h9)
   unfold mF
   rw [if_pos this];exact RD.nil
  ·have:d≠1:=fun e=>by rw [eZ.2 e] at h9;simp at h9
   unfold mF
   rw [if_neg this]
   exact hy.le (iB.trans (lr.trans (il.trans (lu.trans gk))))
theorem nK {V:View}(n:Int)(h0:-9223372036854775808<=n)(h1:n<=9223372036854775807) :
  ab prog 64 #[.int .i64 n] V fun r V'=>RQ V' r (n:Rat):=by
 refine ze n V _ fun V1 l1=>(yi n h0 h1).mono ?_
 rintro r V2 l2 ⟨p,m,c,rfl,g⟩
 exact ⟨_,_,_,_,rfl,fun V3 l3=>kD (z:=n) (d:=1) rfl rfl (g.le l3) RD.nil rfl⟩
theorem q_ {V:View}(q:Rat){p p':OA}{n c n' c':Nat}(h1:RD V p n c (ag q.num.natAbs))(h2:RD V p' n' c' (mF q.den)) :
  ab prog 61 #[.agg #[.bool (decide (q.num<0)),.slice p n c,.slice p' n' c']] V fun r V'=>RQ V' r (-q):=by
 refine xo _ p n c p' n' c' V _ fun V1 l1=>(tY q.num (h1.le l1)).mono ?_
 rintro r V2 l2 ⟨p1,n1,c1,rfl,g⟩
 exact ⟨_,_,_,_,rfl,fun V3 l3=>kD (q:=-q) (z:=-q.num) (d:=q.den) (by rfl) (by rfl) (g.le l3) ((h2.le l1).le (l2.trans l3)) rfl⟩
theorem kZ {V:View}{p:OA}{n c x:Nat}(h:RN V p n c x) :
  ab prog 76 #[.bool false,.slice p n c] V fun r V'=>RI V' r (x:Int):=by
 have:=dh false h
 rwa [if_neg (by decide)] at this
theorem bL {x:Rat}{k:Nat}(h:Sz k x):(ag x.num.natAbs).length<=k/\(ag x.den).length<=k/\(ag (x.den:Int).natAbs).length<=k:=⟨ao h.1,ao h.2,ao h.2⟩
theorem jF {V:View}{v w:Value}{x y:Rat}(hx:RQ V v x)(hy:RQ V w y){k m:Nat}(hk:Sz k x)(hm:Sz m y)(hkm:k+m<274877906944) :
  ab prog 24 #[v,w] V fun r V'=>RQ V' r (x+y):=by
 obtain ⟨p,n,c,p',n',c',rfl,hx1,hx2⟩:=hx
 obtain ⟨q,i,e,q',i',e',rfl,hy1,hy2⟩:=hy
 have hlx:=iI hx2
 have rB:=iI hy2
 obtain ⟨b1,b2,b3,b4⟩:=ny hk hm
 obtain ⟨d1,d2,d3⟩:=bL hk
 obtain ⟨d4,d5,d6⟩:=bL hm
 have hxy:x+y=mkRat (x.num*y.den+y.num*x.den) (x.den*y.den):=Rat.add_def' x y
 refine (fun tail=>vz _ p n c p' n' c' _ q i e q' i' e' V _ ⟨fun h0=>⟨fun h1 V1 l1=>?_,fun _=>tail⟩,fun _=>tail⟩) ?_
 ·clear tail
  have h0:x.den=1:=hlx.1 (by simp at h0;omega)
  have h1:y.den=1:=rB.1 (by simp at h1;omega)
  refine (qZ x.num y.num (hx1.le l1) (hy1.le l1) (by omega) (by omega)).mono ?_
  rintro r V2 l2 ⟨p2,n2,c2,rfl,g⟩
  have e1:x+y=((x.num+y.num:Int):Rat):=by
   rw [hxy,h0,h1];simp [Rat.mkRat_one]
  rw [e1]
  exact ⟨_,_,_,_,rfl,fun V3 l3=>kD (z:=x.num+y.num) (d:=1) rfl rfl (g.le l3) RD.nil rfl⟩
 ·intro V1 l1
  refine (cL y _ (hy2.le l1)).mono ?_
  rintro r V2 l2 ⟨p1,n1,c1,rfl,g1⟩
  refine ⟨_,_,_,rfl,fun V3 l3=>(kZ (g1.le l3)).mono ?_⟩
  rintro r V4 l4 ⟨p3,n3,c3,rfl,g3⟩
  have yA:=l1.trans (l2.trans (l3.trans l4))
  refine ⟨_,_,_,_,rfl,fun V5 l5=>(jf x.num y.den (hx1.le (yA.trans l5)) (g3.le l5) (by omega)).mono ?_⟩
  rintro r V6 l6 ⟨p5,n5,c5,rfl,g5⟩
  have Bs:=yA.trans (l5.trans l6)
  refine ⟨_,_,_,_,rfl,fun V7 l7=>(cL x _ (hx2.le (Bs.trans l7))).mono ?_⟩
  rintro r V8 l8 ⟨p7,n7,c7,rfl,g7⟩
  have GD:=Bs.trans (l7.trans l8)
  refine ⟨_,_,_,rfl,fun V9 l9=>(kZ (g7.le l9)).mono ?_⟩
  rintro r jq l10 ⟨p9,n9,c9,rfl,g9⟩
  have Fm:=GD.trans (l9.trans l10)
  refine ⟨_,_,_,_,rfl,fun pJ cA=>(jf y.num x.den (hy1.le (Fm.trans cA)) (g9.le cA) (by omega)).mono ?_⟩
  rintro r nu dt ⟨L5,n11,c11,rfl,g11⟩
  have sB:=Fm.trans (cA.trans dt)
  refine ⟨_,_,_,_,rfl,fun qH dJ=>(qZ _ _ (g5.le (l7.trans (l8.trans (l9.trans (l10.trans (cA.trans (dt.trans dJ))))))) (g11.le dJ) (Nat.le_trans (ao b1) (by omega)) (Nat.le_trans (ao b2) (by omega))).mono ?_⟩
  rintro r pK dO ⟨MP,n13,c13,rfl,g13⟩
  have Fj:=sB.trans (dJ.trans dO)
  refine ⟨_,_,_,_,rfl,fun pL fp=>(cL x _ (hx2.le (Fj.trans fp))).mono ?_⟩
  rintro r rV dX ⟨MQ,n15,c15,rfl,g15⟩
  have HR:=Fj.trans (fp.trans dX)
  refine ⟨_,_,_,rfl,fun pP ew=>(cL y _ (hy2.le (HR.trans ew))).mono ?_⟩
  rintro r vH gk ⟨MR,n17,c17,rfl,g17⟩
  refine ⟨_,_,_,rfl,fun zi iB=>(bU (g15.le (ew.trans (gk.trans iB))) (g17.le iB) (by omega)).mono ?_⟩
  rintro r Bm lr ⟨MS,n19,c19,rfl,g19⟩
  rw [ae,ae] at g19
  refine ⟨_,_,_,rfl,fun tL il=>(nJ _ (g13.le (fp.trans (dX.trans (ew.trans (gk.trans (iB.trans (lr.trans il))))))) (g19.le il) (Nat.le_trans (ao b3) (by omega)) (Nat.le_trans (ao b4) (by omega)) (Nat.mul_ne_zero x.den_nz y.den_nz)).mono ?_⟩
  rw [hxy]
  rintro r xY lu ⟨L8,n21,c21,L9,n22,K8,rfl,g21,g22⟩
  exact ⟨_,_,_,_,_,_,_,rfl,fun vM js=>⟨_,_,_,_,_,_,rfl,g21.le js,g22.le js⟩⟩
theorem cC {V:View}{v w:Value}{x y:Rat}(hx:RQ V v x)(hy:RQ V w y){k m:Nat}(hk:Sz k x)(hm:Sz m y)(hkm:k+m<274877906944) :
  ab prog 96 #[v,w] V fun r V'=>RQ V' r (x*y):=by
 obtain ⟨p,n,c,p',n',c',rfl,hx1,hx2⟩:=hx
 obtain ⟨q,i,e,q',i',e',rfl,hy1,hy2⟩:=hy
 have hlx:=iI hx2
 have rB:=iI hy2
 obtain ⟨d1,d2,d3⟩:=bL hk
 obtain ⟨d4,d5,d6⟩:=bL hm
 have hxy:x*y=mkRat (x.num*y.num) (x.den*y.den):=Rat.mul_def' x y
 have b1:(x.num*y.num).natAbs<2^(k+m):=by rw [Int.natAbs_mul];exact bG hk.1 hm.1
 have b2:x.den*y.den<2^(k+m):=bG hk.2 hm.2
 refine (fun tail=>tj _ p n c p' n' c' _ q i e q' i' e' V _ ⟨fun h0=>⟨fun h1 V1 l1=>?_,fun _=>tail⟩,fun _=>tail⟩) ?_
 ·clear tail
  have h0:x.den=1:=hlx.1 (by simp at h0;omega)
  have h1:y.den=1:=rB.1 (by simp at h1;omega)
  refine (jf x.num y.num (hx1.le l1) (hy1.le l1) (by omega)).mono ?_
  rintro r V2 l2 ⟨p2,n2,c2,rfl,g⟩
  have e1:x*y=((x.num*y.num:Int):Rat):=by
   rw [hxy,h0,h1];simp [Rat.mkRat_one]
  rw [e1]
  exact ⟨_,_,_,_,rfl,fun V3 l3=>kD (z:=x.num*y.num) (d:=1) rfl rfl (g.le l3) RD.nil rfl⟩
 ·intro V1 l1
  refine (jf x.num y.num (hx1.le l1) (hy1.le l1) (by omega)).mono ?_
  rintro r V2 l2 ⟨p2,n2,c2,rfl,g2⟩
  refine ⟨_,_,_,_,rfl,fun V3 l3=>(cL x _ (hx2.le (l1.trans (l2.trans l3)))).mono ?_⟩
  rintro r V4 l4 ⟨p4,n4,c4,rfl,g4⟩
  refine ⟨_,_,_,rfl,fun V5 l5=>(cL y _ (hy2.le (l1.trans (l2.trans (l3.trans (l4.trans l5)))))).mono ?_⟩
  rintro r V6 l6 ⟨p6,n6,c6,rfl,g6⟩
  refine ⟨_,_,_,rfl,fun V7 l7=>(bU (g4.le (l5.trans (l6.trans l7))) (g6.le l7) (by omega)).mono ?_⟩
  rintro r V8 l8 ⟨p8,n8,c8,rfl,g8⟩
  rw [ae,ae] at g8
  refine ⟨_,_,_,rfl,fun V9 l9=>(nJ _ (g2.le (l3.trans (l4.trans (l5.trans (l6.trans (l7.trans (l8.trans l9))))))) (g8.le l9) (Nat.le_trans (ao b1) (by omega)) (Nat.le_trans (ao b2) (by omega)) (Nat.mul_ne_zero x.den_nz y.den_nz)).mono ?_⟩
  rw [hxy]
  rintro r xY lu ⟨L8,n21,c21,L9,n22,K8,rfl,g21,g22⟩
  exact ⟨_,_,_,_,_,_,_,rfl,fun vM js=>⟨_,_,_,_,_,_,rfl,g21.le js,g22.le js⟩⟩
end Go.Proofs.Tryz
namespace Go.bh
open Go.dN
def RP (V:View)(v:Value)(x y:Rat):Prop:=∃p n c p' n' c' q m e q' m' e',v=.agg #[.bool (decide (x.num<0)),.slice p n c,.slice p' n' c',.bool (decide (y.num<0)),.slice q m e,.slice q' m' e'] /\
 RQ V (.agg #[.bool (decide (x.num<0)),.slice p n c,.slice p' n' c']) x/\RQ V (.agg #[.bool (decide (y.num<0)),.slice q m e,.slice q' m' e']) y
theorem RP.le {V V':View}{v:Value}{x y:Rat}(h:RP V v x y)(l:V.Le V'):RP V' v x y:=by
 obtain ⟨p,n,c,p',n',c',q,m,e,q',m',e',rfl,h1,h2⟩:=h
 exact ⟨p,n,c,p',n',c',q,m,e,q',m',e',rfl,h1.le l,h2.le l⟩
theorem RQ.shape {V:View}{v:Value}{q:Rat}(h:RQ V v q):∃p n c p' n' c',v=.agg #[.bool (decide (q.num<0)),.slice p n c,.slice p' n' c']:=by
 obtain ⟨p,n,c,p',n',c',e,-⟩:=h;exact ⟨_,_,_,_,_,_,e⟩
end Go.bh
namespace Go.Proofs.Tryz
open Go.bh Go.dN
theorem t_ {V:View}{p:OA}{n c:Nat}{ds:List Nat}(h:RD V p n c ds)(hm:ds.length<=1099511627776) :
  ab prog 105 #[.slice p n c] V fun r V'=>∃p1 n1 c1,r=.slice p1 n1 c1/\RD V' p1 n1 c1 ds:=by
 have hl:=h.len
 refine tq p n c V _ ⟨aA ds,h.sl,by simp [hl],by omega,by omega,by simp,by simp [hl],?_,?_⟩
 ·intro v hv
  simp only [aA,List.mem_map] at hv
  obtain ⟨d,-,rfl⟩:=hv
  rfl
 ·intro bk J sp c' h1 h2 V1 l1 b hb
  refine ⟨_,_,_,rfl,?_⟩
  simp only [Nat.zero_add,Nat.zero_mul,List.take_zero,List.nil_append] at hb h1 ⊢
  exact copied h.cx hl h1 hb
theorem iF {V:View}{v:Value}{z:Int}(h:RI V v z)(hm:(ag z.natAbs).length<=1099511627776) :
  ab prog 104 #[v] V fun r V'=>RI V' r z:=by
 obtain ⟨p,n,c,rfl,h⟩:=h
 refine tm _ p n c V _ fun V1 l1=>(t_ (h.le l1) hm).mono ?_
 rintro r V2 l2 ⟨p1,n1,c1,rfl,g⟩
 exact ⟨_,_,_,rfl,fun V3 l3=>⟨_,_,_,rfl,g.le l3⟩⟩
theorem nM {V:View}(x y:Int)(h0:-9223372036854775808<=x)(h1:x<=9223372036854775807)(h2:-9223372036854775808<=y)(h3:y<=9223372036854775807) :
  ab prog 51 #[.int .i64 x,.int .i64 y] V fun r V'=>RP V' r (x:Rat) (y:Rat):=by
 refine vG x y V _ fun V1 l1=>(nK x h0 h1).mono ?_
 rintro r V2 l2 hx
 obtain ⟨p,n,c,p',n',c',rfl⟩:=hx.shape
 refine ⟨_,_,_,_,_,_,_,rfl,fun V3 l3=>(nK y h2 h3).mono ?_⟩
 rintro r V4 l4 hy
 obtain ⟨q,m,e,q',m',e',rfl⟩:=hy.shape
 exact ⟨_,_,_,_,_,_,_,rfl,fun V5 l5=>⟨_,_,_,_,_,_,_,_,_,_,_,_,rfl,hx.le (l3.trans (l4.trans l5)),hy.le l5⟩⟩
theorem ua {V:View}{u v w:Value}{px py c qx qy:Rat}(hp:RP V u px py)(hc:RQ V v c)(hq:RP V w qx qy){k m:Nat}(s1:Sz k px)(s2:Sz k py)(s3:Sz m c)(s4:Sz m qx)(s5:Sz m qy)(hkm:k+(m+m+1)<274877906944) :
  ab prog 62 #[u,v,w] V fun r V'=>RP V' r (px+c*qx) (py+c*qy):=by
 obtain ⟨p1,n1,c1,p2,n2,c2,p3,n3,c3,p4,n4,c4,rfl,hp1,hp2⟩:=hp
 obtain ⟨p5,n5,c5,p6,n6,c6,rfl⟩:=hc.shape
 obtain ⟨q1,m1,e1,q2,m2,e2,q3,m3,e3,q4,m4,e4,rfl,hq1,hq2⟩:=hq
 refine tu _ p1 n1 c1 p2 n2 c2 _ p3 n3 c3 p4 n4 c4 _ p5 n5 c5 p6 n6 c6 _ q1 m1 e1 q2 m2 e2 _ q3 m3 e3 q4 m4 e4 V _ fun V1 l1=>(cC (hc.le l1) (hq1.le l1) s3 s4 (by omega)).mono ?_
 rintro r V2 l2 g1
 obtain ⟨a1,a2,a3,a4,a5,a6,rfl⟩:=g1.shape
 refine ⟨_,_,_,_,_,_,_,rfl,fun V3 l3=>(jF (hp1.le (l1.trans (l2.trans l3))) (g1.le l3) s1 (s3.mul s4) (by omega)).mono ?_⟩
 rintro r V4 l4 g2
 obtain ⟨b1,b2,b3,b4,b5,b6,rfl⟩:=g2.shape
 have yA:=l1.trans (l2.trans (l3.trans l4))
 refine ⟨_,_,_,_,_,_,_,rfl,fun V5 l5=>(cC (hc.le (yA.trans l5)) (hq2.le (yA.trans l5)) s3 s5 (by omega)).mono ?_⟩
 rintro r V6 l6 g3
 obtain ⟨d1,d2,d3,d4,d5,d6,rfl⟩:=g3.shape
 refine ⟨_,_,_,_,_,_,_,rfl,fun V7 l7=>(jF (hp2.le (yA.trans (l5.trans (l6.trans l7)))) (g3.le l7) s2 (s3.mul s5) (by omega)).mono ?_⟩
 rintro r V8 l8 g4
 obtain ⟨f1,f2,f3,f4,f5,f6,rfl⟩:=g4.shape
 exact ⟨_,_,_,_,_,_,_,rfl,fun V9 l9=>⟨_,_,_,_,_,_,_,_,_,_,_,_,rfl,g2.le (l5.trans (l6.trans (l7.trans (l8.trans l9)))),g4.le l9⟩⟩
theorem Cw:Sz 1 ((-1:Int):Rat):=by unfold Sz;decide
theorem ub {V:View}{u w:Value}{px py qx qy:Rat}(hp:RP V u px py)(hq:RP V w qx qy){k m:Nat}(s1:Sz k px)(s2:Sz k py)(s4:Sz m qx)(s5:Sz m qy)(hm:1<=m)(hkm:k+(m+m+1)<274877906944) :
  ab prog 106 #[u,w] V fun r V'=>RP V' r (px-qx) (py-qy):=by
 have hp0:=hp
 have hq0:=hq
 obtain ⟨p1,n1,c1,p2,n2,c2,p3,n3,c3,p4,n4,c4,rfl,-,-⟩:=hp
 obtain ⟨q1,m1,e1,q2,m2,e2,q3,m3,e3,q4,m4,e4,rfl,-,-⟩:=hq
 refine tv _ p1 n1 c1 p2 n2 c2 _ p3 n3 c3 p4 n4 c4 _ q1 m1 e1 q2 m2 e2 _ q3 m3 e3 q4 m4 e4 V _ fun V1 l1=>(nK (-1) (by omega) (by omega)).mono ?_
 rintro r V2 l2 g1
 obtain ⟨a1,a2,a3,a4,a5,a6,rfl⟩:=g1.shape
 have zp:=l1.trans l2
 refine ⟨_,_,_,_,_,_,_,rfl,fun V3 l3=>(ua (hp0.le (zp.trans l3)) (g1.le l3) (hq0.le (zp.trans l3)) s1 s2 (Cw.mono hm) s4 s5 hkm).mono ?_⟩
 have e1:∀a b:Rat,a+((-1:Int):Rat)*b=a-b:=by
  intro a b
  have:((-1:Int):Rat)=-1:=rfl
  rw [this,Rat.neg_mul,Rat.one_mul,Rat.sub_eq_add_neg]
 rw [e1,e1]
 rintro r V4 l4 ⟨b1,b2,b3,b4,b5,b6,b7,b8,b9,b10,b11,b12,rfl,g2,g3⟩
 exact ⟨_,_,_,_,_,_,_,_,_,_,_,_,_,_,rfl,fun V5 l5=>⟨_,_,_,_,_,_,_,_,_,_,_,_,rfl,g2.le l5,g3.le l5⟩⟩
end Go.Proofs.Tryz
namespace Go.bh
open Go.dN
def RL (V:View)(v:Value)(a b c:Int):Prop:=∃p n s p' n' s' q m e,v=.agg #[.bool (decide (a<0)),.slice p n s,.bool (decide (b<0)),.slice p' n' s',.bool (decide (c<0)),.slice q m e] /\
 RD V p n s (ag a.natAbs)/\RD V p' n' s' (ag b.natAbs)/\RD V q m e (ag c.natAbs)
theorem RL.le {V V':View}{v:Value}{a b c:Int}(h:RL V v a b c)(l:V.Le V'):RL V' v a b c:=by
 obtain ⟨p,n,s,p',n',s',q,m,e,rfl,h1,h2,h3⟩:=h
 exact ⟨p,n,s,p',n',s',q,m,e,rfl,h1.le l,h2.le l,h3.le l⟩
end Go.bh
namespace Go.Proofs.Tryz
open Go.bh Go.dN
theorem pU {V:View}{p q:OA}{n c m e:Nat}{xs ys:List Nat}(hx:RD V p n c xs)(hy:RD V q m e ys)(hm:xs.length<=1099511627776) :
  ab prog 184 #[.slice p n c,.slice q m e] V fun r V'=>r=.bool (decide (xs=ys)):=by
 have hlx:=hx.len
 have rB:=hy.len
 refine pC p n c q m e V _ ⟨fun h0 V1 l1=>?_,fun h0=>?_⟩
 ·have h0:n≠m:=by simp at h0;omega
  rw [decide_eq_false fun h=>h0 (by rw [hlx,rB,h])]
 ·have h0:n=m:=by simp at h0;omega
  refine ⟨fun z V'=>0<=z/\z<=n/\xs.take z.toNat=ys.take z.toNat,fun z=>n-z.toNat,⟨0,by (try dsimp only);and_intros<;>first|exact True.intro|rfl,by (try dsimp only);omega,by (try dsimp only);omega,rfl⟩,?_⟩
  rintro i V2 l2 ⟨hi0,hi1,ht⟩
  dsimp only at hi1 ht ⊢
  obtain ⟨i,rfl⟩:=Int.eq_ofNat_of_zero_le hi0
  simp only [Int.toNat_natCast] at ht
  refine ⟨by trivial,fun h3=>?_,fun h3 V4 l4=>?_⟩
  ·have h3:i<n:=by simpa using h3
   refine (hx.le l2).rd i rfl (by omega) ((hy.le l2).rd i rfl (by omega) ⟨fun h4 V8 l8=>?_,fun h4=>?_⟩)
   ·have h4:xs[i]≠ys[i]:=by simp at h4;omega
    rw [decide_eq_false fun h=>h4 (by subst h;rfl)]
   ·have h4:xs[i]=ys[i]:=by simp at h4;omega
    have w:i64.wrap ((i:Int)+1)=((i+1:Nat):Int):=by rw [aG (by omega)];omega
    simp only [w]
    refine ⟨((i+1:Nat):Int),?_,by (try dsimp only);and_intros<;>first|exact True.intro|rfl,by (try dsimp only);omega,by (try dsimp only);omega,?_⟩
    ·(try dsimp only);omega
    ·(try dsimp only)
     simp only [Int.toNat_natCast]
     rw [List.take_succ_eq_append_getElem (by omega),List.take_succ_eq_append_getElem (l:=ys) (by omega),ht,h4]
  ·have h3:i=n:=by simp at h3;omega
   rw [List.take_of_length_le (by omega),List.take_of_length_le (by omega)] at ht
   rw [decide_eq_true ht]
theorem A8 {z w:Int}:(decide (z<0)==decide (w<0))=true->(decide (ag z.natAbs=ag w.natAbs)=decide (z=w)):=by
 intro h
 have h1:(z<0↔w<0):=by simpa using h
 rw [Bool.eq_iff_iff,decide_eq_true_eq,decide_eq_true_eq]
 constructor
 ·intro h2
  have:=kk h2
  omega
 ·intro h2;rw [h2]
theorem fP {V:View}{z w:Int}{p q:OA}{n c m e:Nat}(hx:RD V p n c (ag z.natAbs))(hy:RD V q m e (ag w.natAbs))(hm:(ag z.natAbs).length<=1099511627776) :
  ab prog 144 #[.agg #[.bool (decide (z<0)),.slice p n c],.agg #[.bool (decide (w<0)),.slice q m e]] V fun r V'=>r=.bool (decide (z=w)):=by
 refine pB _ p n c _ q m e V _ ⟨fun h0 V1 l1=>(pU (hx.le l1) (hy.le l1) hm).mono ?_,fun h0 V1 l1=>?_⟩
 ·rintro r V2 l2 rfl
  refine ⟨_,rfl,fun V3 l3=>?_⟩
  rw [A8 h0]
 ·rw [decide_eq_false fun h=>by subst h;simp at h0]
theorem pW {V:View}{v w:Value}{a b c a' b' c':Int}(hx:RL V v a b c)(hy:RL V w a' b' c')(h1:(ag a.natAbs).length<=1099511627776)(h2:(ag b.natAbs).length<=1099511627776)(h3:(ag c.natAbs).length<=1099511627776) :
  ab prog 94 #[v,w] V fun r V'=>r=.bool (decide (a=a'/\b=b'/\c=c')):=by
 obtain ⟨p,n,s,p',n',s',q,m,e,rfl,x1,x2,x3⟩:=hx
 obtain ⟨i,j,k,i',j',k',i2,j2,k2,rfl,y1,y2,y3⟩:=hy
 refine pE _ p n s _ p' n' s' _ q m e _ i j k _ i' j' k' _ i2 j2 k2 V _ fun V1 l1=>(fP (x1.le l1) (y1.le l1) h1).mono ?_
 rintro r V2 l2 rfl
 refine ⟨_,rfl,fun g1 V3 l3=>(fP (x2.le (l1.trans (l2.trans l3))) (y2.le (l1.trans (l2.trans l3))) h2).mono ?_,fun g1 V9 l9=>?_⟩
 ·rintro r V4 l4 rfl
  rw [decide_eq_true_eq] at g1
  refine ⟨_,rfl,fun g2 V5 l5=>(fP (x3.le (l1.trans (l2.trans (l3.trans (l4.trans l5))))) (y3.le (l1.trans (l2.trans (l3.trans (l4.trans l5))))) h3).mono ?_,fun g2 V8 l8=>?_⟩
  ·rintro r V6 l6 rfl
   rw [decide_eq_true_eq] at g2
   refine ⟨_,rfl,fun V7 l7=>?_⟩
   congr 1
   rw [Bool.eq_iff_iff,decide_eq_true_eq,decide_eq_true_eq]
   exact ⟨fun h=>⟨g1,g2,h⟩,fun h=>h.2.2⟩
  ·rw [decide_eq_false_iff_not] at g2
   rw [decide_eq_false fun h=>g2 h.2.1]
 ·rw [decide_eq_false_iff_not] at g1
  rw [decide_eq_false fun h=>g1 h.1]
theorem lU {V:View}{v:Value}{a b c:Int}(hx:RL V v a b c)(h1:(ag a.natAbs).length<=1099511627776)(h2:(ag b.natAbs).length<=1099511627776)(h3:(ag c.natAbs).length<=1099511627776) :
  ab prog 89 #[v] V fun r V'=>RL V' r a b c:=by
 obtain ⟨p,n,s,p',n',s',q,m,e,rfl,x1,x2,x3⟩:=hx
 refine tw _ p n s _ p' n' s' _ q m e V _ fun V1 l1=>(iF ⟨_,_,_,rfl,x1.le l1⟩ h1).mono ?_
 rintro r V2 l2 ⟨p1,n1,c1,rfl,g1⟩
 refine ⟨_,_,_,_,rfl,fun V3 l3=>(iF ⟨_,_,_,rfl,x2.le (l1.trans (l2.trans l3))⟩ h2).mono ?_⟩
 rintro r V4 l4 ⟨p2,n2,c2,rfl,g2⟩
 refine ⟨_,_,_,_,rfl,fun V5 l5=>(iF ⟨_,_,_,rfl,x3.le (l1.trans (l2.trans (l3.trans (l4.trans l5))))⟩ h3).mono ?_⟩
 rintro r V6 l6 ⟨p3,n3,c3,rfl,g3⟩
 exact ⟨_,_,_,_,rfl,fun V7 l7=>⟨_,_,_,_,_,_,_,_,_,rfl,g1.le (l3.trans (l4.trans (l5.trans (l6.trans l7)))),g2.le (l5.trans (l6.trans l7)),g3.le l7⟩⟩
theorem nR {z:Int}{g:Nat}(hg:0<g)(hd:g∣z.natAbs):(if decide (z<0)=true then -((z.natAbs / g:Nat):Int) else ((z.natAbs / g:Nat):Int))=z / (g:Int):=by
 obtain ⟨k,hk⟩:=hd
 have hk1:z.natAbs / g=k:=by rw [hk,Nat.mul_div_cancel_left _ hg]
 rw [hk1]
 have hz:z=(g:Int)*(if decide (z<0)=true then -(k:Int) else k):=by
  split
  ·rename_i h
   rw [decide_eq_true_eq] at h
   rw [Int.mul_neg,←Int.natCast_mul,←hk];omega
  ·rename_i h
   rw [decide_eq_true_eq] at h
   rw [←Int.natCast_mul,←hk];omega
 generalize (if decide (z<0)=true then -(k:Int) else k)=t at *
 rw [hz,Int.mul_ediv_cancel_left _ (by omega)]
def iw (a b c:Int):Nat:=Nat.gcd (Nat.gcd a.natAbs b.natAbs) c.natAbs
theorem pV {V:View}{u v w:Value}{a b c:Int}(ha:RI V u a)(hb:RI V v b)(hc:RI V w c)(h1:(ag a.natAbs).length<=274877906944)(h2:(ag b.natAbs).length<=274877906944)(h3:(ag c.natAbs).length<=274877906944) :
  ab prog 107 #[u,v,w] V fun r V'=>(a=0/\b=0->∃l,r=.tuple #[l,.bool false]/\RL V' l 0 0 0) /\
   (¬(a=0/\b=0)->∃l,r=.tuple #[l,.bool true]/\RL V' l (a / (iw a b c:Int)) (b / (iw a b c:Int)) (c / (iw a b c:Int))):=by
 obtain ⟨p,n,s,rfl,ha⟩:=ha
 obtain ⟨p',n',s',rfl,hb⟩:=hb
 obtain ⟨q,m,e,rfl,hc⟩:=hc
 refine pD _ p n s _ p' n' s' _ q m e V _ fun V1 l1=>(dF (ha.le l1) (hb.le l1) h1 h2).mono ?_
 rintro r V2 l2 ⟨p1,n1,c1,rfl,g1⟩
 have hp:=eS g1.len
 have vI:Nat.gcd a.natAbs b.natAbs=0↔a=0/\b=0:=by rw [Nat.gcd_eq_zero_iff];omega
 refine ⟨_,_,_,rfl,fun h0 V3 l3=>⟨fun _=>⟨_,rfl,_,_,_,_,_,_,_,_,_,rfl,RD.nil,RD.nil,RD.nil⟩,fun h=>?_⟩,fun h0 V4 l4=>?_⟩
 ·exact absurd (vI.1 (by simp at h0;omega)) h
 have hne:¬(a=0/\b=0):=fun h=>by have:=vI.2 h;simp at h0;omega
 have hg0:0<Nat.gcd a.natAbs b.natAbs:=by have:=vI;omega
 have hgl:(ag (Nat.gcd a.natAbs b.natAbs)).length<=274877906944:=by
  rcases Nat.eq_zero_or_pos a.natAbs with h|h
  ·rw [h,Nat.gcd_zero_left];exact h2
  ·exact Nat.le_trans (ax (Nat.gcd_le_left _ h)) h1
 refine (dF (g1.le l4) (hc.le (l1.trans (l2.trans l4))) hgl h3).mono ?_
 rintro r V5 l5 ⟨p2,n2,c2,rfl,g2⟩
 have DQ:=l1.trans (l2.trans (l4.trans l5))
 have e3:Nat.gcd (Nat.gcd a.natAbs b.natAbs) c.natAbs=iw a b c:=rfl
 have hG0:0<iw a b c:=Nat.gcd_pos_of_pos_left _ hg0
 have Ed:(ag (iw a b c)).length<=274877906944:=Nat.le_trans (ax (Nat.gcd_le_left _ hg0)) hgl
 have da:iw a b c∣a.natAbs:=Nat.dvd_trans (Nat.gcd_dvd_left _ _) (Nat.gcd_dvd_left _ _)
 have db:iw a b c∣b.natAbs:=Nat.dvd_trans (Nat.gcd_dvd_left _ _) (Nat.gcd_dvd_right _ _)
 have dc:iw a b c∣c.natAbs:=Nat.gcd_dvd_right _ _
 have sa:=nR hG0 da
 have sb:=nR hG0 db
 have sc:=nR hG0 dc
 rw [e3] at g2
 generalize iw a b c=G at *
 refine ⟨_,_,_,rfl,fun V6 l6=>(cM (ha.le (DQ.trans l6)) (g2.le l6) h1 Ed hG0).mono ?_⟩
 rintro r V7 l7 ⟨p3,n3,c3,p4,n4,c4,rfl,g3,-⟩
 have iy:=l6.trans l7
 refine ⟨_,_,_,_,_,_,rfl,fun V8 l8=>(cM (hb.le (DQ.trans (iy.trans l8))) (g2.le (iy.trans l8)) h2 Ed hG0).mono ?_⟩
 rintro r V9 l9 ⟨p5,n5,c5,p6,n6,c6,rfl,g5,-⟩
 have CW:=iy.trans (l8.trans l9)
 refine ⟨_,_,_,_,_,_,rfl,fun jq l10=>(cM (hc.le (DQ.trans (CW.trans l10))) (g2.le (CW.trans l10)) h3 Ed hG0).mono ?_⟩
 rintro r pJ cA ⟨p7,n7,c7,p8,n8,c8,rfl,g7,-⟩
 refine ⟨_,_,_,_,_,_,rfl,fun nu dt=>(dh _ (g3.le (l8.trans (l9.trans (l10.trans (cA.trans dt)))))).mono ?_⟩
 rw [sa]
 rintro r qH dJ ⟨p9,n9,c9,rfl,g9⟩
 refine ⟨_,_,_,_,rfl,fun pK dO=>(dh _ (g5.le (l10.trans (cA.trans (dt.trans (dJ.trans dO)))))).mono ?_⟩
 rw [sb]
 rintro r pL fp ⟨H4,n10,c10,rfl,g10⟩
 refine ⟨_,_,_,_,rfl,fun rV dX=>(dh _ (g7.le (dt.trans (dJ.trans (dO.trans (fp.trans dX)))))).mono ?_⟩
 rw [sc]
 rintro r pP ew ⟨L5,n11,c11,rfl,g11⟩
 refine ⟨_,_,_,_,rfl,fun vH gk=>⟨fun h=>absurd h hne,fun _=>⟨_,rfl,_,_,_,_,_,_,_,_,_,rfl,?_,?_,?_⟩⟩⟩
 ·exact g9.le (dO.trans (fp.trans (dX.trans (ew.trans gk))))
 ·exact g10.le (dX.trans (ew.trans gk))
 ·exact g11.le gk
end Go.Proofs.Tryz
namespace Go.bh
open Go.dN
def tJ (V:View)(v:Value)(a b c:Rat):Prop:=∃(x1 x2:Int)(p:OA)(y1 y2:Int)(q:OA)(z1 z2:Int)(r:OA),v=.agg #[.int .i64 x1,.int .i64 x2,.pointer p,.int .i64 y1,.int .i64 y2,.pointer q,.int .i64 z1,.int .i64 z2,.pointer r] /\
 RR V (.agg #[.int .i64 x1,.int .i64 x2,.pointer p]) a/\RR V (.agg #[.int .i64 y1,.int .i64 y2,.pointer q]) b/\RR V (.agg #[.int .i64 z1,.int .i64 z2,.pointer r]) c
def Bv (v:Value):Prop:=∃(x1 x2:Int)(x3:OA)(y1 y2:Int)(y3:OA)(z1 z2:Int)(z3:OA),v=.agg #[.int .i64 x1,.int .i64 x2,.pointer x3,.int .i64 y1,.int .i64 y2,.pointer y3,.int .i64 z1,.int .i64 z2,.pointer z3]
theorem tJ.le {V V':View}{v:Value}{a b c:Rat}(h:tJ V v a b c)(l:V.Le V'):tJ V' v a b c:=by
 obtain ⟨x1,x2,p,y1,y2,q,z1,z2,r,rfl,h1,h2,h3⟩:=h
 exact ⟨x1,x2,p,y1,y2,q,z1,z2,r,rfl,h1.le l,h2.le l,h3.le l⟩
end Go.bh
namespace Go.Proofs.Tryz
open Go.bh Go.dN
theorem ye {V:View}{v:Value}{a b c:Rat}(h:tJ V v a b c){k:Nat}(s1:Sz k a)(s2:Sz k b)(s3:Sz k c)(hk:k<=1099511627776) :
  ab prog 92 #[v] V fun r V'=>RL V' r a.num b.num c.num:=by
 obtain ⟨x1,x2,p,y1,y2,q,z1,z2,r,rfl,h1,h2,h3⟩:=h
 refine qn _ _ _ _ _ _ _ _ _ V _ fun V1 l1=>(gO (h1.le l1) s1 hk).mono ?_
 rintro r V2 l2 ⟨p1,n1,c1,rfl,g1⟩
 refine ⟨_,_,_,_,rfl,fun V3 l3=>(gO (h2.le (l1.trans (l2.trans l3))) s2 hk).mono ?_⟩
 rintro r V4 l4 ⟨p2,n2,c2,rfl,g2⟩
 refine ⟨_,_,_,_,rfl,fun V5 l5=>(gO (h3.le (l1.trans (l2.trans (l3.trans (l4.trans l5))))) s3 hk).mono ?_⟩
 rintro r V6 l6 ⟨p3,n3,c3,rfl,g3⟩
 exact ⟨_,_,_,_,rfl,fun V7 l7=>⟨_,_,_,_,_,_,_,_,_,rfl,g1.le (l3.trans (l4.trans (l5.trans (l6.trans l7)))),g2.le (l5.trans (l6.trans l7)),g3.le l7⟩⟩
def fC (b1:Bool)(xs:List Nat)(b2:Bool)(ys:List Nat)(b3:Bool)(zs:List Nat):Bool:=
 dP b1 xs&&dP b2 ys&&dP b3 zs&&!(decide ((au b1 xs:Rat)=0)&&decide ((au b2 ys:Rat)=0))&&decide (fR (fR (au b1 xs) (au b2 ys)) (au b3 zs)=((1:Int):Rat))
theorem lB {V:View}{ok:Bool}{A B C:Rat}(h:ok=false):∃v,Value.tuple #[.agg #[.int .i64 0,.int .i64 0,.pointer none,.int .i64 0,.int .i64 0,.pointer none,.int .i64 0,.int .i64 0,.pointer none],.bool false]=.tuple #[v,.bool ok]/\Bv v/\(ok=true->tJ V v A B C):=by
 subst h;exact ⟨_,rfl,⟨_,_,_,_,_,_,_,_,_,rfl⟩,fun h=>nomatch h⟩
theorem wU:Sz 1 ((1:Int):Rat):=by unfold Sz;decide
theorem nI {V:View}(b1 b2 b3:Bool){p q s:OA}{n c m e i j:Nat}{xs ys zs:List Nat}(hx:RD V p n c xs)(hy:RD V q m e ys)(hz:RD V s i j zs)
  (h1:xs.length<=1099511627776)(h2:ys.length<=1099511627776)(h3:zs.length<=1099511627776){k:Nat}(s1:Sz k (au b1 xs:Rat))(s2:Sz k (au b2 ys:Rat))(s3:Sz k (au b3 zs:Rat))(hk:4*k+4<1099511627776) :
  ab prog 132 #[.agg #[.bool b1,.slice p n c,.bool b2,.slice q m e,.bool b3,.slice s i j]] V fun r V'=>∃v,r=.tuple #[v,.bool (fC b1 xs b2 ys b3 zs)]/\Bv v/\(fC b1 xs b2 ys b3 zs=true->tJ V' v (au b1 xs) (au b2 ys) (au b3 zs)):=by
 refine vk _ p n c _ q m e _ s i j V _ fun V1 l1=>(dU b1 (hx.le l1) h1).mono ?_
 rintro r V2 l2 rfl
 refine ⟨_,rfl,fun h0 V3 l3=>lB ?_,fun h0 V4 l4=>(dU b2 (hy.le (l1.trans (l2.trans l4))) h2).mono ?_⟩
 ·have h0:dP b1 xs=false:=by simpa using h0
  simp [fC,h0]
 have h0:dP b1 xs=true:=by simpa using h0
 rintro r V5 l5 rfl
 refine ⟨_,rfl,fun g0 V6 l6=>lB ?_,fun g0 V7 l7=>(dU b3 (hz.le (l1.trans (l2.trans (l4.trans (l5.trans l7))))) h3).mono ?_⟩
 ·have g0:dP b2 ys=false:=by simpa using g0
  simp [fC,g0]
 have g0:dP b2 ys=true:=by simpa using g0
 rintro r V8 l8 rfl
 have GD:=l1.trans (l2.trans (l4.trans (l5.trans (l7.trans l8))))
 refine ⟨_,rfl,fun f0 V9 l9=>lB ?_,fun f0 jq l10=>(gQ b1 (hx.le (GD.trans l10)) h1).mono ?_⟩
 ·have f0:dP b3 zs=false:=by simpa using f0
  simp [fC,f0]
 have f0:dP b3 zs=true:=by simpa using f0
 rintro r pJ cA ra
 obtain ⟨x1,x2,x3,rfl⟩:=ra.shape
 have Fi:=GD.trans (l10.trans cA)
 refine ⟨_,_,_,rfl,fun nu dt=>(gQ b2 (hy.le (Fi.trans dt)) h2).mono ?_⟩
 rintro r qH dJ rb
 obtain ⟨y1,y2,y3,rfl⟩:=rb.shape
 have wz:=Fi.trans (dt.trans dJ)
 refine ⟨_,_,_,rfl,fun pK dO=>(gQ b3 (hz.le (wz.trans dO)) h3).mono ?_⟩
 rintro r pL fp rc
 obtain ⟨z1,z2,z3,rfl⟩:=rc.shape
 replace ra:=ra.le (dt.trans (dJ.trans (dO.trans fp)))
 replace rb:=rb.le (dO.trans fp)
 have hok:fC b1 xs b2 ys b3 zs=(!(decide ((au b1 xs:Rat)=0)&&decide ((au b2 ys:Rat)=0))&&decide (fR (fR (au b1 xs) (au b2 ys)) (au b3 zs)=((1:Int):Rat))):=by
  simp only [fC,h0,g0,f0,Bool.true_and]
 rw [hok]
 clear hok h0 g0 f0 hx hy hz
 generalize (au b1 xs:Rat)=A at *
 generalize (au b2 ys:Rat)=B at *
 generalize (au b3 zs:Rat)=C at *
 refine ⟨_,_,_,rfl,fun rV dX=>(tU (ra.le dX)).mono ?_⟩
 rintro r pP ew rfl
 refine ⟨_,rfl,fun t0 vH gk=>(tU (rb.le (dX.trans (ew.trans gk)))).mono ?_,fun t0 tL il=>?_⟩
 ·rintro r zi iB rfl
  refine ⟨_,rfl,fun u0 Bm lr=>lB (by rw [t0,u0];rfl),fun u0 tL il=>?_⟩
  have lb:pL.Le tL:=dX.trans (ew.trans (gk.trans (iB.trans il)))
  have hn:(decide (A=0)&&decide (B=0))=false:=by rw [u0,Bool.and_false]
  rw [hn]
  refine (gP (ra.le lb) (rb.le lb) s1 s2 (by omega)).mono ?_
  rintro r xY lu rg
  obtain ⟨g1,g2,g3,rfl⟩:=rg.shape
  refine ⟨_,_,_,rfl,fun vM js=>(gP (rg.le js) (rc.le (lb.trans (lu.trans js))) (je s1 s2) s3 (by omega)).mono ?_⟩
  rintro r Bn wA rh
  obtain ⟨h1,h2,h3,rfl⟩:=rh.shape
  refine ⟨_,_,_,rfl,fun Bo pM=>(jD 1 (by omega) (by omega)).mono ?_⟩
  rintro r Eo xE ri
  obtain ⟨i1,i2,i3,rfl⟩:=ri.shape
  refine ⟨_,_,_,rfl,fun Gu uA=>(qS (rh.le (pM.trans (xE.trans uA))) (ri.le uA) (je (je s1 s2) s3) wU (by omega)).mono ?_⟩
  rintro r Ep B4 rfl
  have lz:pL.Le Ep:=lb.trans (lu.trans (js.trans (wA.trans (pM.trans (xE.trans (uA.trans B4))))))
  refine ⟨_,rfl,fun w0 G2 C3=>lB ?_,fun w0 Er yB=>?_⟩
  ·rw [Bool.not_eq_true'] at w0
   rw [w0];rfl
  ·have w0:decide (fR (fR A B) C=((1:Int):Rat))=true:=by
    cases h:decide (fR (fR A B) C=((1:Int):Rat))
    ·rw [h] at w0;cases w0
    ·rfl
   rw [w0]
   exact ⟨_,rfl,⟨_,_,_,_,_,_,_,_,_,rfl⟩,fun _=>⟨_,_,_,_,_,_,_,_,_,rfl,ra.le (lz.trans yB),rb.le (lz.trans yB),rc.le (lz.trans yB)⟩⟩
 ·have lb:pL.Le tL:=dX.trans (ew.trans il)
  have hn:(decide (A=0)&&decide (B=0))=false:=by rw [t0,Bool.false_and]
  rw [hn]
  refine (gP (ra.le lb) (rb.le lb) s1 s2 (by omega)).mono ?_
  rintro r xY lu rg
  obtain ⟨g1,g2,g3,rfl⟩:=rg.shape
  refine ⟨_,_,_,rfl,fun vM js=>(gP (rg.le js) (rc.le (lb.trans (lu.trans js))) (je s1 s2) s3 (by omega)).mono ?_⟩
  rintro r Bn wA rh
  obtain ⟨h1,h2,h3,rfl⟩:=rh.shape
  refine ⟨_,_,_,rfl,fun Bo pM=>(jD 1 (by omega) (by omega)).mono ?_⟩
  rintro r Eo xE ri
  obtain ⟨i1,i2,i3,rfl⟩:=ri.shape
  refine ⟨_,_,_,rfl,fun Gu uA=>(qS (rh.le (pM.trans (xE.trans uA))) (ri.le uA) (je (je s1 s2) s3) wU (by omega)).mono ?_⟩
  rintro r Ep B4 rfl
  have lz:pL.Le Ep:=lb.trans (lu.trans (js.trans (wA.trans (pM.trans (xE.trans (uA.trans B4))))))
  refine ⟨_,rfl,fun w0 G2 C3=>lB ?_,fun w0 Er yB=>?_⟩
  ·rw [Bool.not_eq_true'] at w0
   rw [w0];rfl
  ·have w0:decide (fR (fR A B) C=((1:Int):Rat))=true:=by
    cases h:decide (fR (fR A B) C=((1:Int):Rat))
    ·rw [h] at w0;cases w0
    ·rfl
   rw [w0]
   exact ⟨_,rfl,⟨_,_,_,_,_,_,_,_,_,rfl⟩,fun _=>⟨_,_,_,_,_,_,_,_,_,rfl,ra.le (lz.trans yB),rb.le (lz.trans yB),rc.le (lz.trans yB)⟩⟩
def Ch:List Int->Int
 | []=>0
 | x::r=>if x=0 then Ch r else x
def DN (l:List Int):List Value:=l.map fun x=>Value.int .i64 x
theorem DY {l:List Int}:Ch l=0↔∀x∈l,x=0:=by
 induction l with
 | nil=>simp [Ch]
 | cons x r ih=>
  simp only [Ch,List.mem_cons,forall_eq_or_imp]
  split
  ·rename_i h;simp [h,ih]
  ·rename_i h;simp [h]
theorem zO {V:View}{p:OA}{n c:Nat}{l:List Int}(hl:n=l.length)(hs:V.sl p (DN l))(hm:l.length<=1099511627776) :
  ab prog 177 #[.slice p n c] V fun r V'=>r=.int .i64 (Ch l):=by
 refine zd p n c V _ ⟨fun z V'=>0<=z/\z<=n/\Ch l=Ch (l.drop z.toNat),fun z=>n-z.toNat,⟨0,by (try dsimp only);and_intros<;>first|exact True.intro|rfl,by (try dsimp only);omega,by (try dsimp only);omega,rfl⟩,?_⟩
 rintro i V1 l1 ⟨hi0,hi1,he⟩
 dsimp only at hi1 he ⊢
 obtain ⟨i,rfl⟩:=Int.eq_ofNat_of_zero_le hi0
 simp only [Int.toNat_natCast] at he
 refine ⟨by trivial,fun h3=>?_,fun h3 V3 l3=>?_⟩
 ·have h3:i<n:=by simpa using h3
  have hil:i<l.length:=by omega
  obtain ⟨ad,e1,hat⟩:=(l1.sl hs) i (.int .i64 l[i]) (by simp [DN,hil])
  rw [List.drop_eq_getElem_cons hil,Ch] at he
  refine ⟨by rw [e1];rfl,⟨by omega,by omega⟩,l[i],⟨ad.add i,by rw [e1];simp [af],hat⟩,fun h4 V2 l2=>?_,fun h4=>?_⟩
  ·have h4:l[i]≠0:=by simpa using h4
   rw [if_neg h4] at he
   rw [he]
  ·have h4:l[i]=0:=by simpa using h4
   rw [if_pos h4] at he
   have w:i64.wrap ((i:Int)+1)=((i+1:Nat):Int):=by rw [aG (by omega)];omega
   simp only [w]
   refine ⟨((i+1:Nat):Int),?_,by (try dsimp only);and_intros<;>first|exact True.intro|rfl,by (try dsimp only);omega,by (try dsimp only);omega,?_⟩
   ·(try dsimp only);omega
   ·exact he
 ·have h3:i=n:=by simp at h3;omega
  rw [List.drop_of_length_le (by omega)] at he
  rw [he];rfl
theorem yf {V:View}{v w:Value}{a b c a' b' c':Rat}(hx:tJ V v a b c)(hy:tJ V w a' b' c'){k m:Nat}(s1:Sz k a)(s2:Sz k b)(s3:Sz k c)(t1:Sz m a')(t2:Sz m b')(t3:Sz m c')(hk:k+m<1099511627776) :
  ab prog 140 #[v,w] V fun r V'=>r=.int .i64 (Ch [gz a a',gz b b',gz c c']):=by
 obtain ⟨x1,x2,p,y1,y2,q,z1,z2,r,rfl,h1,h2,h3⟩:=hx
 obtain ⟨x3,x4,p',y3,y4,q',z3,z4,r',rfl,g1,g2,g3⟩:=hy
 refine qo _ _ _ _ _ _ _ _ _ _ _ _ _ _ _ _ _ _ V _ fun V1 l1=>(mX (h1.le l1) (g1.le l1) s1 t1 hk).mono ?_
 rintro r V2 l2 rfl
 refine ⟨_,rfl,fun V3 l3=>(mX (h2.le (l1.trans (l2.trans l3))) (g2.le (l1.trans (l2.trans l3))) s2 t2 hk).mono ?_⟩
 rintro r V4 l4 rfl
 have yA:=l1.trans (l2.trans (l3.trans l4))
 refine ⟨_,rfl,fun V5 l5=>(mX (h3.le (yA.trans l5)) (g3.le (yA.trans l5)) s3 t3 hk).mono ?_⟩
 rintro r V6 l6 rfl
 refine ⟨_,rfl,fun V7 l7 bk hb=>(zO (l:=[gz a a',gz b b',gz c c']) rfl (fun i v hv=>⟨_,rfl,by rw [add_zero'];exact bY (xs:=DN [gz a a',gz b b',gz c c']) hb hv⟩) (by simp)).mono ?_⟩
 rintro r V8 l8 rfl
 exact ⟨_,rfl,fun _ V9 l9=>rfl⟩
theorem tW {V:View}{v w:Value}{a b c a' b' c':Rat}(hx:tJ V v a b c)(hy:tJ V w a' b' c'){k m:Nat}(s1:Sz k a)(s2:Sz k b)(s3:Sz k c)(t1:Sz m a')(t2:Sz m b')(t3:Sz m c')(hk:k+m<1099511627776) :
  ab prog 142 #[v,w] V fun r V'=>r=.bool (decide (a=a'/\b=b'/\c=c')):=by
 have hx0:=hx
 have hy0:=hy
 obtain ⟨x1,x2,p,y1,y2,q,z1,z2,r,rfl,-,-,-⟩:=hx
 obtain ⟨x3,x4,p',y3,y4,q',z3,z4,r',rfl,-,-,-⟩:=hy
 refine mP _ _ _ _ _ _ _ _ _ _ _ _ _ _ _ _ _ _ V _ fun V1 l1=>(yf (hx0.le l1) (hy0.le l1) s1 s2 s3 t1 t2 t3 hk).mono ?_
 rintro r V2 l2 rfl
 refine ⟨_,rfl,fun V3 l3=>?_⟩
 congr 1
 rw [Bool.eq_iff_iff,decide_eq_true_eq,beq_iff_eq,DY]
 simp [←su]
end Go.Proofs.Tryz
namespace Go.Proofs.Tryz
open Go.bh
set_option maxRecDepth 100000
end Go.Proofs.Tryz
namespace Go.Proofs.Tryz
open Go.bh Go.dN
def Gp (V:View)(v:Value)(x y:Rat):Prop:=∃(x1 x2:Int)(p:OA)(y1 y2:Int)(q:OA),v=.agg #[.int .i64 x1,.int .i64 x2,.pointer p,.int .i64 y1,.int .i64 y2,.pointer q] /\
 RR V (.agg #[.int .i64 x1,.int .i64 x2,.pointer p]) x/\RR V (.agg #[.int .i64 y1,.int .i64 y2,.pointer q]) y
theorem Gp.le {V V':View}{v:Value}{x y:Rat}(h:Gp V v x y)(l:V.Le V'):Gp V' v x y:=by
 obtain ⟨x1,x2,p,y1,y2,q,e,h1,h2⟩:=h
 exact ⟨x1,x2,p,y1,y2,q,e,h1.le l,h2.le l⟩
end Go.Proofs.Tryz
namespace Go.Proofs.Tryz
open Go.bh
set_option maxRecDepth 100000
end Go.Proofs.Tryz
namespace Go.Proofs.Tryz
open Go.bh Go.dN
theorem RQ.ofNat {V:View}{p:OA}{n c x:Nat}(h:RN V p n c x){b:Bool}(hb:b=decide ((x:Int)<0)):RQ V (.agg #[.bool b,.slice p n c,.slice none 0 0]) ((x:Int):Rat):=
 kD (z:=(x:Int)) (d:=1) rfl rfl h RD.nil hb
theorem RQ.int {V:View}{q:Rat}{b:Bool}{p:OA}{n c:Nat}{p':OA}{n' c':Nat}(h:RQ V (.agg #[.bool b,.slice p n c,.slice p' n' c']) q):RI V (.agg #[.bool b,.slice p n c]) q.num:=by
 obtain ⟨p1,n1,c1,p2,n2,c2,e,h1,h2⟩:=h
 cases e
 exact ⟨_,_,_,rfl,h1⟩
theorem RQ.den {V:View}{q:Rat}{b:Bool}{p:OA}{n c:Nat}{p':OA}{n' c':Nat}(h:RQ V (.agg #[.bool b,.slice p n c,.slice p' n' c']) q):RD V p' n' c' (mF q.den):=by
 obtain ⟨p1,n1,c1,p2,n2,c2,e,h1,h2⟩:=h
 cases e
 exact h2
def rQ (px py qx qy:Rat):Rat×Rat×Rat:=
 let a:=-(qy-py);let b:=qx-px;let c:=-(a*px+b*py)
 let f:Rat:=(((a.den*b.den*c.den:Nat):Int):Rat)
 (a*f,b*f,c*f)
theorem D5 {n k:Nat}(h:n<2^k)(hk:0<k):Sz k (((n:Nat):Int):Rat):=by
 refine ⟨?_,?_⟩
 ·show ((n:Nat):Int).natAbs<_
  simpa using h
 ·show 1<2^k
  exact Nat.one_lt_two_pow (by omega)
theorem mD {V:View}{u w:Value}{px py qx qy:Rat}(hp:RP V u px py)(hq:RP V w qx qy){k:Nat}(s1:Sz k px)(s2:Sz k py)(s3:Sz k qx)(s4:Sz k qy)(hk1:1<=k)(hk:64*k+64<274877906944) :
  ab prog 50 #[u,w] V fun r V'=>((rQ px py qx qy).1.num=0/\(rQ px py qx qy).2.1.num=0->∃l,r=.tuple #[l,.bool false]/\RL V' l 0 0 0) /\
   (¬((rQ px py qx qy).1.num=0/\(rQ px py qx qy).2.1.num=0)->∃l,r=.tuple #[l,.bool true] /\
    RL V' l ((rQ px py qx qy).1.num / (iw (rQ px py qx qy).1.num (rQ px py qx qy).2.1.num (rQ px py qx qy).2.2.num:Int)) ((rQ px py qx qy).2.1.num / (iw (rQ px py qx qy).1.num (rQ px py qx qy).2.1.num (rQ px py qx qy).2.2.num:Int)) ((rQ px py qx qy).2.2.num / (iw (rQ px py qx qy).1.num (rQ px py qx qy).2.1.num (rQ px py qx qy).2.2.num:Int))):=by
 have hp0:=hp
 have hq0:=hq
 obtain ⟨p1,n1,c1,p2,n2,c2,p3,n3,c3,p4,n4,c4,rfl,hp1,hp2⟩:=hp
 obtain ⟨q1,m1,e1,q2,m2,e2,q3,m3,e3,q4,m4,e4,rfl,-,-⟩:=hq
 refine lN _ p1 n1 c1 p2 n2 c2 _ p3 n3 c3 p4 n4 c4 _ q1 m1 e1 q2 m2 e2 _ q3 m3 e3 q4 m4 e4 V _ fun V1 l1=>(ub (hq0.le l1) (hp0.le l1) s3 s4 s1 s2 hk1 (by omega)).mono ?_
 rintro r V2 l2 ⟨a1,a2,a3,a4,a5,a6,a7,a8,a9,Mz,MA,a12,rfl,hb,hd⟩
 have tb:Sz (k+k+1) (qx-px):=s3.sub s1
 have td:Sz (k+k+1) (qy-py):=s4.sub s2
 have zp:=l1.trans l2
 refine ⟨_,_,_,_,_,_,_,_,_,_,_,_,_,_,rfl,fun V3 l3=>(q_ (qy-py) (by obtain ⟨_,_,_,_,_,_,e,h1,h2⟩:=hd.le l3;cases e;exact h1) (RQ.den (hd.le l3))).mono ?_⟩
 rintro r V4 l4 ha
 obtain ⟨b1,b2,b3,b4,b5,b6,rfl⟩:=ha.shape
 have ta:=td.neg
 have HG:rQ px py qx qy=(-(qy-py)*(((((-(qy-py)).den*(qx-px).den*(-(-(qy-py)*px+(qx-px)*py)).den:Nat):Int):Rat)),(qx-px)*(((((-(qy-py)).den*(qx-px).den*(-(-(qy-py)*px+(qx-px)*py)).den:Nat):Int):Rat)),(-(-(qy-py)*px+(qx-px)*py))*(((((-(qy-py)).den*(qx-px).den*(-(-(qy-py)*px+(qx-px)*py)).den:Nat):Int):Rat))):=rfl
 rw [HG]
 generalize -(qy-py)=A at *
 generalize qx-px=B at *
 replace hb:=hb.le (l3.trans l4)
 replace hp1:=hp1.le (zp.trans (l3.trans l4))
 replace hp2:=hp2.le (zp.trans (l3.trans l4))
 refine ⟨_,_,_,_,_,_,_,rfl,fun V5 l5=>(cC (ha.le l5) (hp1.le l5) ta s1 (by omega)).mono ?_⟩
 rintro r V6 l6 g6
 obtain ⟨d1,d2,d3,d4,d5,d6,rfl⟩:=g6.shape
 refine ⟨_,_,_,_,_,_,_,rfl,fun V7 l7=>(cC (hb.le (l5.trans (l6.trans l7))) (hp2.le (l5.trans (l6.trans l7))) tb s2 (by omega)).mono ?_⟩
 rintro r V8 l8 g8
 obtain ⟨f1,f2,f3,f4,f5,f6,rfl⟩:=g8.shape
 refine ⟨_,_,_,_,_,_,_,rfl,fun V9 l9=>(jF (g6.le (l7.trans (l8.trans l9))) (g8.le l9) (ta.mul s1) (tb.mul s2) (by omega)).mono ?_⟩
 rintro r jq l10 g10
 have tc:=((ta.mul s1).add (tb.mul s2)).neg
 obtain ⟨i1,i2,i3,i4,i5,i6,rfl⟩:=g10.shape
 refine ⟨_,_,_,_,_,_,_,rfl,fun pJ cA=>(q_ (A*px+B*py) (by obtain ⟨_,_,_,_,_,_,e,h1,h2⟩:=g10.le cA;cases e;exact h1) (RQ.den (g10.le cA))).mono ?_⟩
 rintro r nu dt hc
 generalize -(A*px+B*py)=C at *
 obtain ⟨j1,j2,j3,j4,j5,j6,rfl⟩:=hc.shape
 have sB:=l5.trans (l6.trans (l7.trans (l8.trans (l9.trans (l10.trans (cA.trans dt))))))
 replace ha:=ha.le sB
 replace hb:=hb.le sB
 refine ⟨_,_,_,_,_,_,_,rfl,fun qH dJ=>(cL A _ (RQ.den (ha.le dJ))).mono ?_⟩
 rintro r pK dO ⟨k1,k2,k3,rfl,g14⟩
 refine ⟨_,_,_,rfl,fun pL fp=>(cL B _ (RQ.den (hb.le (dJ.trans (dO.trans fp))))).mono ?_⟩
 rintro r rV dX ⟨k4,k5,k6,rfl,g16⟩
 obtain ⟨-,da,-⟩:=bL ta
 obtain ⟨-,db,-⟩:=bL tb
 obtain ⟨-,dc,-⟩:=bL tc
 refine ⟨_,_,_,rfl,fun pP ew=>(bU (g14.le (fp.trans (dX.trans ew))) (g16.le ew) (by omega)).mono ?_⟩
 rintro r vH gk ⟨k7,k8,k9,rfl,g18⟩
 rw [ae,ae] at g18
 refine ⟨_,_,_,rfl,fun zi iB=>(cL C _ (RQ.den (hc.le (dJ.trans (dO.trans (fp.trans (dX.trans (ew.trans (gk.trans iB))))))))).mono ?_⟩
 rintro r Bm lr ⟨k10,k11,k12,rfl,g20⟩
 have MB:=eQ (a:=A.den) (b:=B.den)
 refine ⟨_,_,_,rfl,fun tL il=>(bU (g18.le (iB.trans (lr.trans il))) (g20.le il) (by omega)).mono ?_⟩
 rintro r xY lu ⟨k13,k14,k15,rfl,g22⟩
 rw [ae,ae] at g22
 have tf:Sz (k+k+1+(k+k+1)+(k+k+1+k+1+(k+k+1+k+1)+1)) (((A.den*B.den*C.den:Nat):Int):Rat):=D5 (bG (bG ta.2 tb.2) tc.2) (by omega)
 generalize A.den*B.den*C.den=M at *
 refine ⟨_,_,_,rfl,fun vM js=>(kZ (g22.le js)).mono ?_⟩
 rintro r Bn wA ⟨k16,k17,k18,rfl,g24⟩
 have hf:=RQ.ofNat g24 rfl
 have DP:=dJ.trans (dO.trans (fp.trans (dX.trans (ew.trans (gk.trans (iB.trans (lr.trans (il.trans (lu.trans (js.trans wA))))))))))
 refine ⟨_,_,_,_,rfl,fun Bo pM=>(cC (ha.le (DP.trans pM)) (hf.le pM) ta tf (by omega)).mono ?_⟩
 rintro r Eo xE Jy
 obtain ⟨o1,o2,o3,o4,o5,o6,rfl⟩:=Jy.shape
 refine ⟨_,_,_,_,_,_,_,rfl,fun Gu uA=>(cC (hb.le (DP.trans (pM.trans (xE.trans uA)))) (hf.le (pM.trans (xE.trans uA))) tb tf (by omega)).mono ?_⟩
 rintro r Ep B4 Jz
 obtain ⟨o7,o8,o9,ML,MM,MN,rfl⟩:=Jz.shape
 refine ⟨_,_,_,_,_,_,_,rfl,fun G2 C3=>(cC (hc.le (DP.trans (pM.trans (xE.trans (uA.trans (B4.trans C3)))))) (hf.le (pM.trans (xE.trans (uA.trans (B4.trans C3))))) tc tf (by omega)).mono ?_⟩
 rintro r Er yB JA
 obtain ⟨t1,t2,t3,t4,t5,t6,rfl⟩:=JA.shape
 refine ⟨_,_,_,_,_,_,_,rfl,fun Ks GG=>(pV (RQ.int (Jy.le (uA.trans (B4.trans (C3.trans (yB.trans GG)))))) (RQ.int (Jz.le (C3.trans (yB.trans GG)))) (RQ.int (JA.le GG)) (Nat.le_trans (bL (ta.mul tf)).1 (by omega)) (Nat.le_trans (bL (tb.mul tf)).1 (by omega)) (Nat.le_trans (bL (tc.mul tf)).1 (by omega))).mono ?_⟩
 rintro r Kt LJ ⟨z1,z2⟩
 by_cases hz:(A*((M:Int):Rat)).num=0/\(B*((M:Int):Rat)).num=0
 ·obtain ⟨l,rfl,y1,y2,y3,y4,y5,y6,y7,y8,y9,rfl,w1,w2,w3⟩:=z1 hz
  exact ⟨_,_,_,_,_,_,_,_,_,_,_,_,_,rfl,fun Ku DS=>⟨fun _=>⟨_,rfl,_,_,_,_,_,_,_,_,_,rfl,w1.le DS,w2.le DS,w3.le DS⟩,fun h=>absurd hz h⟩⟩
 ·obtain ⟨l,rfl,y1,y2,y3,y4,y5,y6,y7,y8,y9,rfl,w1,w2,w3⟩:=z2 hz
  exact ⟨_,_,_,_,_,_,_,_,_,_,_,_,_,rfl,fun Ku DS=>⟨fun h=>absurd h hz,fun _=>⟨_,rfl,_,_,_,_,_,_,_,_,_,rfl,w1.le DS,w2.le DS,w3.le DS⟩⟩⟩
theorem RA.shape {V:View}{v:Value}{q:Rat}(h:RA V v q):∃b p n c p' n' c',v=.agg #[.bool b,.slice p n c,.slice p' n' c']:=by
 obtain ⟨p,n,c,p',n',c',e,-⟩:=h;exact ⟨_,_,_,_,_,_,_,e⟩
def GV (V:View)(v:Value)(x y:Rat):Prop:=∃b p n c p' n' c' d q m e q' m' e',v=.agg #[.bool b,.slice p n c,.slice p' n' c',.bool d,.slice q m e,.slice q' m' e'] /\
 RA V (.agg #[.bool b,.slice p n c,.slice p' n' c']) x/\RA V (.agg #[.bool d,.slice q m e,.slice q' m' e']) y
theorem GV.le {V V':View}{v:Value}{x y:Rat}(h:GV V v x y)(l:V.Le V'):GV V' v x y:=by
 obtain ⟨b,p,n,c,p',n',c',d,q,m,e,q',m',e',rfl,h1,h2⟩:=h
 exact ⟨_,_,_,_,_,_,_,_,_,_,_,_,_,_,rfl,h1.le l,h2.le l⟩
abbrev L3:=Int×Int×Int
def fV (x:L3):Bool:=decide (¬(x.1=0/\x.2.1=0))&&decide (iw x.1 x.2.1 x.2.2=1)
def Bd (x:L3):Prop:=x.1.natAbs<2^1000/\x.2.1.natAbs<2^1000/\x.2.2.natAbs<2^1000
inductive Tr where
 | leaf (i:Bool)|node (l:L3) (a b:Tr)
 deriving DecidableEq
structure Nd where
 ln:L3
 left:Int
 right:Int
 deriving DecidableEq
def Tr.size:Tr->Nat
 | .leaf _=>0
 | .node _ a b=>a.size+b.size+1
def Tr.fS:Tr->Bool
 | .leaf _=>true
 | .node ..=>false
def Tr.kc (p:L3->Prop):Tr->Prop
 | .leaf _=>True
 | .node l a b=>p l/\a.kc p/\b.kc p
theorem Tr.kc.imp {p q:L3->Prop}(h:∀x,p x->q x):∀{t:Tr},t.kc p->t.kc q
 | .leaf _,_=>trivial
 | .node _ _ _,⟨h1,h2,h3⟩=>⟨h _ h1,Tr.kc.imp h h2,Tr.kc.imp h h3⟩
def rt (k:Nat):Tr->Int
 | .leaf i=>if i then -2 else -1
 | .node ..=>(k:Int)
def wr:Nat->Tr->List Nd
 | _,.leaf _=>[]
 | k,.node l a b=>⟨l,rt (k+1) a,rt (k+1+a.size) b⟩::(wr (k+1) a++wr (k+1+a.size) b)
theorem a_:∀(t:Tr)(k:Nat),(wr k t).length=t.size
 | .leaf _,_=>rfl
 | .node _ a b,k=>by simp only [wr,List.length_cons,List.length_append,a_ a,a_ b,Tr.size]
def Em (l:List Nd):Int->Tr->List Nat->Prop
 | n,.leaf i,I=>n=(if i then -2 else -1)/\I=[]
 | n,.node ln a b,I=>∃(k:Nat)(x:Nd)(A B:List Nat),n=(k:Int)/\l[k]?=some x/\x.ln=ln/\Em l x.left a A/\Em l x.right b B/\I=k::(A++B)
theorem wQ:∀(t:Tr)(l pre post:List Nd)(k:Nat),l=pre++(wr k t++post)->pre.length=k->Em l (rt k t) t (List.range' k t.size)
 | .leaf i,l,pre,post,k,_,_=>⟨rfl,rfl⟩
 | .node ln a b,l,pre,post,k,hl,hp=>by
  refine ⟨k,⟨ln,rt (k+1) a,rt (k+1+a.size) b⟩,List.range' (k+1) a.size,List.range' (k+1+a.size) b.size,rfl,?_,rfl,?_,?_,?_⟩
  ·subst hl
   rw [List.getElem?_append_right (by omega)]
   simp [hp,wr]
  ·refine wQ a l (pre++[⟨ln,rt (k+1) a,rt (k+1+a.size) b⟩]) (wr (k+1+a.size) b++post) (k+1) ?_ (by simp [hp])
   rw [hl];simp [wr]
  ·refine wQ b l (pre++(⟨ln,rt (k+1) a,rt (k+1+a.size) b⟩::wr (k+1) a)) post (k+1+a.size) ?_ (by simp [hp,a_];omega)
   rw [hl];simp [wr]
  ·simp only [Tr.size]
   rw [List.range'_succ,←List.range'_append_1]
structure RS where
 seen:List Bool
 eO:Nat
 bad:Bool
def bO (l:List Nd):Nat->Int->RS->Tr×RS
 | 0,_,s=>(.leaf false,s)
 | f+1,n,s=>
  if n=-2 then (.leaf true,s) else if n=-1 then (.leaf false,s) else if n<0 then (.leaf false,{ s with bad:=true })
  else match l[n.toNat]?,s.seen[n.toNat]? with
   | some x,some false=>
    if fV x.ln then
     let r1:=bO l f x.left ⟨s.seen.set n.toNat true,s.eO+1,s.bad⟩
     let r2:=bO l f x.right r1.2
     (.node x.ln r1.1 r2.1,r2.2)
    else (.leaf false,⟨s.seen.set n.toNat true,s.eO+1,true⟩)
   | _,_=>(.leaf false,{ s with bad:=true })
theorem count_set {l:List Bool}{k:Nat}(h:l[k]?=some false):(l.set k true).count false+1=l.count false:=by
 induction l generalizing k with
 | nil=>simp at h
 | cons x r ih=>
  cases k with
  | zero=>simp at h;subst h;simp
  | succ k=>
   simp at h
   have:=ih h
   simp only [List.set_cons_succ,List.count_cons]
   omega
theorem gE (l:List Nd):∀(f:Nat)(n:Int)(s:RS),(bO l f n s).2.seen.count false<=s.seen.count false/\(bO l f n s).2.seen.length=s.seen.length
 | 0,_,_=>⟨Nat.le_refl _,rfl⟩
 | f+1,n,s=>by
  simp only [bO]
  split
  ·exact ⟨Nat.le_refl _,rfl⟩
  ·split
   ·exact ⟨Nat.le_refl _,rfl⟩
   ·split
    ·exact ⟨Nat.le_refl _,rfl⟩
    ·split
     ·rename_i x hx hs
      have hc:=count_set hs
      split
      ·obtain ⟨h1,h2⟩:=gE l f x.left ⟨s.seen.set n.toNat true,s.eO+1,s.bad⟩
       obtain ⟨h3,h4⟩:=gE l f x.right (bO l f x.left ⟨s.seen.set n.toNat true,s.eO+1,s.bad⟩).2
       dsimp only at h1 h2 h3 h4 ⊢
       exact ⟨by omega,by rw [h4,h2,List.length_set]⟩
      ·dsimp only;exact ⟨by omega,by simp⟩
     ·exact ⟨Nat.le_refl _,rfl⟩
theorem nj (l:List Nd):∀(f:Nat)(n:Int)(s:RS),(bO l f n s).2.eO+(bO l f n s).2.seen.count false=s.eO+s.seen.count false
 | 0,_,_=>rfl
 | f+1,n,s=>by
  simp only [bO]
  split
  ·rfl
  ·split
   ·rfl
   ·split
    ·rfl
    ·split
     ·rename_i x hx hs
      have hc:=count_set hs
      split
      ·have h1:=nj l f x.left ⟨s.seen.set n.toNat true,s.eO+1,s.bad⟩
       have h3:=nj l f x.right (bO l f x.left ⟨s.seen.set n.toNat true,s.eO+1,s.bad⟩).2
       dsimp only at h1 h3 ⊢
       omega
      ·dsimp only;omega
     ·rfl
theorem sJ {p:L3->Prop}{l:List Nd}(hl:∀x∈l,p x.ln):∀(f:Nat)(n:Int)(s:RS),(bO l f n s).1.kc p
 | 0,_,_=>trivial
 | f+1,n,s=>by
  simp only [bO]
  split
  ·trivial
  ·split
   ·trivial
   ·split
    ·trivial
    ·split
     ·rename_i x hx hs
      split
      ·exact ⟨hl x (List.mem_of_getElem? hx),sJ hl f _ _,sJ hl f _ _⟩
      ·trivial
     ·trivial
theorem oK (l:List Nd):∀(f:Nat)(n:Int)(s:RS),(bO l f n s).1.size+s.eO<=(bO l f n s).2.eO
 | 0,_,_=>by simp [bO,Tr.size]
 | f+1,n,s=>by
  simp only [bO]
  split
  ·simp [Tr.size]
  ·split
   ·simp [Tr.size]
   ·split
    ·simp [Tr.size]
    ·split
     ·split
      ·rename_i x hx hs hok
       have h1:=oK l f x.left ⟨s.seen.set n.toNat true,s.eO+1,s.bad⟩
       have h3:=oK l f x.right (bO l f x.left ⟨s.seen.set n.toNat true,s.eO+1,s.bad⟩).2
       dsimp only at h1 h3 ⊢
       simp only [Tr.size]
       omega
      ·simp [Tr.size]
     ·simp [Tr.size]
def jN (s:List Bool)(I:List Nat):List Bool:=I.foldl (fun s k=>s.set k true) s
theorem oR:∀(I:List Nat)(s:List Bool)(k:Nat),k∉I->(jN s I)[k]?=s[k]?
 | [],_,_,_=>rfl
 | i::r,s,k,h=>by
  have:=oR r (s.set i true) k (fun h'=>h (List.mem_cons_of_mem _ h'))
  unfold jN at this ⊢
  rw [List.foldl_cons,this,List.getElem?_set_ne (fun e=>h (by simp [e]))]
theorem sL (l:List Nd):∀(t:Tr)(f:Nat)(n:Int)(s:RS)(I:List Nat),Em l n t I->I.Nodup->(∀k∈I,s.seen[k]?=some false)->t.kc (fun x=>fV x=true)->t.size<f->bO l f n s=(t,⟨jN s.seen I,s.eO+t.size,s.bad⟩)
 | .leaf i,f,n,s,I,⟨h1,h2⟩,_,_,_,hf=>by
  subst h2
  obtain ⟨f,rfl⟩:∃g,f=g+1:=⟨f-1,by simp [Tr.size] at hf;omega⟩
  cases i with
  | true=>simp only [if_true] at h1;subst h1;simp [bO,jN,Tr.size]
  | false=>
   have h1:n=-1:=by simpa using h1
   subst h1;simp [bO,jN,Tr.size]
 | .node ln a b,f,n,s,I,⟨k,x,A,B,h1,h2,h3,h4,h5,h6⟩,hnd,hun,hok,hf=>by
  subst h1 h3 h6
  obtain ⟨f,rfl⟩:∃g,f=g+1:=⟨f-1,by simp [Tr.size] at hf;omega⟩
  rw [List.nodup_cons,List.nodup_append] at hnd
  obtain ⟨hk,hA,hB,K9⟩:=hnd
  have hks:=hun k (by simp)
  simp only [Tr.size] at hf
  have e1:=sL l a f x.left ⟨s.seen.set k true,s.eO+1,s.bad⟩ A h4 hA (fun j hj=>by
   have:k≠j:=fun e=>hk (by rw [e];simp [hj])
   dsimp only
   rw [List.getElem?_set_ne this]
   exact hun j (by simp [hj])) hok.2.1 (by omega)
  have e2:=sL l b f x.right ⟨jN (s.seen.set k true) A,s.eO+1+a.size,s.bad⟩ B h5 hB (fun j hj=>by
   have:k≠j:=fun e=>hk (by rw [e];simp [hj])
   dsimp only
   rw [oR A _ j (fun h=>K9 j h j hj rfl),List.getElem?_set_ne this]
   exact hun j (by simp [hj])) hok.2.2 (by omega)
  have hn1:¬((k:Int)=-2):=by omega
  have hn2:¬((k:Int)=-1):=by omega
  have Lq:¬((k:Int)<0):=by omega
  have e0:bO l (f+1) (k:Int) s=(.node x.ln (bO l f x.left ⟨s.seen.set k true,s.eO+1,s.bad⟩).1 (bO l f x.right (bO l f x.left ⟨s.seen.set k true,s.eO+1,s.bad⟩).2).1,(bO l f x.right (bO l f x.left ⟨s.seen.set k true,s.eO+1,s.bad⟩).2).2):=by
   rw [bO]
   rw [if_neg hn1,if_neg hn2,if_neg Lq]
   simp only [Int.toNat_natCast,h2,hks,hok.1,if_true]
  rw [e0,e1]
  dsimp only
  rw [e2]
  simp only [jN,List.foldl_cons,List.foldl_append,Tr.size,Prod.mk.injEq,RS.mk.injEq,true_and]
  first|omega|exact ⟨by omega,trivial⟩
def dv (l:List Nd)(root:Int):Option Tr:=
 if 65536<l.length then none else
 let r:=bO l (l.length+1) root ⟨List.replicate l.length false,0,false⟩
 if r.2.bad=true\/r.2.eO≠l.length then none else some r.1
theorem Cf {l:List Nd}{n:Int}{t:Tr}{I:List Nat}(h:Em l n t I)(hn:I.Nodup)(hI:∀k∈I,k<l.length)(hs:t.size=l.length)(hok:t.kc fun x=>fV x=true)(hl:l.length<=65536):dv l n=some t:=by
 unfold dv
 rw [if_neg (by omega)]
 rw [sL l t (l.length+1) n _ I h hn (fun k hk=>by simp [hI k hk]) hok (by omega)]
 simp [hs]
theorem wE {t:Tr}(hok:t.kc fun x=>fV x=true)(hl:t.size<=65536):dv (wr 0 t) (rt 0 t)=some t:=by
 have h:=wQ t (wr 0 t) [] [] 0 (by simp) rfl
 refine Cf h List.nodup_range' (fun k hk=>?_) (a_ t 0).symm hok (by rw [a_];exact hl)
 rw [a_]
 have:=List.mem_range'_1.1 hk
 omega
theorem jk {p:L3->Prop}{l:List Nd}{n:Int}{t:Tr}(hl:∀x∈l,p x.ln)(h:dv l n=some t):t.kc p:=by
 unfold dv at h
 split at h
 ·cases h
 ·dsimp only at h
  split at h
  ·cases h
  ·cases h;exact sJ hl _ _ _
theorem oG {l:List Nd}{n:Int}{t:Tr}(h:dv l n=some t):t.size<=65536:=by
 unfold dv at h
 split at h
 ·cases h
 ·dsimp only at h
  split at h
  ·cases h
  ·rename_i h1 h2
   cases h
   have:=oK l (l.length+1) n ⟨List.replicate l.length false,0,false⟩
   dsimp only at this
   have h3:(bO l (l.length+1) n ⟨List.replicate l.length false,0,false⟩).2.eO=l.length:=by
    rcases Nat.lt_or_ge 0 1 with _|h
    ·by_cases e:(bO l (l.length+1) n ⟨List.replicate l.length false,0,false⟩).2.eO=l.length
     ·exact e
     ·exact absurd (.inr e) h2
    ·omega
   omega
def LY (n Hd i:Nat):Nat:=n-1-(i+Hd)%n
def mv (n Hd:Nat)(i:Int):Int:=if i<0 then i else (LY n Hd i.toNat:Int)
theorem zv (a:Addr)(i j:Nat):(a.add i).add j=a.add (i+j):=by
 unfold Addr.add
 by_cases h1:i=0
 ·subst h1;simp
 ·by_cases h2:j=0
  ·subst h2;simp [h1]
  ·simp [h1,h2,Nat.add_assoc]
theorem tE {V:View}{b:Nat}{xs:List Value}{ty:TypeId}{m:Nat×Nat}(h:V.bj b (.cells xs.toArray ty m))(i:Nat){v:Value}(hv:xs[i]?=some v):∃a,af (some ⟨b,0,none⟩) i=some a/\V.at a v:=
 ⟨⟨b,i,none⟩,by simp [af,add_zero'],bY h hv⟩
theorem oH {a b c:Int}:fC (decide (a<0)) (ag a.natAbs) (decide (b<0)) (ag b.natAbs) (decide (c<0)) (ag c.natAbs)=fV (a,b,c):=by
 have hn:∀z:Int,dP (decide (z<0)) (ag z.natAbs)=true:=by
  intro z
  unfold dP
  rw [ae]
  simp only [decide_true,Bool.true_and]
  by_cases h:z<0
  ·simp only [h,decide_true,Bool.not_true,Bool.false_or,decide_eq_true_eq]
   intro e
   have:=bf.1 e
   omega
  ·simp [h]
 have hg:fR (fR (a:Rat) (b:Rat)) (c:Rat)=((iw a b c:Nat):Int):=by
  have g2:∀x y:Int,fR (x:Rat) (y:Rat)=((Nat.gcd x.natAbs y.natAbs:Nat):Int):=by
   intro x y
   unfold fR
   have e1:((x:Rat)).num=x:=rfl
   have e2:((y:Rat)).num=y:=rfl
   have e3:((x:Rat)).den=1:=rfl
   have e4:((y:Rat)).den=1:=rfl
   rw [e1,e2,e3,e4]
   simp only [Nat.mul_one]
   exact Rat.mkRat_one _
  rw [g2,g2]
  rfl
 unfold fC fV
 rw [hn,hn,hn,aL,aL,aL,hg]
 have h0:∀z:Int,((z:Rat)=0)↔z=0:=fun z=>by exact Rat.intCast_eq_zero_iff
 simp only [Bool.true_and,h0]
 rw [Bool.eq_iff_iff]
 simp only [Bool.and_eq_true,Bool.not_eq_true',Bool.and_eq_false_iff,decide_eq_false_iff_not,decide_eq_true_eq]
 have h1:(((iw a b c:Nat):Int):Rat)=((1:Int):Rat)↔iw a b c=1:=by
  rw [Rat.intCast_inj];omega
 rw [h1]
 constructor
 ·rintro ⟨h,h'⟩;exact ⟨fun e=>by rcases h with h|h;exact h e.1;exact h e.2,h'⟩
 ·rintro ⟨h,h'⟩
  refine ⟨?_,h'⟩
  by_cases ha:a=0
  ·exact .inr fun hb=>h ⟨ha,hb⟩
  ·exact .inl ha
theorem lF {z:Int}{k:Nat}(h:z.natAbs<2^k)(hk:0<k):Sz k (z:Rat):=⟨h,Nat.one_lt_two_pow (by omega)⟩
theorem Bd.ag {x:L3}(h:Bd x):(ag x.1.natAbs).length<=1000/\(ag x.2.1.natAbs).length<=1000/\(ag x.2.2.natAbs).length<=1000:=⟨ao h.1,ao h.2.1,ao h.2.2⟩
theorem Bd.sz {x:L3}(h:Bd x):Sz 1000 (x.1:Rat)/\Sz 1000 (x.2.1:Rat)/\Sz 1000 (x.2.2:Rat):=⟨lF h.1 (by omega),lF h.2.1 (by omega),lF h.2.2 (by omega)⟩
theorem lT {V:View}{v:Value}{x:L3}(h:RL V v x.1 x.2.1 x.2.2)(hb:Bd x) :
  ab prog 132 #[v] V fun r V'=>∃w,r=.tuple #[w,.bool (fV x)]/\Bv w/\(fV x=true->tJ V' w x.1 x.2.1 x.2.2):=by
 obtain ⟨p,n,s,p',n',s',q,m,e,rfl,h1,h2,h3⟩:=h
 obtain ⟨d1,d2,d3⟩:=hb.ag
 obtain ⟨s1,s2,s3⟩:=hb.sz
 have hc:=nI (V:=V) (decide (x.1<0)) (decide (x.2.1<0)) (decide (x.2.2<0)) h1 h2 h3 (by omega) (by omega) (by omega) (k:=1000) (by rw [aL];exact s1) (by rw [aL];exact s2) (by rw [aL];exact s3) (by omega)
 rw [oH,aL,aL,aL] at hc
 exact hc
end Go.Proofs.Tryz
namespace Go.Proofs.Tryz
open Go.bh
set_option maxRecDepth 100000
end Go.Proofs.Tryz
namespace Go.Proofs.Tryz
open Go.bh Go.dN
def small (z:Int)(k:Nat):Bool:=decide (z.natAbs<=k)
theorem xW {V:View}{v:Value}{a b c:Int}(h:RL V v a b c):∃(b1:Bool)(p1:OA)(n1 c1:Nat)(b2:Bool)(p2:OA)(n2 c2:Nat)(b3:Bool)(p3:OA)(n3 c3:Nat),v=.agg #[.bool b1,.slice p1 n1 c1,.bool b2,.slice p2 n2 c2,.bool b3,.slice p3 n3 c3]:=by
 obtain ⟨p,n,s,p',n',s',q,m,e,rfl,-⟩:=h
 exact ⟨_,_,_,_,_,_,_,_,_,_,_,_,rfl⟩
def GZ (V:View)(p:OA)(n:Nat):Prop:=∀i,i<n->∃(a:Addr)(x:Int),af p (i*1)=some a/\V.at a (.int .i64 x)
theorem GZ.le {V V':View}{p:OA}{n:Nat}(h:GZ V p n)(l:V.Le V'):GZ V' p n:=fun i hi=>by
 obtain ⟨a,x,e,hx⟩:=h i hi;exact ⟨a,x,e,l.at hx⟩
theorem RQ.zero {V:View}:RQ V (.agg #[.bool false,.slice none 0 0,.slice none 0 0]) ((0:Int):Rat):=⟨none,0,0,none,0,0,rfl,RD.nil,RD.nil⟩
theorem RP.zero {V:View}:RP V (.agg #[.bool false,.slice none 0 0,.slice none 0 0,.bool false,.slice none 0 0,.slice none 0 0]) ((0:Int):Rat) ((0:Int):Rat):=
 ⟨none,0,0,none,0,0,none,0,0,none,0,0,rfl,RQ.zero,RQ.zero⟩
end Go.Proofs.Tryz
namespace Go.Proofs.Tryz
open Go.bh
set_option maxRecDepth 100000
end Go.Proofs.Tryz
namespace Go.Proofs.Tryz
open Go.bh Go.dN
end Go.Proofs.Tryz
namespace Go.bh
open Go.dN
theorem RR.zero (V:View):RR V (.agg #[.int .i64 0,.int .i64 0,.pointer none]) 0:=.inl ⟨rfl,by unfold Wd;decide⟩
end Go.bh
namespace Go.Proofs.Tryz
open Go.bh Go.dN
structure Sp where
 lo:Rat
 hi:Rat
 a:Bool
 b:Bool
def Sp.sz (k:Nat)(s:Sp):Prop:=Sz k s.lo/\Sz k s.hi
def Sp.zero:Sp:=⟨0,0,false,false⟩
def I2 (k:Nat)(l:L3):Prop:=Sz k (l.1:Rat)/\Sz k (l.2.1:Rat)/\Sz k (l.2.2:Rat)
def Gn (V:View)(v:Value)(s:Sp):Prop:=∃(x1 x2:Int)(p:OA)(y1 y2:Int)(q:OA),v=.agg #[.int .i64 x1,.int .i64 x2,.pointer p,.int .i64 y1,.int .i64 y2,.pointer q,.bool s.a,.bool s.b] /\
 RR V (.agg #[.int .i64 x1,.int .i64 x2,.pointer p]) s.lo/\RR V (.agg #[.int .i64 y1,.int .i64 y2,.pointer q]) s.hi
theorem Gn.le {V V':View}{v:Value}{s:Sp}(h:Gn V v s)(l:V.Le V'):Gn V' v s:=by
 obtain ⟨x1,x2,p,y1,y2,q,e,h1,h2⟩:=h
 exact ⟨x1,x2,p,y1,y2,q,e,h1.le l,h2.le l⟩
def Ek (V:View)(v:Value)(l:L3):Prop:=tJ V v (l.1:Rat) (l.2.1:Rat) (l.2.2:Rat)
theorem Ek.le {V V':View}{v:Value}{l:L3}(h:Ek V v l)(e:V.Le V'):Ek V' v l:=tJ.le h e
def D8 (V:View)(v:Value)(l:L3)(s:Sp):Prop:=∃(x1 x2:Int)(p:OA)(y1 y2:Int)(q:OA)(z1 z2:Int)(r:OA)(u1 u2:Int)(t:OA)(w1 w2:Int)(o:OA),
 v=.agg #[.int .i64 x1,.int .i64 x2,.pointer p,.int .i64 y1,.int .i64 y2,.pointer q,.int .i64 z1,.int .i64 z2,.pointer r,.int .i64 u1,.int .i64 u2,.pointer t,.int .i64 w1,.int .i64 w2,.pointer o,.bool s.a,.bool s.b] /\
 Ek V (.agg #[.int .i64 x1,.int .i64 x2,.pointer p,.int .i64 y1,.int .i64 y2,.pointer q,.int .i64 z1,.int .i64 z2,.pointer r]) l /\
 Gn V (.agg #[.int .i64 u1,.int .i64 u2,.pointer t,.int .i64 w1,.int .i64 w2,.pointer o,.bool s.a,.bool s.b]) s
theorem D8.le {V V':View}{v:Value}{l:L3}{s:Sp}(h:D8 V v l s)(e:V.Le V'):D8 V' v l s:=by
 obtain ⟨x1,x2,p,y1,y2,q,z1,z2,r,u1,u2,t,w1,w2,o,rfl,h1,h2⟩:=h
 exact ⟨x1,x2,p,y1,y2,q,z1,z2,r,u1,u2,t,w1,w2,o,rfl,h1.le e,h2.le e⟩
def CE (V:View)(v:Value)(b:Bool)(xs ys:List Nat):Prop:=∃p n c p' n' c',v=.agg #[.bool b,.slice p n c,.slice p' n' c']/\RD V p n c xs/\RD V p' n' c' ys
theorem CE.le {V V':View}{v:Value}{b:Bool}{xs ys:List Nat}(h:CE V v b xs ys)(l:V.Le V'):CE V' v b xs ys:=by
 obtain ⟨p,n,c,p',n',c',e,h1,h2⟩:=h;exact ⟨p,n,c,p',n',c',e,h1.le l,h2.le l⟩
theorem CE.nil {V:View}:CE V (.agg #[.bool false,.slice none 0 0,.slice none 0 0]) false [] []:=⟨_,_,_,_,_,_,rfl,RD.nil,RD.nil⟩
def RE (V:View)(v:Value)(q:Rat)(no:Bool):Prop:=(no=true->CE V v false [] [])/\(no=false->RA V v q)
theorem RE.le {V V':View}{v:Value}{q:Rat}{no:Bool}(h:RE V v q no)(l:V.Le V'):RE V' v q no:=⟨fun e=>(h.1 e).le l,fun e=>(h.2 e).le l⟩
theorem RE.shape {V:View}{v:Value}{q:Rat}{no:Bool}(h:RE V v q no):∃b p n c p' n' c',v=.agg #[.bool b,.slice p n c,.slice p' n' c']:=by
 cases no with
 | true=>obtain ⟨_,_,_,_,_,_,e,-⟩:=h.1 rfl;exact ⟨_,_,_,_,_,_,_,e⟩
 | false=>exact (h.2 rfl).shape
def Gq (V:View)(v:Value)(s:Sp):Prop:=∃b p n c p' n' c' d q m e q' m' e',v=.agg #[.bool b,.slice p n c,.slice p' n' c',.bool d,.slice q m e,.slice q' m' e',.bool s.a,.bool s.b] /\
 RE V (.agg #[.bool b,.slice p n c,.slice p' n' c']) s.lo s.a/\RE V (.agg #[.bool d,.slice q m e,.slice q' m' e']) s.hi s.b
theorem Gq.le {V V':View}{v:Value}{s:Sp}(h:Gq V v s)(l:V.Le V'):Gq V' v s:=by
 obtain ⟨b,p,n,c,p',n',c',d,q,m,e,q',m',e',rfl,h1,h2⟩:=h
 exact ⟨_,_,_,_,_,_,_,_,_,_,_,_,_,_,rfl,h1.le l,h2.le l⟩
def Gm (V:View)(v:Value)(l:L3)(s:Sp):Prop:=∃b1 p1 n1 c1 b2 p2 n2 c2 b3 p3 n3 c3 b p n c p' n' c' d q m e q' m' e',
 v=.agg #[.bool b1,.slice p1 n1 c1,.bool b2,.slice p2 n2 c2,.bool b3,.slice p3 n3 c3,.bool b,.slice p n c,.slice p' n' c',.bool d,.slice q m e,.slice q' m' e',.bool s.a,.bool s.b] /\
 RL V (.agg #[.bool b1,.slice p1 n1 c1,.bool b2,.slice p2 n2 c2,.bool b3,.slice p3 n3 c3]) l.1 l.2.1 l.2.2/\Gq V (.agg #[.bool b,.slice p n c,.slice p' n' c',.bool d,.slice q m e,.slice q' m' e',.bool s.a,.bool s.b]) s
theorem Gm.le {V V':View}{v:Value}{l:L3}{s:Sp}(h:Gm V v l s)(e:V.Le V'):Gm V' v l s:=by
 obtain ⟨b1,p1,n1,c1,b2,p2,n2,c2,b3,p3,n3,c3,b,p,n,c,p',n',c',d,q,m,f,q',m',f',rfl,h1,h2⟩:=h
 exact ⟨_,_,_,_,_,_,_,_,_,_,_,_,_,_,_,_,_,_,_,_,_,_,_,_,_,_,rfl,h1.le e,h2.le e⟩
def El (V:View)(v:Value)(s:Sp):Prop:=∃b p n c p' n' c' d q m e q' m' e',v=.agg #[.bool b,.slice p n c,.slice p' n' c',.bool d,.slice q m e,.slice q' m' e',.bool s.a,.bool s.b] /\
 RQ V (.agg #[.bool b,.slice p n c,.slice p' n' c']) s.lo/\RQ V (.agg #[.bool d,.slice q m e,.slice q' m' e']) s.hi
theorem El.le {V V':View}{v:Value}{s:Sp}(h:El V v s)(l:V.Le V'):El V' v s:=by
 obtain ⟨b,p,n,c,p',n',c',d,q,m,e,q',m',e',rfl,h1,h2⟩:=h
 exact ⟨_,_,_,_,_,_,_,_,_,_,_,_,_,_,rfl,h1.le l,h2.le l⟩
def RF (V:View)(v:Value)(l:L3)(s:Sp):Prop:=∃b1 p1 n1 c1 b2 p2 n2 c2 b3 p3 n3 c3 b p n c p' n' c' d q m e q' m' e',
 v=.agg #[.bool b1,.slice p1 n1 c1,.bool b2,.slice p2 n2 c2,.bool b3,.slice p3 n3 c3,.bool b,.slice p n c,.slice p' n' c',.bool d,.slice q m e,.slice q' m' e',.bool s.a,.bool s.b] /\
 RL V (.agg #[.bool b1,.slice p1 n1 c1,.bool b2,.slice p2 n2 c2,.bool b3,.slice p3 n3 c3]) l.1 l.2.1 l.2.2/\El V (.agg #[.bool b,.slice p n c,.slice p' n' c',.bool d,.slice q m e,.slice q' m' e',.bool s.a,.bool s.b]) s
theorem RF.le {V V':View}{v:Value}{l:L3}{s:Sp}(h:RF V v l s)(e:V.Le V'):RF V' v l s:=by
 obtain ⟨b1,p1,n1,c1,b2,p2,n2,c2,b3,p3,n3,c3,b,p,n,c,p',n',c',d,q,m,f,q',m',f',rfl,h1,h2⟩:=h
 exact ⟨_,_,_,_,_,_,_,_,_,_,_,_,_,_,_,_,_,_,_,_,_,_,_,_,_,_,rfl,h1.le e,h2.le e⟩
def Sp.neg (s:Sp):Sp:=⟨if s.b then 0 else -s.hi,if s.a then 0 else -s.lo,s.b,s.a⟩
def Sp.emp (s:Sp):Bool:=!s.a&&!s.b&&decide (gz s.lo s.hi≥0)
structure G0 (V:View) (vs:List Value) (i:Int) (f a b c:Rat):Prop where
 h0:0<=i
 h3:i<=3
 row:∃(x1 x2:Int)(p:OA)(y1 y2:Int)(q:OA)(z1 z2:Int)(r:OA),vs=[.int .i64 x1,.int .i64 x2,.pointer p,.int .i64 y1,.int .i64 y2,.pointer q,.int .i64 z1,.int .i64 z2,.pointer r] /\
  RR V (.agg #[.int .i64 x1,.int .i64 x2,.pointer p]) (if 0<i then a*f else a)/\RR V (.agg #[.int .i64 y1,.int .i64 y2,.pointer q]) (if 1<i then b*f else b)/\RR V (.agg #[.int .i64 z1,.int .i64 z2,.pointer r]) (if 2<i then c*f else c)
theorem G0.le {V V':View}{vs:List Value}{i:Int}{f a b c:Rat}(h:G0 V vs i f a b c)(l:V.Le V'):G0 V' vs i f a b c:=by
 obtain ⟨h0,h3,x1,x2,p,y1,y2,q,z1,z2,r,e,g1,g2,g3⟩:=h
 exact ⟨h0,h3,x1,x2,p,y1,y2,q,z1,z2,r,e,g1.le l,g2.le l,g3.le l⟩
def Ix (b:Bool)(xs ys:List Nat):Rat:=mkRat (au b xs) (val ys)
def H0 (b:Bool)(xs ys:List Nat):Bool:=dP b xs&&decide (ag (val ys)=ys)&&!decide (ys=[])&&decide (Nat.gcd (val xs) (val ys)=1)
def IV (b:Bool)(xs ys:List Nat):Bool:=!b&&decide (xs=[])&&decide (ys=[])
def EK (b:Bool)(xs ys:List Nat)(no:Bool):Rat:=if no then 0 else Ix b xs ys
def CL (b:Bool)(xs ys:List Nat)(no:Bool):Bool:=if no then IV b xs ys else H0 b xs ys
def Gr (V:View)(v:Value)(b1:Bool)(Cy CA:List Nat)(b2:Bool)(Cz CB:List Nat)(na nb:Bool):Prop:=∃p n c p' n' c' q m e q' m' e',v=.agg #[.bool b1,.slice p n c,.slice p' n' c',.bool b2,.slice q m e,.slice q' m' e',.bool na,.bool nb] /\
 CE V (.agg #[.bool b1,.slice p n c,.slice p' n' c']) b1 Cy CA/\CE V (.agg #[.bool b2,.slice q m e,.slice q' m' e']) b2 Cz CB
theorem Gr.le {V V':View}{v:Value}{b1:Bool}{Cy CA:List Nat}{b2:Bool}{Cz CB:List Nat}{na nb:Bool}(h:Gr V v b1 Cy CA b2 Cz CB na nb)(l:V.Le V'):Gr V' v b1 Cy CA b2 Cz CB na nb:=by
 obtain ⟨p,n,c,p',n',c',q,m,e,q',m',e',rfl,h1,h2⟩:=h
 exact ⟨_,_,_,_,_,_,_,_,_,_,_,_,rfl,h1.le l,h2.le l⟩
def Kf (b1:Bool)(Cy CA:List Nat)(b2:Bool)(Cz CB:List Nat)(na nb:Bool):Sp:=⟨EK b1 Cy CA na,EK b2 Cz CB nb,na,nb⟩
def okW (b1:Bool)(Cy CA:List Nat)(b2:Bool)(Cz CB:List Nat)(na nb:Bool):Bool:=CL b1 Cy CA na&&CL b2 Cz CB nb&&!(Kf b1 Cy CA b2 Cz CB na nb).emp
theorem Ek.K4 {V:View}{r:Value}{l:L3}(h:RL V r ((l.1:Rat)).num ((l.2.1:Rat)).num ((l.2.2:Rat)).num):RL V r l.1 l.2.1 l.2.2:=by
 simpa [Rat.num_intCast] using h
theorem I2.ag {k:Nat}{l:L3}(h:I2 k l)(hk:k<=1099511627776):(ag l.1.natAbs).length<=1099511627776/\(ag l.2.1.natAbs).length<=1099511627776/\(ag l.2.2.natAbs).length<=1099511627776:=by
 have d1:=ao (show l.1.natAbs<2^k from h.1.1)
 have d2:=ao (show l.2.1.natAbs<2^k from h.2.1.1)
 have d3:=ao (show l.2.2.natAbs<2^k from h.2.2.1)
 exact ⟨by omega,by omega,by omega⟩
def Gl (V:View)(ad:Addr)(l:L3)(s:Sp):Prop:=∃xs:List Value,Gm V (.agg xs.toArray) l s/\∀i x,xs[i]?=some x->V.at (ad.add i) x
theorem Gl.le {V V':View}{ad:Addr}{l:L3}{s:Sp}(h:Gl V ad l s)(e:V.Le V'):Gl V' ad l s:=by
 obtain ⟨xs,h1,h2⟩:=h;exact ⟨xs,h1.le e,fun i x hx=>e.at (h2 i x hx)⟩
structure Di (V:View) (p:OA) (n:Nat) (fs:List (L3×Sp)):Prop where
 len:n=fs.length
 at_:∀(i:Nat)(h:i<fs.length),∃ad,af p (i*14)=some ad/\Gl V ad fs[i].1 fs[i].2
theorem Di.le {V V':View}{p:OA}{n:Nat}{fs:List (L3×Sp)}(h:Di V p n fs)(e:V.Le V'):Di V' p n fs:=⟨h.len,fun i hi=>by obtain ⟨ad,h1,h2⟩:=h.at_ i hi;exact ⟨ad,h1,h2.le e⟩⟩
theorem ux {p:OA}{j:Nat}{ad:Addr}(h:af p j=some ad):p.isSome=true:=by
 cases p with
 | none=>cases h
 | some a=>rfl
def Gt (V:View)(ad:Addr)(s:Sp):Prop:=∃xs:List Value,El V (.agg xs.toArray) s/\∀i x,xs[i]?=some x->V.at (ad.add i) x
theorem Gt.le {V V':View}{ad:Addr}{s:Sp}(h:Gt V ad s)(e:V.Le V'):Gt V' ad s:=by
 obtain ⟨xs,h1,h2⟩:=h;exact ⟨xs,h1.le e,fun i x hx=>e.at (h2 i x hx)⟩
structure GY (V:View) (p:OA) (n:Nat) (ss:List Sp):Prop where
 len:n=ss.length
 at_:∀(i:Nat)(h:i<ss.length),∃ad,af p (i*8)=some ad/\Gt V ad ss[i]
theorem GY.le {V V':View}{p:OA}{n:Nat}{ss:List Sp}(h:GY V p n ss)(e:V.Le V'):GY V' p n ss:=⟨h.len,fun i hi=>by obtain ⟨ad,h1,h2⟩:=h.at_ i hi;exact ⟨ad,h1,h2.le e⟩⟩
def Sp.la (s:Sp)(t:Rat):Int:=if s.a then 1 else gz t s.lo
def Sp.lb (s:Sp)(t:Rat):Int:=if s.b then -1 else gz t s.hi
theorem yk {V:View}{p:OA}{n c:Nat}{ds:List Nat}(h:RD V p n c ds)(hm:ds.length<=1099511627776) :
  ab prog 130 #[.slice p n c] V fun r V'=>∃p1 n1 c1,r=.slice p1 n1 c1/\RN V' p1 n1 c1 (val ds):=by
 have hl:=h.len
 refine xr p n c V _ ⟨aA ds,h.sl,by simp [hl],by omega,by omega,by simp,by simp [hl],?_,?_⟩
 ·intro v hv
  simp only [aA,List.mem_map] at hv
  obtain ⟨d,-,rfl⟩:=hv
  rfl
 ·intro bk J sp c' h1 h2 V1 l1 b hb
  simp only [Nat.zero_add,Nat.zero_mul,List.take_zero,List.nil_append] at hb h1 ⊢
  refine (bV (copied h.cx hl h1 hb) (by omega)).mono ?_
  rintro r V2 l2 ⟨k,rfl,g⟩
  rw [aH h.cx] at g
  exact ⟨_,_,_,rfl,fun J' V3 l3=>⟨_,_,_,rfl,g.le l3⟩⟩
theorem k_ {V:View}(b:Bool){p:OA}{n c:Nat}{ds:List Nat}(h:RD V p n c ds)(hm:ds.length<=1099511627776) :
  ab prog 131 #[.agg #[.bool b,.slice p n c]] V fun r V'=>RI V' r (au b ds):=by
 refine xq b p n c V _ fun V1 l1=>(yk (h.le l1) hm).mono ?_
 rintro r V2 l2 ⟨p1,n1,c1,rfl,g⟩
 refine ⟨_,_,_,rfl,fun V3 l3=>(dh b (g.le l3)).mono ?_⟩
 rintro r V4 l4 ⟨p2,n2,c2,rfl,g2⟩
 exact ⟨_,_,_,_,rfl,fun V5 l5=>⟨_,_,_,rfl,g2.le l5⟩⟩
theorem oe {b:Bool}{ds:List Nat}(h:bz ds):(ag (au b ds).natAbs).length<=ds.length:=by
 rw [cd];exact aV h
theorem mC {V:View}{p:OA}{n c:Nat}{ds:List Nat}(h:RD V p n c ds)(hm:ds.length<=1099511627776) :
  ab prog 206 #[.slice p n c] V fun r V'=>r=.bool (decide (ag (val ds)=ds)):=by
 have hl:=h.len
 refine lM p n c V _ ⟨fun h0 V1 l1=>?_,fun h0=>?_⟩
 ·have:ds=[]:=List.length_eq_zero_iff.1 (by simp at h0;omega)
  subst this;rfl
 ·have h0:0<n:=by simp at h0;omega
  simp (disch:=omega) only [aG]
  refine h.rd (n-1) (by omega) (by omega) fun V1 l1=>?_
  congr 1
  rw [Bool.eq_iff_iff]
  simp only [bne_iff_ne,ne_eq,decide_eq_true_eq]
  subst hl
  constructor
  ·intro hz
   exact kl h.cx (mj fun _=>by simpa using hz)
  ·intro he hz
   have:lP ds:=by rw [←he];exact eB _
   exact this.last (by omega) (by simpa using hz)
theorem eF {V:View}(b:Bool){p:OA}{n c:Nat}{ds:List Nat}(h:RD V p n c ds)(hm:ds.length<=1099511627776) :
  ab prog 170 #[.agg #[.bool b,.slice p n c]] V fun r V'=>r=.bool (dP b ds):=by
 have hl:=h.len
 refine lL b p n c V _ fun V1 l1=>(mC (h.le l1) hm).mono ?_
 rintro r V2 l2 rfl
 refine ⟨_,rfl,fun h1=>⟨fun h2 V3 l3=>?_,fun h2 V4 l4=>?_⟩,fun h1 V5 l5=>?_⟩
 ·rw [Bool.not_eq_true'] at h2
  simp [dP,h1,h2]
 ·rw [Bool.not_eq_false'] at h2
  have e:decide (((n:Nat):Int)>0)=!decide (ds=[]):=by
   rw [Bool.eq_iff_iff,decide_eq_true_eq,Bool.not_eq_true',decide_eq_false_iff_not,←List.length_eq_zero_iff];omega
  rw [e]
  simp [dP,h1,h2]
 ·simp [dP,h1]
def D9 (V:View)(v:Value)(b1:Bool)(xs:List Nat)(b2:Bool)(ys:List Nat)(b3:Bool)(zs:List Nat):Prop:=∃p n c q m e s i j,v=.agg #[.bool b1,.slice p n c,.bool b2,.slice q m e,.bool b3,.slice s i j]/\RD V p n c xs/\RD V q m e ys/\RD V s i j zs
theorem D9.le {V V':View}{v:Value}{b1:Bool}{xs:List Nat}{b2:Bool}{ys:List Nat}{b3:Bool}{zs:List Nat}(h:D9 V v b1 xs b2 ys b3 zs)(l:V.Le V'):D9 V' v b1 xs b2 ys b3 zs:=by
 obtain ⟨p,n,c,q,m,e,s,i,j,rfl,h1,h2,h3⟩:=h
 exact ⟨_,_,_,_,_,_,_,_,_,rfl,h1.le l,h2.le l,h3.le l⟩
def GU (v:Value):Prop:=∃b1 p1 n1 c1 b2 p2 n2 c2 b3 p3 n3 c3,v=.agg #[.bool b1,.slice p1 n1 c1,.bool b2,.slice p2 n2 c2,.bool b3,.slice p3 n3 c3]
def xH (b1:Bool)(xs:List Nat)(b2:Bool)(ys:List Nat)(b3:Bool)(zs:List Nat):L3:=(au b1 xs,au b2 ys,au b3 zs)
theorem iM {b1:Bool}{xs:List Nat}{b2:Bool}{ys:List Nat}{b3:Bool}{zs:List Nat}:fC b1 xs b2 ys b3 zs=(dP b1 xs&&dP b2 ys&&dP b3 zs&&fV (xH b1 xs b2 ys b3 zs)):=by
 have e:=oH (a:=au b1 xs) (b:=au b2 ys) (c:=au b3 zs)
 have hn:∀z:Int,dP (decide (z<0)) (ag z.natAbs)=true:=by
  intro z
  unfold dP
  rw [ae]
  by_cases h:z<0
  ·have:ag z.natAbs≠[]:=fun e=>by have:=bf.1 e;omega
   simp [h,this]
  ·simp [h]
 unfold fC at e ⊢
 rw [hn,hn,hn,aL,aL,aL] at e
 simp only [Bool.true_and] at e
 unfold xH
 rw [←e]
 simp only [Bool.and_assoc]
theorem nL {V:View}{v:Value}{b1:Bool}{xs:List Nat}{b2:Bool}{ys:List Nat}{b3:Bool}{zs:List Nat}(h:D9 V v b1 xs b2 ys b3 zs)(m1:xs.length<=1000000)(m2:ys.length<=1000000)(m3:zs.length<=1000000) :
  ab prog 129 #[v] V fun r V'=>∃w,r=.tuple #[w,.bool (fC b1 xs b2 ys b3 zs)]/\GU w/\(fC b1 xs b2 ys b3 zs=true->RL V' w (au b1 xs) (au b2 ys) (au b3 zs)):=by
 obtain ⟨p,n,c,q,m,e,s,i,j,rfl,hx,hy,hz⟩:=h
 have d1:=oe (b:=b1) hx.cx
 have d2:=oe (b:=b2) hy.cx
 have d3:=oe (b:=b3) hz.cx
 have bad:∀{V':View},fC b1 xs b2 ys b3 zs=false->∃w,Value.tuple #[.agg #[.bool false,.slice none 0 0,.bool false,.slice none 0 0,.bool false,.slice none 0 0],.bool false]=.tuple #[w,.bool (fC b1 xs b2 ys b3 zs)]/\GU w/\(fC b1 xs b2 ys b3 zs=true->RL V' w (au b1 xs) (au b2 ys) (au b3 zs)):=fun h=>by
  rw [h];exact ⟨_,rfl,⟨_,_,_,_,_,_,_,_,_,_,_,_,rfl⟩,(fun h=>nomatch h)⟩
 refine vF b1 p n c b2 q m e b3 s i j V _ fun V1 l1=>(eF b1 (hx.le l1) (by omega)).mono ?_
 rintro r V2 l2 rfl
 refine ⟨_,rfl,fun h1 V3 l3=>bad (by rw [Bool.not_eq_true'] at h1;rw [iM];simp [h1]),fun h1 V4 l4=>(eF b2 (hy.le (l1.trans (l2.trans l4))) (by omega)).mono ?_⟩
 rintro r V5 l5 rfl
 refine ⟨_,rfl,fun h2 V6 l6=>bad (by rw [Bool.not_eq_true'] at h2;rw [iM];simp [h2]),fun h2 V7 l7=>?_⟩
 have L7:V.Le V7:=l1.trans (l2.trans (l4.trans (l5.trans l7)))
 refine (eF b3 (hz.le L7) (by omega)).mono ?_
 rintro r V8 l8 rfl
 refine ⟨_,rfl,fun h3 V9 l9=>bad (by rw [Bool.not_eq_true'] at h3;rw [iM];simp [h3]),fun h3 jq l10=>?_⟩
 rw [Bool.not_eq_false'] at h1 h2 h3
 have GS:V.Le jq:=L7.trans (l8.trans l10)
 refine (k_ b1 (hx.le GS) (by omega)).mono ?_
 rintro r pJ cA ⟨pa,na,ca,rfl,ga⟩
 refine ⟨_,_,_,_,rfl,fun nu dt=>(k_ b2 (hy.le (GS.trans (cA.trans dt))) (by omega)).mono ?_⟩
 rintro r qH dJ ⟨pb,nb,cb,rfl,gb⟩
 refine ⟨_,_,_,_,rfl,fun pK dO=>(k_ b3 (hz.le (GS.trans (cA.trans (dt.trans (dJ.trans dO))))) (by omega)).mono ?_⟩
 rintro r pL fp ⟨pc,nc,cc,rfl,gc⟩
 refine ⟨_,_,_,_,rfl,fun rV dX=>(dF (x:=(au b1 xs).natAbs) (y:=(au b2 ys).natAbs) (ga.le (dt.trans (dJ.trans (dO.trans (fp.trans dX))))) (gb.le (dO.trans (fp.trans dX))) (by omega) (by omega)).mono ?_⟩
 rintro r pP ew ⟨pg,ng,cg,rfl,gg⟩
 have hg:=gg.len
 have LS:(ag (Nat.gcd (au b1 xs).natAbs (au b2 ys).natAbs)).length<=274877906944:=by
  by_cases h0:(au b1 xs).natAbs=0
  ·rw [h0,Nat.gcd_zero_left];omega
  ·have:=ax (Nat.gcd_le_left (au b2 ys).natAbs (Nat.pos_of_ne_zero h0));omega
 have ok:fC b1 xs b2 ys b3 zs=fV (xH b1 xs b2 ys b3 zs):=by rw [iM,h1,h2,h3];rfl
 have rl:∀V':View,pP.Le V'->RL V' (.agg #[.bool (decide (au b1 xs<0)),.slice pa na ca,.bool (decide (au b2 ys<0)),.slice pb nb cb,.bool (decide (au b3 zs<0)),.slice pc nc cc]) (au b1 xs) (au b2 ys) (au b3 zs):=fun V' l'=>
  ⟨_,_,_,_,_,_,_,_,_,rfl,ga.le (dt.trans (dJ.trans (dO.trans (fp.trans (dX.trans (ew.trans l')))))),gb.le (dO.trans (fp.trans (dX.trans (ew.trans l')))),gc.le (dX.trans (ew.trans l'))⟩
 have zg:(Nat.gcd (au b1 xs).natAbs (au b2 ys).natAbs=0)↔(au b1 xs=0/\au b2 ys=0):=by rw [Nat.gcd_eq_zero_iff];omega
 have Fw:ng=0↔(au b1 xs=0/\au b2 ys=0):=by
  rw [←zg,←@bf (Nat.gcd (au b1 xs).natAbs (au b2 ys).natAbs),←List.length_eq_zero_iff];omega
 refine ⟨_,_,_,rfl,fun hp vH gk=>?_,fun hp Bo pM=>?_⟩
 ·have hp:¬ng=0:=by have:=of_decide_eq_true hp;omega
  rw [Fw] at hp
  refine (dF (x:=Nat.gcd (au b1 xs).natAbs (au b2 ys).natAbs) (y:=(au b3 zs).natAbs) (gg.le gk) (gc.le (dX.trans (ew.trans gk))) LS (by omega)).mono ?_
  rintro r zi iB ⟨ph,nh,ch,rfl,gh⟩
  refine ⟨_,_,_,rfl,fun Bm lr=>gy.mono ?_⟩
  rintro r tL il ⟨po,no,co,rfl,go⟩
  have LR:(ag (Nat.gcd (Nat.gcd (au b1 xs).natAbs (au b2 ys).natAbs) (au b3 zs).natAbs)).length<=1099511627776:=by
   have:=ax (Nat.gcd_le_left (au b3 zs).natAbs (Nat.pos_of_ne_zero fun e=>hp (zg.1 e)));omega
  refine ⟨_,_,_,rfl,fun xY lu=>(dV (x:=Nat.gcd (Nat.gcd (au b1 xs).natAbs (au b2 ys).natAbs) (au b3 zs).natAbs) (y:=1) (gh.le (lr.trans (il.trans lu))) (go.le lu) LR (by decide)).mono ?_⟩
  rintro r vM js rfl
  have e1:(fQ (Nat.gcd (Nat.gcd (au b1 xs).natAbs (au b2 ys).natAbs) (au b3 zs).natAbs) 1==0)=fV (xH b1 xs b2 ys b3 zs):=by
   unfold fV xH iw
   dsimp only
   rw [decide_eq_true hp,Bool.true_and]
   rw [Bool.eq_iff_iff,beq_iff_eq,decide_eq_true_eq]
   exact eZ
  refine ⟨_,rfl,fun Bn wA=>⟨_,by rw [ok,←e1],⟨_,_,_,_,_,_,_,_,_,_,_,_,rfl⟩,fun _=>rl Bn (gk.trans (iB.trans (lr.trans (il.trans (lu.trans (js.trans wA))))))⟩⟩
 ·have hp:ng=0:=by have:=of_decide_eq_false hp;omega
  rw [Fw] at hp
  have e1:fV (xH b1 xs b2 ys b3 zs)=false:=by unfold fV xH;simp [hp.1,hp.2]
  exact ⟨_,by rw [ok,e1],⟨_,_,_,_,_,_,_,_,_,_,_,_,rfl⟩,fun h=>by rw [ok,e1] at h;cases h⟩
structure FW where
 b1:Bool
 xs:List Nat
 b2:Bool
 ys:List Nat
 b3:Bool
 zs:List Nat
 c1:Bool
 us:List Nat
 vs:List Nat
 c2:Bool
 ws:List Nat
 ts:List Nat
 na:Bool
 nb:Bool
def FW.ln (f:FW):L3:=xH f.b1 f.xs f.b2 f.ys f.b3 f.zs
def FW.sp (f:FW):Sp:=Kf f.c1 f.us f.vs f.c2 f.ws f.ts f.na f.nb
def FW.ok (f:FW):Bool:=fC f.b1 f.xs f.b2 f.ys f.b3 f.zs&&okW f.c1 f.us f.vs f.c2 f.ws f.ts f.na f.nb
structure FW.short (f:FW):Prop where
 x:f.xs.length<=1000000
 y:f.ys.length<=1000000
 z:f.zs.length<=1000000
 u:f.us.length<=1000000
 v:f.vs.length<=1000000
 w:f.ws.length<=1000000
 t:f.ts.length<=1000000
def GW (V:View)(v:Value)(f:FW):Prop:=∃p1 n1 d1 p2 n2 d2 p3 n3 d3 p n c p' n' c' q m e q' m' e',
 v=.agg #[.bool f.b1,.slice p1 n1 d1,.bool f.b2,.slice p2 n2 d2,.bool f.b3,.slice p3 n3 d3,.bool f.c1,.slice p n c,.slice p' n' c',.bool f.c2,.slice q m e,.slice q' m' e',.bool f.na,.bool f.nb] /\
 D9 V (.agg #[.bool f.b1,.slice p1 n1 d1,.bool f.b2,.slice p2 n2 d2,.bool f.b3,.slice p3 n3 d3]) f.b1 f.xs f.b2 f.ys f.b3 f.zs /\
 Gr V (.agg #[.bool f.c1,.slice p n c,.slice p' n' c',.bool f.c2,.slice q m e,.slice q' m' e',.bool f.na,.bool f.nb]) f.c1 f.us f.vs f.c2 f.ws f.ts f.na f.nb
theorem GW.le {V V':View}{v:Value}{f:FW}(h:GW V v f)(l:V.Le V'):GW V' v f:=by
 obtain ⟨p1,n1,d1,p2,n2,d2,p3,n3,d3,p,n,c,p',n',c',q,m,e,q',m',e',rfl,h1,h2⟩:=h
 exact ⟨_,_,_,_,_,_,_,_,_,_,_,_,_,_,_,_,_,_,_,_,_,rfl,h1.le l,h2.le l⟩
theorem sF {b:Bool}{xs:List Nat}(h:dP b xs=true):b=decide (au b xs<0)/\xs=ag (au b xs).natAbs:=by
 unfold dP at h
 simp only [Bool.and_eq_true,decide_eq_true_eq,Bool.or_eq_true,Bool.not_eq_true'] at h
 obtain ⟨h1,h2⟩:=h
 refine ⟨?_,by rw [cd,h1]⟩
 cases b with
 | false=>simp [au]
 | true=>
  have:xs≠[]:=by simpa using h2
  have:val xs≠0:=fun e=>this (by rw [←h1,e];rfl)
  simp [au]
  omega
structure Ei (V:View) (p:OA) (n:Nat) (l:List Nat):Prop where
 len:n=l.length
 at_:∀(i:Nat)(h:i<l.length),∃ad q e,af p (i*1)=some ad/\V.at ad (.slice q l[i] e)
theorem Ei.le {V V':View}{p:OA}{n:Nat}{l:List Nat}(h:Ei V p n l)(e:V.Le V'):Ei V' p n l:=⟨h.len,fun i hi=>by obtain ⟨ad,q,c,h1,h2⟩:=h.at_ i hi;exact ⟨ad,q,c,h1,e.at h2⟩⟩
theorem BI {V:View}{p:OA}{n c:Nat}{l:List Nat}(N:Int)(h:Ei V p n l)(hn:l.length<1000000) :
  ab prog 82 #[.int .i64 N,.slice p n c] V fun r V'=>∃b,r=.bool b/\(b=true->∀m∈l,(m:Int)<=N):=by
 obtain rfl:=h.len
 refine pG N p _ c V _ ⟨fun z _=>0<=z/\z<=l.length/\∀i (hi:i<l.length),(i:Int)<z->((l[i]:Nat):Int)<=N,fun z=>(l.length-z).toNat,⟨0,by and_intros<;>rfl,by omega,by omega,fun i hi h=>by omega⟩,?_⟩
 rintro z V1 l1 ⟨z0,z1,z2⟩
 refine ⟨rfl,fun hz=>?_,fun hz V3 l3=>⟨true,rfl,fun _ m hm=>?_⟩⟩
 ·have hz:z<l.length:=of_decide_eq_true hz
  obtain ⟨i,rfl⟩:∃i:Nat,z=i:=⟨z.toNat,by omega⟩
  have hi:i<l.length:=by omega
  rw [Int.toNat_natCast]
  have w:i64.wrap ((i:Int)+1)=(i:Int)+1:=aG (by omega)
  rw [w]
  obtain ⟨ad,q,e,ha,hx⟩:=(h.le l1).at_ i hi
  refine ⟨ux ha,⟨by omega,hz⟩,q,l[i],e,⟨ad,ha,hx⟩,fun hb V2 l2=>⟨false,rfl,(fun h=>nomatch h)⟩,fun hb=>⟨(i:Int)+1,by dsimp only;omega,by and_intros<;>rfl,by omega,by omega,fun j hj hlt=>?_⟩⟩
  have hb:¬((l[i]:Nat):Int)>N:=of_decide_eq_false hb
  by_cases e:j=i
  ·subst e;omega
  ·exact z2 j hj (by omega)
 ·have hz:¬z<l.length:=of_decide_eq_false hz
  obtain ⟨i,hi,rfl⟩:=List.mem_iff_getElem.1 hm
  exact z2 i hi (by omega)
structure Dg (V:View) (p:OA) (n:Nat) (l:List (Nat×Nat)):Prop where
 len:n=l.length
 at_:∀(i:Nat)(h:i<l.length),∃ad b q e q' e',af p (i*3)=some ad/\V.at (ad.add 0) (.bool b)/\V.at (ad.add 1) (.slice q l[i].1 e)/\V.at (ad.add 2) (.slice q' l[i].2 e')
theorem Dg.le {V V':View}{p:OA}{n:Nat}{l:List (Nat×Nat)}(h:Dg V p n l)(e:V.Le V'):Dg V' p n l:=⟨h.len,fun i hi=>by obtain ⟨ad,b,q,c,q',c',h1,h2,h3,h4⟩:=h.at_ i hi;exact ⟨ad,b,q,c,q',c',h1,e.at h2,e.at h3,e.at h4⟩⟩
theorem zM {V:View}{bk c:Nat}{b1:Bool}{p1 n1 c1 b2 p2 n2 c2 b3 p3 n3 c3}{ty:TypeId}(N:Int)(h:V.bj bk (.cells #[.bool b1,.slice p1 n1 c1,.bool b2,.slice p2 n2 c2,.bool b3,.slice p3 n3 c3] ty (0,0))) :
  ab prog 29 #[.int .i64 N,.slice (some ⟨bk,0,none⟩) 1 c] V fun r V'=>∃b,r=.bool b/\(b=true->(n1:Int)<=N/\(n2:Int)<=N/\(n3:Int)<=N):=by
 have hat:∀{V1:View},V.Le V1->∀(i:Nat)(x:Value),([Value.bool b1,.slice p1 n1 c1,.bool b2,.slice p2 n2 c2,.bool b3,.slice p3 n3 c3]:List Value)[i]?=some x->V1.at ((⟨bk,0,none⟩:Addr).add i) x:=fun l i x hx=>by rw [add_zero'];exact l.at (bY (xs:=[Value.bool b1,.slice p1 n1 c1,.bool b2,.slice p2 n2 c2,.bool b3,.slice p3 n3 c3]) h hx)
 refine mU N _ 1 c V _ ⟨fun z _=>z=0\/(z=1/\((n1:Int)<=N/\(n2:Int)<=N/\(n3:Int)<=N)),fun z=>(1-z).toNat,⟨0,by and_intros<;>rfl,.inl rfl⟩,?_⟩
 rintro z V1 l1 hz
 refine ⟨rfl,fun hlt=>?_,fun hlt V5 l5=>⟨true,rfl,fun _=>?_⟩⟩
 ·have hlt:z<1:=of_decide_eq_true hlt
  obtain rfl:z=0:=by rcases hz with h|h<;>omega
  have w:i64.wrap ((0:Int)+1)=1:=aG (by omega)
  rw [w]
  refine ⟨rfl,⟨by omega,by omega⟩,_,_,_,_,_,_,_,_,_,_,_,_,(⟨bk,0,none⟩:Addr),by rfl,hat l1 0 _ rfl,hat l1 1 _ rfl,hat l1 2 _ rfl,hat l1 3 _ rfl,hat l1 4 _ rfl,hat l1 5 _ rfl,fun V2 l2 bk2 hb2=>?_⟩
  have hl:Ei V2 (some ⟨bk2,0,none⟩) 3 [n1,n2,n3]:=by
   refine ⟨rfl,fun i hi=>?_⟩
   have hv:=fun x hx=>bY (i:=i) (v:=x) (xs:=[Value.slice p1 n1 c1,.slice p2 n2 c2,.slice p3 n3 c3]) hb2 hx
   have ha:af (some ⟨bk2,0,none⟩) (i*1)=some ⟨bk2,i,none⟩:=by simp [af,add_zero']
   have hi:i=0\/i=1\/i=2:=by have:i<3:=hi;omega
   rcases hi with rfl|rfl|rfl
   ·exact ⟨_,_,_,ha,hv _ rfl⟩
   ·exact ⟨_,_,_,ha,hv _ rfl⟩
   ·exact ⟨_,_,_,ha,hv _ rfl⟩
  refine (BI N hl (by simp)).mono ?_
  rintro r V3 l3 ⟨b,rfl,hb⟩
  refine ⟨_,rfl,fun J=>⟨fun h V4 l4=>⟨false,rfl,(fun h=>nomatch h)⟩,fun h=>⟨1,by dsimp only;omega,by and_intros<;>rfl,.inr ⟨rfl,?_⟩⟩⟩⟩
  rw [Bool.not_eq_false'] at h
  have:=hb h
  exact ⟨this n1 (by simp),this n2 (by simp),this n3 (by simp)⟩
 ·have hlt:¬z<1:=of_decide_eq_false hlt
  rcases hz with h|h
  ·omega
  ·exact h.2
end Go.Proofs.Tryz
