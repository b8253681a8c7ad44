import Derived.Test.YtnnbfoejafcdlaaGreatDoorH11
import Derived.Test.YtnnbfoejafcdlaaGreatDoorH7
import Derived.Test.YtnnbfoejafcdlaaGreatDoorH10
set_option linter.unusedVariables false
open Go.IntKind (i64 u64 u32)
namespace Go.Proofs.Tryz
open Go.bE Go.dP
theorem fM {V:View}{p q:OA}{n c m e:Nat}{x y:Nat}(hx:RN V p n c x)(hy:RN V q m e y)(hm:(ag x).length<=274877906944)(hm':(ag y).length<=274877906944) :
  ab prog 124 #[.slice p n c,.slice q m e] V fun r V'=>∃p1 n1 c1,r=.slice p1 n1 c1/\RN V' p1 n1 c1 (Nat.gcd x y):=by
 have hlx:=hx.len
 have zT:=hy.len
 refine yB p n c q m e V _ fun V1 l1=>(kQ (hx.le l1) (by omega)).mono ?_
 rintro r V2 l2 rfl
 rw [ae]
 refine ⟨_,_,rfl,fun z V'=>True,⟨fun h0=>?_,fun h0=>⟨(),by (try dsimp only);and_intros<;>first|exact True.intro|rfl,trivial⟩⟩,?_⟩
 ·have h0:n<=2:=by simpa using h0
  refine fun V3 l3=>(kQ (hy.le (l1.trans (l2.trans l3))) (by omega)).mono ?_
  rintro r V4 l4 rfl
  rw [ae]
  refine ⟨_,_,rfl,fun h1=>?_,fun h1=>⟨(),by (try dsimp only);and_intros<;>first|exact True.intro|rfl,trivial⟩⟩
  have h1:m<=2:=by simpa using h1
  have hxw:=qo (x:=x) (by omega)
  have XO:=qo (x:=y) (by omega)
  rw [if_pos h0,if_pos h1]
  refine ⟨fun z V'=>∃a b:Nat,z=((a:Int),(b:Int))/\a<18446744073709551616/\b<18446744073709551616/\Nat.gcd a b=Nat.gcd x y,fun z=>z.2.toNat,
   ⟨((x:Int),(y:Int)),by (try dsimp only);and_intros<;>first|exact True.intro|rfl,x,y,rfl,hxw,XO,rfl⟩,?_⟩
  rintro _ V5 l5 ⟨a,b,rfl,ha,hb,hg⟩
  dsimp only
  refine ⟨by trivial,fun h3=>?_,fun h3=>?_⟩
  ·have h3:0<b:=by simpa using h3
   have e2:(a:Int).tmod (b:Int)=((a%b:Nat):Int):=by rw [Int.tmod_eq_emod_of_nonneg (by omega)];omega
   have hr:a%b<b:=Nat.mod_lt _ h3
   refine ⟨by omega,((b:Int),((a%b:Nat):Int)),?_,by (try dsimp only);and_intros<;>first|exact True.intro|rfl|exact e2,b,a%b,rfl,hb,by omega,?_⟩
   ·(try dsimp only);simp only [Int.toNat_natCast];exact hr
   ·rw [←hg,Nat.gcd_comm a b,Nat.gcd_rec b a,Nat.gcd_comm]
  ·have h3:b=0:=by simp at h3;omega
   subst h3
   rw [Nat.gcd_zero_right] at hg
   refine fun V6 l6=>(dU a ha).mono ?_
   rintro r V7 l7 ⟨p1,n1,c1,rfl,g1⟩
   rw [hg] at g1
   exact ⟨_,_,_,rfl,fun V8 l8=>⟨_,_,_,rfl,g1.le l8⟩⟩
 rintro _ V9 l9 _
 replace hx:=hx.le (l1.trans (l2.trans l9))
 replace hy:=hy.le (l1.trans (l2.trans l9))
 refine ⟨by trivial,fun z k V'=>∃a b:Nat,RN V' z.1 z.2.1 z.2.2.1 a/\RN V' z.2.2.2.1 z.2.2.2.2.1 z.2.2.2.2.2 b/\b=k/\(ag a).length<=274877906944/\(ag b).length<=274877906944/\Nat.gcd a b=Nat.gcd x y,
  ⟨(p,n,c,q,m,e),y,by (try dsimp only);and_intros<;>first|exact True.intro|rfl,x,y,hx,hy,rfl,hm,hm',rfl⟩,?_⟩
 rintro ⟨ap,an,ac,bp,bn,bc⟩ _ jG l10 ⟨a,b,ha,hb,rfl,hal,hbl,hg⟩
 dsimp only at ha hb ⊢
 have hla:=ha.len
 have hlb:=hb.len
 refine ⟨by trivial,fun h3=>?_,fun h3=>?_⟩
 ·have h3:0<bn:=by simpa using h3
  have hb0:0<b:=by
   rcases Nat.eq_zero_or_pos b with h|h
   ·subst h;simp at hlb;omega
   ·exact h
  refine fun jZ bI=>(eu (ha.le bI) (hb.le bI) hal hbl hb0).mono ?_
  rintro r mQ bV ⟨p1,n1,c1,p2,n2,c2,rfl,g1,g2⟩
  have hr:a%b<b:=Nat.mod_lt _ hb0
  have hrl:=aD (Nat.le_of_lt hr)
  refine ⟨_,_,_,_,_,_,rfl,(bp,bn,bc,p2,n2,c2),a%b,hr,by (try dsimp only);and_intros<;>first|exact True.intro|rfl,b,a%b,hb.le (bI.trans bV),g2,rfl,hbl,by omega,?_⟩
  rw [←hg,Nat.gcd_comm a b,Nat.gcd_rec b a,Nat.gcd_comm]
 ·have h3:bn=0:=by simp at h3;omega
  have hb0:b=0:=bg.1 (List.length_eq_zero_iff.1 (by omega))
  subst hb0
  rw [Nat.gcd_zero_right] at hg
  rw [←hg]
  refine ⟨aG (ag a),ha.sl,by simp [hla],by omega,by omega,by simp,by simp [hla],?_,?_⟩
  ·intro v hv
   simp only [aG,List.mem_map] at hv
   obtain ⟨d,-,rfl⟩:=hv
   rfl
  ·intro bk J sp c' h1 h2 V1 l1 b hb
   refine ⟨_,_,_,rfl,?_⟩
   simp only [Nat.zero_add,Nat.zero_mul,List.take_zero,List.nil_append] at hb h1 ⊢
   exact copied (aH a) hla h1 hb
theorem dS {V:View}(b:Bool){p:OA}{n c x:Nat}(h:RN V p n c x) :
  ab prog 61 #[.bool b,.slice p n c] V fun r V'=>RI V' r (if b then -(x:Int) else x):=by
 have hp:=fR h.len
 refine Ed b p n c V _ ⟨fun h0 V1 l1=>?_,fun h0 V1 l1=>?_⟩
 ·rw [if_pos h0]
  refine RI.mk ?_ ?_
  ·rw [Bool.eq_iff_iff,decide_eq_true_eq,decide_eq_true_eq]
   omega
  ·rw [Int.natAbs_neg,Int.natAbs_natCast];exact h.le l1
 ·rw [h0,if_neg (by decide)]
  refine RI.mk ?_ ?_
  ·symm;rw [decide_eq_false_iff_not];omega
  ·rw [Int.natAbs_natCast];exact h.le l1
theorem iW {V:View}{b:Bool}{p:OA}{n c x:Nat}{z:Int}(h:RN V p n c x)(hz:(if b then -(x:Int) else x)=z) :
  ab prog 61 #[.bool b,.slice p n c] V fun r V'=>∃(I5:Bool)(Kk:OA)(J3 Ja:Nat),r=.agg #[.bool I5,.slice Kk J3 Ja]/\∀V3:View,V'.Le V3->RI V3 (.agg #[.bool I5,.slice Kk J3 Ja]) z:=by
 refine (dS b h).mono ?_
 rintro r V2 l2 ⟨p1,n1,c1,rfl,g⟩
 rw [hz] at g ⊢
 exact ⟨_,_,_,_,rfl,fun V3 l3=>⟨_,_,_,rfl,g.le l3⟩⟩
theorem HE {V:View}(n:Int)(h0:-9223372036854775808<=n)(h1:n<=9223372036854775807) :
  ab prog 126 #[.int .i64 n] V fun r V'=>RI V' r n:=by
 refine F_ n V _ ⟨fun h2 V1 l1=>?_,fun h2 V1 l1=>?_⟩
 ·have h2:n<0:=by simpa using h2
  have e:u64.wrap (0-u64.wrap n)=((-n).toNat:Int):=by rw [rm,rm];omega
  rw [e]
  refine (dU _ (by omega)).mono ?_
  rintro r V2 l2 ⟨p1,n1,c1,rfl,g1⟩
  exact ⟨_,_,_,rfl,fun V3 l3=>iW (g1.le l3) (by simp;omega)⟩
 ·have h2:0<=n:=by simpa using h2
  have e:u64.wrap n=(n.toNat:Int):=by rw [aO (by omega)];omega
  rw [e]
  refine (dU _ (by omega)).mono ?_
  rintro r V2 l2 ⟨p1,n1,c1,rfl,g1⟩
  exact ⟨_,_,_,rfl,fun V3 l3=>iW (g1.le l3) (by simp;omega)⟩
theorem uH {V:View}(z:Int){p:OA}{n c:Nat}(h:RN V p n c z.natAbs) :
  ab prog 104 #[.agg #[.bool (decide (z<0)),.slice p n c]] V fun r V'=>r=.int .i64 z.sign:=by
 have hp:=fR h.len
 refine Eg _ p n c V _ ⟨fun h0 V1 l1=>?_,fun h0=>⟨fun h1 V1 l1=>?_,fun h1 V1 l1=>?_⟩⟩
 ·have:z=0:=by simp at h0;omega
  rw [this];rfl
 ·rw [decide_eq_true_eq] at h1
  rw [Int.sign_eq_neg_one_of_neg h1]
 ·rw [decide_eq_false_iff_not] at h1
  have:0<z:=by simp at h0;omega
  rw [Int.sign_eq_one_of_pos this]
theorem rQ {V:View}(z:Int){p:OA}{n c:Nat}(h:RN V p n c z.natAbs) :
  ab prog 103 #[.agg #[.bool (decide (z<0)),.slice p n c]] V fun r V'=>RI V' r (-z):=by
 refine BO _ p n c V _ fun V1 l1=>iW (h.le l1) ?_
 by_cases hz:z<0<;>simp [hz]<;>omega
theorem ke {V:View}(z w:Int){p q:OA}{n c m e:Nat}(ha:RN V p n c z.natAbs)(hb:RN V q m e w.natAbs)(hm:(ag z.natAbs).length+(ag w.natAbs).length<=1099511627776) :
  ab prog 109 #[.agg #[.bool (decide (z<0)),.slice p n c],.agg #[.bool (decide (w<0)),.slice q m e]] V fun r V'=>RI V' r (z*w):=by
 refine Gb _ p n c _ q m e V _ fun V1 l1=>(cq (ha.le l1) (hb.le l1) hm).mono ?_
 rintro r V2 l2 ⟨p1,n1,c1,rfl,g1⟩
 rw [ae,ae] at g1
 refine ⟨_,_,_,rfl,fun V3 l3=>iW (g1.le l3) ?_⟩
 have e1:z=ay (decide (z<0)) (ag z.natAbs):=(az z).symm
 have e2:w=ay (decide (w<0)) (ag w.natAbs):=(az w).symm
 conv=>rhs;rw [e1,e2]
 unfold ay
 rw [ae,ae]
 cases decide (z<0)<;>cases decide (w<0)<;>simp [Int.neg_mul,Int.mul_neg]
theorem qE {V:View}(z w:Int){p q:OA}{n c m e:Nat}(ha:RN V p n c z.natAbs)(hb:RN V q m e w.natAbs)(hm:(ag z.natAbs).length<=1099511627776)(hn:(ag w.natAbs).length<=1099511627776) :
  ab prog 108 #[.agg #[.bool (decide (z<0)),.slice p n c],.agg #[.bool (decide (w<0)),.slice q m e]] V fun r V'=>RI V' r (z+w):=by
 refine F7 _ p n c _ q m e V _ ⟨fun h0 V1 l1=>(HG (ha.le l1) (hb.le l1) hm hn).mono ?_,fun h0 V1 l1=>(gy (ha.le l1) (hb.le l1) hm hn).mono ?_⟩
 ·rintro r V2 l2 ⟨p1,n1,c1,rfl,g1⟩
  rw [ae,ae] at g1
  refine ⟨_,_,_,rfl,fun V3 l3=>iW (g1.le l3) ?_⟩
  by_cases hz:z<0<;>by_cases hw:w<0<;>simp [hz,hw] at h0⊢<;> omega
 ·rintro r V2 l2 rfl
  refine ⟨_,rfl,fun h2 V3 l3=>?_,fun h2 V3 l3=>?_⟩
  ·have h2:z.natAbs<w.natAbs:=by simpa [fO] using h2
   refine (n_ (hb.le (l1.trans (l2.trans l3))) (ha.le (l1.trans (l2.trans l3))) hn (aD (Nat.le_of_lt h2)) (by rw [ae,ae];omega)).mono ?_
   rintro r V4 l4 ⟨p1,n1,c1,rfl,g1⟩
   rw [ae,ae] at g1
   refine ⟨_,_,_,rfl,fun V5 l5=>iW (g1.le l5) ?_⟩
   by_cases hz:z<0<;>by_cases hw:w<0<;>simp [hz,hw] at h0⊢<;> omega
  ·have h2:w.natAbs<=z.natAbs:=by simpa [←Int.not_lt,fO] using h2
   refine (n_ (ha.le (l1.trans (l2.trans l3))) (hb.le (l1.trans (l2.trans l3))) hm (aD h2) (by rw [ae,ae];omega)).mono ?_
   rintro r V4 l4 ⟨p1,n1,c1,rfl,g1⟩
   rw [ae,ae] at g1
   refine ⟨_,_,_,rfl,fun V5 l5=>iW (g1.le l5) ?_⟩
   by_cases hz:z<0<;>by_cases hw:w<0<;>simp [hz,hw] at h0⊢<;> omega
end Go.Proofs.Tryz
namespace Go.bE
open Go.dP
def sQ (d:Nat):List Nat:=if d=1 then [] else ag d
def RQ (V:View)(v:Value)(q:Rat):Prop:=∃p n c p' n' c',v=.agg #[.bool (decide (q.num<0)),.slice p n c,.slice p' n' c'] /\
 RD V p n c (ag q.num.natAbs)/\RD V p' n' c' (sQ q.den)
theorem RQ.le {V V':View}{v:Value}{q:Rat}(h:RQ V v q)(l:V.Le V'):RQ V' v q:=by
 obtain ⟨p,n,c,p',n',c',e,h1,h2⟩:=h
 exact ⟨p,n,c,p',n',c',e,h1.le l,h2.le l⟩
theorem CJ {q:Rat}:sQ q.den=[]↔q.den=1:=by
 unfold sQ
 split
 ·rename_i h;simp [h]
 ·rename_i h
  rw [bg]
  have:=q.den_nz
  omega
end Go.bE
namespace Go.Proofs.Tryz
open Go.bE Go.dP
theorem mc {V:View}{q:Rat}{p:OA}{n c:Nat}(h:RD V p n c (sQ q.den)):n=0↔q.den=1:=by
 rw [←CJ,h.len,List.length_eq_zero_iff]
theorem cJ {V:View}(q:Rat){p p':OA}{n c n' c':Nat}(b:Bool)(h2:RD V p' n' c' (sQ q.den)) :
  ab prog 60 #[.agg #[.bool b,.slice p n c,.slice p' n' c']] V fun r V'=>∃p1 n1 c1,r=.slice p1 n1 c1/\RN V' p1 n1 c1 q.den:=by
 have hl:=mc h2
 refine F9 b p n c p' n' c' V _ ⟨fun h0 V1 l1=>kf.mono ?_,fun h0 V1 l1=>⟨_,_,_,rfl,?_⟩⟩
 ·rintro r V2 l2 ⟨p1,n1,c1,rfl,g⟩
  have:q.den=1:=hl.1 (by simp at h0;omega)
  rw [this]
  exact ⟨_,_,_,rfl,fun V3 l3=>⟨_,_,_,rfl,g.le l3⟩⟩
 ·have:q.den≠1:=fun e=>by have:=hl.2 e;simp at h0;omega
  unfold sQ at h2
  rw [if_neg this] at h2
  exact h2.le l1
theorem nP {V:View}{q:Rat}{z:Int}{d:Nat}{p p':OA}{n c n' c':Nat}(hn:q.num=z)(hd:q.den=d)(h1:RD V p n c (ag z.natAbs))(h2:RD V p' n' c' (sQ d)){b:Bool}(hb:b=decide (z<0)) :
  RQ V (.agg #[.bool b,.slice p n c,.slice p' n' c']) q:=by
 subst hn hd hb
 exact ⟨_,_,_,_,_,_,rfl,h1,h2⟩
theorem kO {V:View}(z:Int){d:Nat}{p q:OA}{n c m e:Nat}(hx:RN V p n c z.natAbs)(hy:RN V q m e d)(hm:(ag z.natAbs).length<=274877906944)(hn:(ag d).length<=274877906944)(hd:d≠0) :
  ab prog 106 #[.agg #[.bool (decide (z<0)),.slice p n c],.slice q m e] V fun r V'=>RQ V' r (mkRat z d):=by
 refine D_ _ p n c q m e V _ fun V1 l1=>(fM (hx.le l1) (hy.le l1) hm hn).mono ?_
 rintro r V2 l2 ⟨p1,n1,c1,rfl,hg⟩
 have hgd:=Nat.gcd_dvd_right z.natAbs d
 have hgx:=Nat.gcd_dvd_left z.natAbs d
 have Nr:0<Nat.gcd z.natAbs d:=Nat.gcd_pos_of_pos_right _ (by omega)
 have hgl:(ag (Nat.gcd z.natAbs d)).length<=274877906944:=Nat.le_trans (aD (Nat.le_of_dvd (by omega) hgd)) hn
 have sR:(mkRat z d).num=z / (Nat.gcd d z.natAbs:Nat):=by rw [Rat.num_mkRat,if_neg hd]
 have hden:(mkRat z d).den=d / Nat.gcd d z.natAbs:=by rw [Rat.den_mkRat,if_neg hd]
 rw [Nat.gcd_comm d] at sR hden
 generalize hG:Nat.gcd z.natAbs d=g at *
 generalize mkRat z d=w at *
 refine ⟨_,_,_,rfl,fun V3 l3=>kf.mono ?_⟩
 rintro r V4 l4 ⟨p2,n2,c2,rfl,h1⟩
 refine ⟨_,_,_,rfl,fun V5 l5=>(gy (hg.le (l3.trans (l4.trans l5))) (h1.le l5) (by omega) (by decide)).mono ?_⟩
 rintro r V6 l6 rfl
 replace hx:=hx.le (l1.trans (l2.trans (l3.trans (l4.trans (l5.trans l6)))))
 replace hy:=hy.le (l1.trans (l2.trans (l3.trans (l4.trans (l5.trans l6)))))
 replace hg:=hg.le (l3.trans (l4.trans (l5.trans l6)))
 refine ⟨_,rfl,fun h0 V7 l7=>(eu (hx.le l7) (hg.le l7) hm hgl Nr).mono ?_,fun h0 rK dA=>kf.mono ?_⟩
 ·rintro r V8 l8 ⟨p4,n4,c4,p5,n5,c5,rfl,g1,-⟩
  have hnd:(mkRat z d).num.natAbs=(mkRat z d).num.natAbs:=rfl
  obtain ⟨k,hk⟩:=hgx
  have hk1:z.natAbs / g=k:=by rw [hk,Nat.mul_div_cancel_left _ Nr]
  rw [hk1] at g1
  have hz:z=(g:Int)*(if z<0 then -(k:Int) else k):=by
   split
   ·rw [Int.mul_neg,←Int.natCast_mul,←hk];omega
   ·rw [←Int.natCast_mul,←hk];omega
  have hwn:w.num=(if z<0 then -(k:Int) else k):=by
   rw [sR]
   generalize (if z<0 then -(k:Int) else k)=t at *
   rw [hz,Int.mul_ediv_cancel_left _ (by omega)]
  refine ⟨_,_,_,_,_,_,rfl,fun V9 l9=>(dS _ (g1.le l9)).mono ?_⟩
  have Us:(if decide (z<0)=true then -(k:Int) else k)=w.num:=by
   rw [hwn];simp
  rw [Us]
  rintro r jG l10 ⟨p7,n7,c7,rfl,g2⟩
  refine ⟨_,_,_,_,rfl,fun jZ bI=>(eu (hy.le (l7.trans (l8.trans (l9.trans (l10.trans bI))))) (hg.le (l7.trans (l8.trans (l9.trans (l10.trans bI))))) hn hgl Nr).mono ?_⟩
  rintro r mQ bV ⟨p8,n8,c8,p9,n9,c9,rfl,g3,-⟩
  rw [←hden] at g3
  refine ⟨_,_,_,_,_,_,rfl,fun qv cC=>kf.mono ?_⟩
  rintro r mS du ⟨G5,n10,c10,rfl,g4⟩
  have hdl:(ag w.den).length<=274877906944:=by rw [hden];exact Nat.le_trans (aD (Nat.div_le_self _ _)) hn
  refine ⟨_,_,_,rfl,fun lH dv=>(gy (g3.le (cC.trans (du.trans dv))) (g4.le dv) (by omega) (by decide)).mono ?_⟩
  rintro r lP cX rfl
  refine ⟨_,rfl,fun h9 mT c_=>nP rfl rfl (g2.le (bI.trans (bV.trans (cC.trans (du.trans (dv.trans (cX.trans c_))))))) ?_ rfl,fun h9 qt cR=>nP rfl rfl (g2.le (bI.trans (bV.trans (cC.trans (du.trans (dv.trans (cX.trans cR))))))) ?_ rfl⟩
  ·have:w.den=1:=iH.1 (by simpa using h9)
   rw [CJ.2 this];exact RD.nil
  ·have:w.den≠1:=fun e=>by rw [iH.2 e] at h9;simp at h9
   unfold sQ
   rw [if_neg this]
   exact g3.le (cC.trans (du.trans (dv.trans (cX.trans cR))))
 ·have hg1:g=1:=iH.1 (by simpa using h0)
  have hwn:w.num=z:=by rw [sR,hg1];simp
  have hwd:w.den=d:=by rw [hden,hg1];simp
  rintro r yV fG ⟨p12,n12,c12,rfl,g4⟩
  refine ⟨_,_,_,rfl,fun ui fv=>(gy (hy.le (dA.trans (fG.trans fv))) (g4.le fv) (by omega) (by decide)).mono ?_⟩
  rintro r uj gF rfl
  refine ⟨_,rfl,fun h9 mT c_=>nP hwn hwd (hx.le (dA.trans (fG.trans (fv.trans (gF.trans c_))))) ?_ rfl,fun h9 qt cR=>nP hwn hwd (hx.le (dA.trans (fG.trans (fv.trans (gF.trans cR))))) ?_ rfl⟩
  ·have:d=1:=iH.1 (by simpa using h9)
   unfold sQ
   rw [if_pos this];exact RD.nil
  ·have:d≠1:=fun e=>by rw [iH.2 e] at h9;simp at h9
   unfold sQ
   rw [if_neg this]
   exact hy.le (dA.trans (fG.trans (fv.trans (gF.trans cR))))
theorem fN {V:View}(n:Int)(h0:-9223372036854775808<=n)(h1:n<=9223372036854775807) :
  ab prog 63 #[.int .i64 n] V fun r V'=>RQ V' r (n:Rat):=by
 refine ID n V _ fun V1 l1=>(HE n h0 h1).mono ?_
 rintro r V2 l2 ⟨p,m,c,rfl,g⟩
 exact ⟨_,_,_,_,rfl,fun V3 l3=>nP (z:=n) (d:=1) rfl rfl (g.le l3) RD.nil rfl⟩
theorem tQ {V:View}(q:Rat){p p':OA}{n c n' c':Nat}(h1:RD V p n c (ag q.num.natAbs)) :
  ab prog 42 #[.agg #[.bool (decide (q.num<0)),.slice p n c,.slice p' n' c']] V fun r V'=>r=.int .i64 q.num.sign:=by
 refine K3 _ p n c p' n' c' V _ fun V1 l1=>(uH q.num (h1.le l1)).mono ?_
 rintro r V2 l2 rfl
 exact ⟨_,rfl,fun V3 l3=>rfl⟩
theorem kg {V:View}(q:Rat){p p':OA}{n c n' c':Nat}(h1:RD V p n c (ag q.num.natAbs))(h2:RD V p' n' c' (sQ q.den)) :
  ab prog 57 #[.agg #[.bool (decide (q.num<0)),.slice p n c,.slice p' n' c']] V fun r V'=>RQ V' r (-q):=by
 refine Gd _ p n c p' n' c' V _ fun V1 l1=>(rQ q.num (h1.le l1)).mono ?_
 rintro r V2 l2 ⟨p1,n1,c1,rfl,g⟩
 exact ⟨_,_,_,_,rfl,fun V3 l3=>nP (q:=-q) (z:=-q.num) (d:=q.den) (by rfl) (by rfl) (g.le l3) ((h2.le l1).le (l2.trans l3)) rfl⟩
theorem qF {V:View}{p:OA}{n c x:Nat}(h:RN V p n c x) :
  ab prog 61 #[.bool false,.slice p n c] V fun r V'=>RI V' r (x:Int):=by
 have:=dS false h
 rwa [if_neg (by decide)] at this
theorem cu {x:Rat}{k:Nat}(h:Sz k x):(ag x.num.natAbs).length<=k/\(ag x.den).length<=k/\(ag (x.den:Int).natAbs).length<=k:=⟨af h.1,af h.2,af h.2⟩
theorem dz {V:View}{v w:Value}{x y:Rat}(hx:RQ V v x)(hy:RQ V w y){k m:Nat}(hk:Sz k x)(hm:Sz m y)(hkm:k+m<274877906944) :
  ab prog 44 #[v,w] V fun r V'=>RQ V' r (x+y):=by
 obtain ⟨p,n,c,p',n',c',rfl,hx1,hx2⟩:=hx
 obtain ⟨q,i,e,q',i',e',rfl,hy1,hy2⟩:=hy
 have hlx:=mc hx2
 have zT:=mc hy2
 obtain ⟨b1,b2,b3,b4⟩:=um hk hm
 obtain ⟨d1,d2,d3⟩:=cu hk
 obtain ⟨d4,d5,d6⟩:=cu hm
 have hxy:x+y=mkRat (x.num*y.den+y.num*x.den) (x.den*y.den):=Rat.add_def' x y
 refine (fun tail=>Ef _ p n c p' n' c' _ q i e q' i' e' V _ ⟨fun h0=>⟨fun h1 V1 l1=>?_,fun _=>tail⟩,fun _=>tail⟩) ?_
 ·clear tail
  have h0:x.den=1:=hlx.1 (by simp at h0;omega)
  have h1:y.den=1:=zT.1 (by simp at h1;omega)
  refine (qE x.num y.num (hx1.le l1) (hy1.le l1) (by omega) (by omega)).mono ?_
  rintro r V2 l2 ⟨p2,n2,c2,rfl,g⟩
  have e1:x+y=((x.num+y.num:Int):Rat):=by
   rw [hxy,h0,h1];simp [Rat.mkRat_one]
  rw [e1]
  exact ⟨_,_,_,_,rfl,fun V3 l3=>nP (z:=x.num+y.num) (d:=1) rfl rfl (g.le l3) RD.nil rfl⟩
 ·intro V1 l1
  refine (cJ y _ (hy2.le l1)).mono ?_
  rintro r V2 l2 ⟨p1,n1,c1,rfl,g1⟩
  refine ⟨_,_,_,rfl,fun V3 l3=>(qF (g1.le l3)).mono ?_⟩
  rintro r V4 l4 ⟨p3,n3,c3,rfl,g3⟩
  have IU:=l1.trans (l2.trans (l3.trans l4))
  refine ⟨_,_,_,_,rfl,fun V5 l5=>(ke x.num y.den (hx1.le (IU.trans l5)) (g3.le l5) (by omega)).mono ?_⟩
  rintro r V6 l6 ⟨p5,n5,c5,rfl,g5⟩
  have QU:=IU.trans (l5.trans l6)
  refine ⟨_,_,_,_,rfl,fun V7 l7=>(cJ x _ (hx2.le (QU.trans l7))).mono ?_⟩
  rintro r V8 l8 ⟨p7,n7,c7,rfl,g7⟩
  have SO:=QU.trans (l7.trans l8)
  refine ⟨_,_,_,rfl,fun V9 l9=>(qF (g7.le l9)).mono ?_⟩
  rintro r jG l10 ⟨p9,n9,c9,rfl,g9⟩
  have QV:=SO.trans (l9.trans l10)
  refine ⟨_,_,_,_,rfl,fun jZ bI=>(ke y.num x.den (hy1.le (QV.trans bI)) (g9.le bI) (by omega)).mono ?_⟩
  rintro r mQ bV ⟨My,n11,c11,rfl,g11⟩
  have Mg:=QV.trans (bI.trans bV)
  refine ⟨_,_,_,_,rfl,fun qv cC=>(qE _ _ (g5.le (l7.trans (l8.trans (l9.trans (l10.trans (bI.trans (bV.trans cC))))))) (g11.le cC) (Nat.le_trans (af b1) (by omega)) (Nat.le_trans (af b2) (by omega))).mono ?_⟩
  rintro r mS du ⟨p13,n13,c13,rfl,g13⟩
  have QT:=Mg.trans (cC.trans du)
  refine ⟨_,_,_,_,rfl,fun lH dv=>(cJ x _ (hx2.le (QT.trans dv))).mono ?_⟩
  rintro r lP cX ⟨p15,n15,c15,rfl,g15⟩
  have UO:=QT.trans (dv.trans cX)
  refine ⟨_,_,_,rfl,fun mT c_=>(cJ y _ (hy2.le (UO.trans c_))).mono ?_⟩
  rintro r qt cR ⟨p17,n17,c17,rfl,g17⟩
  refine ⟨_,_,_,rfl,fun rK dA=>(cq (g15.le (c_.trans (cR.trans dA))) (g17.le dA) (by omega)).mono ?_⟩
  rintro r yV fG ⟨p19,n19,c19,rfl,g19⟩
  rw [ae,ae] at g19
  refine ⟨_,_,_,rfl,fun ui fv=>(kO _ (g13.le (dv.trans (cX.trans (c_.trans (cR.trans (dA.trans (fG.trans fv))))))) (g19.le fv) (Nat.le_trans (af b3) (by omega)) (Nat.le_trans (af b4) (by omega)) (Nat.mul_ne_zero x.den_nz y.den_nz)).mono ?_⟩
  rw [hxy]
  rintro r uj gF ⟨XY,n21,c21,XZ,n22,WY,rfl,g21,g22⟩
  exact ⟨_,_,_,_,_,_,_,rfl,fun xu gY=>⟨_,_,_,_,_,_,rfl,g21.le gY,g22.le gY⟩⟩
theorem gE {V:View}{v w:Value}{x y:Rat}(hx:RQ V v x)(hy:RQ V w y){k m:Nat}(hk:Sz k x)(hm:Sz m y)(hkm:k+m<274877906944) :
  ab prog 110 #[v,w] V fun r V'=>RQ V' r (x-y):=by
 have hx0:=hx
 obtain ⟨p,n,c,p',n',c',rfl,hx1,hx2⟩:=hx
 obtain ⟨q,i,e,q',i',e',rfl,hy1,hy2⟩:=hy
 refine Ge _ p n c p' n' c' _ q i e q' i' e' V _ fun V1 l1=>(kg y (hy1.le l1) (hy2.le l1)).mono ?_
 rintro r V2 l2 h2
 obtain ⟨p1,n1,c1,p2,n2,c2,rfl,g1,g2⟩:=id h2
 refine ⟨_,_,_,_,_,_,_,rfl,fun V3 l3=>(dz (hx0.le (l1.trans (l2.trans l3))) (h2.le l3) hk hm.neg hkm).mono ?_⟩
 rw [←Rat.sub_eq_add_neg]
 rintro r V4 l4 ⟨p3,n3,c3,p4,n4,c4,rfl,g3,g4⟩
 exact ⟨_,_,_,_,_,_,_,rfl,fun V5 l5=>⟨_,_,_,_,_,_,rfl,g3.le l5,g4.le l5⟩⟩
theorem oZ {V:View}{v w:Value}{x y:Rat}(hx:RQ V v x)(hy:RQ V w y){k m:Nat}(hk:Sz k x)(hm:Sz m y)(hkm:k+m<274877906944) :
  ab prog 45 #[v,w] V fun r V'=>r=.int .i64 (eR x y):=by
 have hx0:=hx
 have hy0:=hy
 obtain ⟨p,n,c,p',n',c',rfl,hx1,hx2⟩:=hx
 obtain ⟨q,i,e,q',i',e',rfl,hy1,hy2⟩:=hy
 refine K1 _ p n c p' n' c' _ q i e q' i' e' V _ fun V1 l1=>(gE (hx0.le l1) (hy0.le l1) hk hm hkm).mono ?_
 rintro r V2 l2 ⟨p1,n1,c1,p2,n2,c2,rfl,g1,g2⟩
 refine ⟨_,_,_,_,_,_,_,rfl,fun V3 l3=>(tQ (x-y) (g1.le l3)).mono ?_⟩
 rintro r V4 l4 rfl
 exact ⟨_,rfl,fun V5 l5=>rfl⟩
theorem aM {V:View}{v w:Value}{x y:Rat}(hx:RQ V v x)(hy:RQ V w y){k m:Nat}(hk:Sz k x)(hm:Sz m y)(hkm:k+m<274877906944) :
  ab prog 58 #[v,w] V fun r V'=>RQ V' r (x*y):=by
 obtain ⟨p,n,c,p',n',c',rfl,hx1,hx2⟩:=hx
 obtain ⟨q,i,e,q',i',e',rfl,hy1,hy2⟩:=hy
 have hlx:=mc hx2
 have zT:=mc hy2
 obtain ⟨d1,d2,d3⟩:=cu hk
 obtain ⟨d4,d5,d6⟩:=cu hm
 have hxy:x*y=mkRat (x.num*y.num) (x.den*y.den):=Rat.mul_def' x y
 have b1:(x.num*y.num).natAbs<2^(k+m):=by rw [Int.natAbs_mul];exact bJ hk.1 hm.1
 have b2:x.den*y.den<2^(k+m):=bJ hk.2 hm.2
 refine (fun tail=>BQ _ p n c p' n' c' _ q i e q' i' e' V _ ⟨fun h0=>⟨fun h1 V1 l1=>?_,fun _=>tail⟩,fun _=>tail⟩) ?_
 ·clear tail
  have h0:x.den=1:=hlx.1 (by simp at h0;omega)
  have h1:y.den=1:=zT.1 (by simp at h1;omega)
  refine (ke x.num y.num (hx1.le l1) (hy1.le l1) (by omega)).mono ?_
  rintro r V2 l2 ⟨p2,n2,c2,rfl,g⟩
  have e1:x*y=((x.num*y.num:Int):Rat):=by
   rw [hxy,h0,h1];simp [Rat.mkRat_one]
  rw [e1]
  exact ⟨_,_,_,_,rfl,fun V3 l3=>nP (z:=x.num*y.num) (d:=1) rfl rfl (g.le l3) RD.nil rfl⟩
 ·intro V1 l1
  refine (ke x.num y.num (hx1.le l1) (hy1.le l1) (by omega)).mono ?_
  rintro r V2 l2 ⟨p2,n2,c2,rfl,g2⟩
  refine ⟨_,_,_,_,rfl,fun V3 l3=>(cJ x _ (hx2.le (l1.trans (l2.trans l3)))).mono ?_⟩
  rintro r V4 l4 ⟨p4,n4,c4,rfl,g4⟩
  refine ⟨_,_,_,rfl,fun V5 l5=>(cJ y _ (hy2.le (l1.trans (l2.trans (l3.trans (l4.trans l5)))))).mono ?_⟩
  rintro r V6 l6 ⟨p6,n6,c6,rfl,g6⟩
  refine ⟨_,_,_,rfl,fun V7 l7=>(cq (g4.le (l5.trans (l6.trans l7))) (g6.le l7) (by omega)).mono ?_⟩
  rintro r V8 l8 ⟨p8,n8,c8,rfl,g8⟩
  rw [ae,ae] at g8
  refine ⟨_,_,_,rfl,fun V9 l9=>(kO _ (g2.le (l3.trans (l4.trans (l5.trans (l6.trans (l7.trans (l8.trans l9))))))) (g8.le l9) (Nat.le_trans (af b1) (by omega)) (Nat.le_trans (af b2) (by omega)) (Nat.mul_ne_zero x.den_nz y.den_nz)).mono ?_⟩
  rw [hxy]
  rintro r uj gF ⟨XY,n21,c21,XZ,n22,WY,rfl,g21,g22⟩
  exact ⟨_,_,_,_,_,_,_,rfl,fun xu gY=>⟨_,_,_,_,_,_,rfl,g21.le gY,g22.le gY⟩⟩
end Go.Proofs.Tryz
namespace Go.bE
open Go.dP
def RP (V:View)(v:Value)(x y:Rat):Prop:=∃p n c p' n' c' q m e q' m' e',v=.agg #[.bool (decide (x.num<0)),.slice p n c,.slice p' n' c',.bool (decide (y.num<0)),.slice q m e,.slice q' m' e'] /\
 RQ V (.agg #[.bool (decide (x.num<0)),.slice p n c,.slice p' n' c']) x/\RQ V (.agg #[.bool (decide (y.num<0)),.slice q m e,.slice q' m' e']) y
theorem RP.le {V V':View}{v:Value}{x y:Rat}(h:RP V v x y)(l:V.Le V'):RP V' v x y:=by
 obtain ⟨p,n,c,p',n',c',q,m,e,q',m',e',rfl,h1,h2⟩:=h
 exact ⟨p,n,c,p',n',c',q,m,e,q',m',e',rfl,h1.le l,h2.le l⟩
theorem RQ.shape {V:View}{v:Value}{q:Rat}(h:RQ V v q):∃p n c p' n' c',v=.agg #[.bool (decide (q.num<0)),.slice p n c,.slice p' n' c']:=by
 obtain ⟨p,n,c,p',n',c',e,-⟩:=h;exact ⟨_,_,_,_,_,_,e⟩
end Go.bE
namespace Go.Proofs.Tryz
open Go.bE Go.dP
theorem rR {V:View}{p:OA}{n c:Nat}{ds:List Nat}(h:RD V p n c ds)(hm:ds.length<=1099511627776) :
  ab prog 96 #[.slice p n c] V fun r V'=>∃p1 n1 c1,r=.slice p1 n1 c1/\RD V' p1 n1 c1 ds:=by
 have hl:=h.len
 refine BS p n c V _ ⟨aG ds,h.sl,by simp [hl],by omega,by omega,by simp,by simp [hl],?_,?_⟩
 ·intro v hv
  simp only [aG,List.mem_map] at hv
  obtain ⟨d,-,rfl⟩:=hv
  rfl
 ·intro bk J sp c' h1 h2 V1 l1 b hb
  refine ⟨_,_,_,rfl,?_⟩
  simp only [Nat.zero_add,Nat.zero_mul,List.take_zero,List.nil_append] at hb h1 ⊢
  exact copied h.cZ hl h1 hb
theorem jo {V:View}{v:Value}{z:Int}(h:RI V v z)(hm:(ag z.natAbs).length<=1099511627776) :
  ab prog 64 #[v] V fun r V'=>RI V' r z:=by
 obtain ⟨p,n,c,rfl,h⟩:=h
 refine BR _ p n c V _ fun V1 l1=>(rR (h.le l1) hm).mono ?_
 rintro r V2 l2 ⟨p1,n1,c1,rfl,g⟩
 exact ⟨_,_,_,rfl,fun V3 l3=>⟨_,_,_,rfl,g.le l3⟩⟩
theorem uN {V:View}(x y:Int)(h0:-9223372036854775808<=x)(h1:x<=9223372036854775807)(h2:-9223372036854775808<=y)(h3:y<=9223372036854775807) :
  ab prog 12 #[.int .i64 x,.int .i64 y] V fun r V'=>RP V' r (x:Rat) (y:Rat):=by
 refine Ep x y V _ fun V1 l1=>(fN x h0 h1).mono ?_
 rintro r V2 l2 hx
 obtain ⟨p,n,c,p',n',c',rfl⟩:=hx.shape
 refine ⟨_,_,_,_,_,_,_,rfl,fun V3 l3=>(fN y h2 h3).mono ?_⟩
 rintro r V4 l4 hy
 obtain ⟨q,m,e,q',m',e',rfl⟩:=hy.shape
 exact ⟨_,_,_,_,_,_,_,rfl,fun V5 l5=>⟨_,_,_,_,_,_,_,_,_,_,_,_,rfl,hx.le (l3.trans (l4.trans l5)),hy.le l5⟩⟩
theorem jq {V:View}{u v w:Value}{px py c qx qy:Rat}(hp:RP V u px py)(hc:RQ V v c)(hq:RP V w qx qy){k m:Nat}(s1:Sz k px)(s2:Sz k py)(s3:Sz m c)(s4:Sz m qx)(s5:Sz m qy)(hkm:k+(m+m+1)<274877906944) :
  ab prog 100 #[u,v,w] V fun r V'=>RP V' r (px+c*qx) (py+c*qy):=by
 obtain ⟨p1,n1,c1,p2,n2,c2,p3,n3,c3,p4,n4,c4,rfl,hp1,hp2⟩:=hp
 obtain ⟨p5,n5,c5,p6,n6,c6,rfl⟩:=hc.shape
 obtain ⟨q1,m1,e1,q2,m2,e2,q3,m3,e3,q4,m4,e4,rfl,hq1,hq2⟩:=hq
 refine BU _ p1 n1 c1 p2 n2 c2 _ p3 n3 c3 p4 n4 c4 _ p5 n5 c5 p6 n6 c6 _ q1 m1 e1 q2 m2 e2 _ q3 m3 e3 q4 m4 e4 V _ fun V1 l1=>(aM (hc.le l1) (hq1.le l1) s3 s4 (by omega)).mono ?_
 rintro r V2 l2 g1
 obtain ⟨a1,a2,a3,a4,a5,a6,rfl⟩:=g1.shape
 refine ⟨_,_,_,_,_,_,_,rfl,fun V3 l3=>(dz (hp1.le (l1.trans (l2.trans l3))) (g1.le l3) s1 (s3.mul s4) (by omega)).mono ?_⟩
 rintro r V4 l4 g2
 obtain ⟨b1,b2,b3,b4,b5,b6,rfl⟩:=g2.shape
 have IU:=l1.trans (l2.trans (l3.trans l4))
 refine ⟨_,_,_,_,_,_,_,rfl,fun V5 l5=>(aM (hc.le (IU.trans l5)) (hq2.le (IU.trans l5)) s3 s5 (by omega)).mono ?_⟩
 rintro r V6 l6 g3
 obtain ⟨d1,d2,d3,d4,d5,d6,rfl⟩:=g3.shape
 refine ⟨_,_,_,_,_,_,_,rfl,fun V7 l7=>(dz (hp2.le (IU.trans (l5.trans (l6.trans l7)))) (g3.le l7) s2 (s3.mul s5) (by omega)).mono ?_⟩
 rintro r V8 l8 g4
 obtain ⟨f1,f2,f3,f4,f5,f6,rfl⟩:=g4.shape
 exact ⟨_,_,_,_,_,_,_,rfl,fun V9 l9=>⟨_,_,_,_,_,_,_,_,_,_,_,_,rfl,g2.le (l5.trans (l6.trans (l7.trans (l8.trans l9)))),g4.le l9⟩⟩
theorem MY:Sz 1 ((-1:Int):Rat):=by unfold Sz;decide
theorem Cx {V:View}{u w:Value}{px py qx qy:Rat}(hp:RP V u px py)(hq:RP V w qx qy){k m:Nat}(s1:Sz k px)(s2:Sz k py)(s4:Sz m qx)(s5:Sz m qy)(hm:1<=m)(hkm:k+(m+m+1)<274877906944) :
  ab prog 56 #[u,w] V fun r V'=>RP V' r (px-qx) (py-qy):=by
 have hp0:=hp
 have hq0:=hq
 obtain ⟨p1,n1,c1,p2,n2,c2,p3,n3,c3,p4,n4,c4,rfl,-,-⟩:=hp
 obtain ⟨q1,m1,e1,q2,m2,e2,q3,m3,e3,q4,m4,e4,rfl,-,-⟩:=hq
 refine BZ _ p1 n1 c1 p2 n2 c2 _ p3 n3 c3 p4 n4 c4 _ q1 m1 e1 q2 m2 e2 _ q3 m3 e3 q4 m4 e4 V _ fun V1 l1=>(fN (-1) (by omega) (by omega)).mono ?_
 rintro r V2 l2 g1
 obtain ⟨a1,a2,a3,a4,a5,a6,rfl⟩:=g1.shape
 have JQ:=l1.trans l2
 refine ⟨_,_,_,_,_,_,_,rfl,fun V3 l3=>(jq (hp0.le (JQ.trans l3)) (g1.le l3) (hq0.le (JQ.trans l3)) s1 s2 (MY.mono hm) s4 s5 hkm).mono ?_⟩
 have e1:∀a b:Rat,a+((-1:Int):Rat)*b=a-b:=by
  intro a b
  have:((-1:Int):Rat)=-1:=rfl
  rw [this,Rat.neg_mul,Rat.one_mul,Rat.sub_eq_add_neg]
 rw [e1,e1]
 rintro r V4 l4 ⟨b1,b2,b3,b4,b5,b6,b7,b8,b9,b10,b11,b12,rfl,g2,g3⟩
 exact ⟨_,_,_,_,_,_,_,_,_,_,_,_,_,_,rfl,fun V5 l5=>⟨_,_,_,_,_,_,_,_,_,_,_,_,rfl,g2.le l5,g3.le l5⟩⟩
end Go.Proofs.Tryz
namespace Go.bE
open Go.dP
def RL (V:View)(v:Value)(a b c:Int):Prop:=∃p n s p' n' s' q m e,v=.agg #[.bool (decide (a<0)),.slice p n s,.bool (decide (b<0)),.slice p' n' s',.bool (decide (c<0)),.slice q m e] /\
 RD V p n s (ag a.natAbs)/\RD V p' n' s' (ag b.natAbs)/\RD V q m e (ag c.natAbs)
theorem RL.le {V V':View}{v:Value}{a b c:Int}(h:RL V v a b c)(l:V.Le V'):RL V' v a b c:=by
 obtain ⟨p,n,s,p',n',s',q,m,e,rfl,h1,h2,h3⟩:=h
 exact ⟨p,n,s,p',n',s',q,m,e,rfl,h1.le l,h2.le l,h3.le l⟩
end Go.bE
namespace Go.Proofs.Tryz
open Go.bE Go.dP
theorem nK {V:View}{p q:OA}{n c m e:Nat}{xs ys:List Nat}(hx:RD V p n c xs)(hy:RD V q m e ys)(hm:xs.length<=1099511627776) :
  ab prog 95 #[.slice p n c,.slice q m e] V fun r V'=>r=.bool (decide (xs=ys)):=by
 have hlx:=hx.len
 have zT:=hy.len
 refine wP p n c q m e V _ ⟨fun h0 V1 l1=>?_,fun h0=>?_⟩
 ·have h0:n≠m:=by simp at h0;omega
  rw [decide_eq_false fun h=>h0 (by rw [hlx,zT,h])]
 ·have h0:n=m:=by simp at h0;omega
  refine ⟨fun z V'=>0<=z/\z<=n/\xs.take z.toNat=ys.take z.toNat,fun z=>n-z.toNat,⟨0,by (try dsimp only);and_intros<;>first|exact True.intro|rfl,by (try dsimp only);omega,by (try dsimp only);omega,rfl⟩,?_⟩
  rintro i V2 l2 ⟨hi0,hi1,ht⟩
  dsimp only at hi1 ht ⊢
  obtain ⟨i,rfl⟩:=Int.eq_ofNat_of_zero_le hi0
  simp only [Int.toNat_natCast] at ht
  refine ⟨by trivial,fun h3=>?_,fun h3 V4 l4=>?_⟩
  ·have h3:i<n:=by simpa using h3
   refine (hx.le l2).rd i rfl (by omega) ((hy.le l2).rd i rfl (by omega) ⟨fun h4 V8 l8=>?_,fun h4=>?_⟩)
   ·have h4:xs[i]≠ys[i]:=by simp at h4;omega
    rw [decide_eq_false fun h=>h4 (by subst h;rfl)]
   ·have h4:xs[i]=ys[i]:=by simp at h4;omega
    have w:i64.wrap ((i:Int)+1)=((i+1:Nat):Int):=by rw [aB (by omega)];omega
    simp only [w]
    refine ⟨((i+1:Nat):Int),?_,by (try dsimp only);and_intros<;>first|exact True.intro|rfl,by (try dsimp only);omega,by (try dsimp only);omega,?_⟩
    ·(try dsimp only);omega
    ·(try dsimp only)
     simp only [Int.toNat_natCast]
     rw [List.take_succ_eq_append_getElem (by omega),List.take_succ_eq_append_getElem (l:=ys) (by omega),ht,h4]
  ·have h3:i=n:=by simp at h3;omega
   rw [List.take_of_length_le (by omega),List.take_of_length_le (by omega)] at ht
   rw [decide_eq_true ht]
theorem KI {z w:Int}:(decide (z<0)==decide (w<0))=true->(decide (ag z.natAbs=ag w.natAbs)=decide (z=w)):=by
 intro h
 have h1:(z<0↔w<0):=by simpa using h
 rw [Bool.eq_iff_iff,decide_eq_true_eq,decide_eq_true_eq]
 constructor
 ·intro h2
  have:=pf h2
  omega
 ·intro h2;rw [h2]
theorem gL {V:View}{z w:Int}{p q:OA}{n c m e:Nat}(hx:RD V p n c (ag z.natAbs))(hy:RD V q m e (ag w.natAbs))(hm:(ag z.natAbs).length<=1099511627776) :
  ab prog 94 #[.agg #[.bool (decide (z<0)),.slice p n c],.agg #[.bool (decide (w<0)),.slice q m e]] V fun r V'=>r=.bool (decide (z=w)):=by
 refine wO _ p n c _ q m e V _ ⟨fun h0 V1 l1=>(nK (hx.le l1) (hy.le l1) hm).mono ?_,fun h0 V1 l1=>?_⟩
 ·rintro r V2 l2 rfl
  refine ⟨_,rfl,fun V3 l3=>?_⟩
  rw [KI h0]
 ·rw [decide_eq_false fun h=>by subst h;simp at h0]
theorem xH {V:View}{v w:Value}{a b c a' b' c':Int}(hx:RL V v a b c)(hy:RL V w a' b' c')(h1:(ag a.natAbs).length<=1099511627776)(h2:(ag b.natAbs).length<=1099511627776)(h3:(ag c.natAbs).length<=1099511627776) :
  ab prog 168 #[v,w] V fun r V'=>r=.bool (decide (a=a'/\b=b'/\c=c')):=by
 obtain ⟨p,n,s,p',n',s',q,m,e,rfl,x1,x2,x3⟩:=hx
 obtain ⟨i,j,k,i',j',k',i2,j2,k2,rfl,y1,y2,y3⟩:=hy
 refine wU _ p n s _ p' n' s' _ q m e _ i j k _ i' j' k' _ i2 j2 k2 V _ fun V1 l1=>(gL (x1.le l1) (y1.le l1) h1).mono ?_
 rintro r V2 l2 rfl
 refine ⟨_,rfl,fun g1 V3 l3=>(gL (x2.le (l1.trans (l2.trans l3))) (y2.le (l1.trans (l2.trans l3))) h2).mono ?_,fun g1 V9 l9=>?_⟩
 ·rintro r V4 l4 rfl
  rw [decide_eq_true_eq] at g1
  refine ⟨_,rfl,fun g2 V5 l5=>(gL (x3.le (l1.trans (l2.trans (l3.trans (l4.trans l5))))) (y3.le (l1.trans (l2.trans (l3.trans (l4.trans l5))))) h3).mono ?_,fun g2 V8 l8=>?_⟩
  ·rintro r V6 l6 rfl
   rw [decide_eq_true_eq] at g2
   refine ⟨_,rfl,fun V7 l7=>?_⟩
   congr 1
   rw [Bool.eq_iff_iff,decide_eq_true_eq,decide_eq_true_eq]
   exact ⟨fun h=>⟨g1,g2,h⟩,fun h=>h.2.2⟩
  ·rw [decide_eq_false_iff_not] at g2
   rw [decide_eq_false fun h=>g2 h.2.1]
 ·rw [decide_eq_false_iff_not] at g1
  rw [decide_eq_false fun h=>g1 h.1]
theorem Cy {V:View}{v:Value}{a b c:Int}(hx:RL V v a b c)(h1:(ag a.natAbs).length<=1099511627776)(h2:(ag b.natAbs).length<=1099511627776)(h3:(ag c.natAbs).length<=1099511627776) :
  ab prog 13 #[v] V fun r V'=>RL V' r a b c:=by
 obtain ⟨p,n,s,p',n',s',q,m,e,rfl,x1,x2,x3⟩:=hx
 refine B0 _ p n s _ p' n' s' _ q m e V _ fun V1 l1=>(jo ⟨_,_,_,rfl,x1.le l1⟩ h1).mono ?_
 rintro r V2 l2 ⟨p1,n1,c1,rfl,g1⟩
 refine ⟨_,_,_,_,rfl,fun V3 l3=>(jo ⟨_,_,_,rfl,x2.le (l1.trans (l2.trans l3))⟩ h2).mono ?_⟩
 rintro r V4 l4 ⟨p2,n2,c2,rfl,g2⟩
 refine ⟨_,_,_,_,rfl,fun V5 l5=>(jo ⟨_,_,_,rfl,x3.le (l1.trans (l2.trans (l3.trans (l4.trans l5))))⟩ h3).mono ?_⟩
 rintro r V6 l6 ⟨p3,n3,c3,rfl,g3⟩
 exact ⟨_,_,_,_,rfl,fun V7 l7=>⟨_,_,_,_,_,_,_,_,_,rfl,g1.le (l3.trans (l4.trans (l5.trans (l6.trans l7)))),g2.le (l5.trans (l6.trans l7)),g3.le l7⟩⟩
theorem va {z:Int}{g:Nat}(hg:0<g)(hd:g∣z.natAbs):(if decide (z<0)=true then -((z.natAbs / g:Nat):Int) else ((z.natAbs / g:Nat):Int))=z / (g:Int):=by
 obtain ⟨k,hk⟩:=hd
 have hk1:z.natAbs / g=k:=by rw [hk,Nat.mul_div_cancel_left _ hg]
 rw [hk1]
 have hz:z=(g:Int)*(if decide (z<0)=true then -(k:Int) else k):=by
  split
  ·rename_i h
   rw [decide_eq_true_eq] at h
   rw [Int.mul_neg,←Int.natCast_mul,←hk];omega
  ·rename_i h
   rw [decide_eq_true_eq] at h
   rw [←Int.natCast_mul,←hk];omega
 generalize (if decide (z<0)=true then -(k:Int) else k)=t at *
 rw [hz,Int.mul_ediv_cancel_left _ (by omega)]
def gW (a b c:Int):Nat:=Nat.gcd (Nat.gcd a.natAbs b.natAbs) c.natAbs
theorem xE {V:View}{u v w:Value}{a b c:Int}(ha:RI V u a)(hb:RI V v b)(hc:RI V w c)(h1:(ag a.natAbs).length<=274877906944)(h2:(ag b.natAbs).length<=274877906944)(h3:(ag c.natAbs).length<=274877906944) :
  ab prog 62 #[u,v,w] V fun r V'=>(a=0/\b=0->∃l,r=.tuple #[l,.bool false]/\RL V' l 0 0 0) /\
   (¬(a=0/\b=0)->∃l,r=.tuple #[l,.bool true]/\RL V' l (a / (gW a b c:Int)) (b / (gW a b c:Int)) (c / (gW a b c:Int))):=by
 obtain ⟨p,n,s,rfl,ha⟩:=ha
 obtain ⟨p',n',s',rfl,hb⟩:=hb
 obtain ⟨q,m,e,rfl,hc⟩:=hc
 refine wS _ p n s _ p' n' s' _ q m e V _ fun V1 l1=>(fM (ha.le l1) (hb.le l1) h1 h2).mono ?_
 rintro r V2 l2 ⟨p1,n1,c1,rfl,g1⟩
 have hp:=fR g1.len
 have xR:Nat.gcd a.natAbs b.natAbs=0↔a=0/\b=0:=by rw [Nat.gcd_eq_zero_iff];omega
 refine ⟨_,_,_,rfl,fun h0 V3 l3=>⟨fun _=>⟨_,rfl,_,_,_,_,_,_,_,_,_,rfl,RD.nil,RD.nil,RD.nil⟩,fun h=>?_⟩,fun h0 V4 l4=>?_⟩
 ·exact absurd (xR.1 (by simp at h0;omega)) h
 have hne:¬(a=0/\b=0):=fun h=>by have:=xR.2 h;simp at h0;omega
 have hg0:0<Nat.gcd a.natAbs b.natAbs:=by have:=xR;omega
 have hgl:(ag (Nat.gcd a.natAbs b.natAbs)).length<=274877906944:=by
  rcases Nat.eq_zero_or_pos a.natAbs with h|h
  ·rw [h,Nat.gcd_zero_left];exact h2
  ·exact Nat.le_trans (aD (Nat.gcd_le_left _ h)) h1
 refine (fM (g1.le l4) (hc.le (l1.trans (l2.trans l4))) hgl h3).mono ?_
 rintro r V5 l5 ⟨p2,n2,c2,rfl,g2⟩
 have UP:=l1.trans (l2.trans (l4.trans l5))
 have e3:Nat.gcd (Nat.gcd a.natAbs b.natAbs) c.natAbs=gW a b c:=rfl
 have hG0:0<gW a b c:=Nat.gcd_pos_of_pos_left _ hg0
 have PE:(ag (gW a b c)).length<=274877906944:=Nat.le_trans (aD (Nat.gcd_le_left _ hg0)) hgl
 have da:gW a b c∣a.natAbs:=Nat.dvd_trans (Nat.gcd_dvd_left _ _) (Nat.gcd_dvd_left _ _)
 have db:gW a b c∣b.natAbs:=Nat.dvd_trans (Nat.gcd_dvd_left _ _) (Nat.gcd_dvd_right _ _)
 have dc:gW a b c∣c.natAbs:=Nat.gcd_dvd_right _ _
 have sa:=va hG0 da
 have sb:=va hG0 db
 have sc:=va hG0 dc
 rw [e3] at g2
 generalize gW a b c=G at *
 refine ⟨_,_,_,rfl,fun V6 l6=>(eu (ha.le (UP.trans l6)) (g2.le l6) h1 PE hG0).mono ?_⟩
 rintro r V7 l7 ⟨p3,n3,c3,p4,n4,c4,rfl,g3,-⟩
 have UQ:=l6.trans l7
 refine ⟨_,_,_,_,_,_,rfl,fun V8 l8=>(eu (hb.le (UP.trans (UQ.trans l8))) (g2.le (UQ.trans l8)) h2 PE hG0).mono ?_⟩
 rintro r V9 l9 ⟨p5,n5,c5,p6,n6,c6,rfl,g5,-⟩
 have XR:=UQ.trans (l8.trans l9)
 refine ⟨_,_,_,_,_,_,rfl,fun jG l10=>(eu (hc.le (UP.trans (XR.trans l10))) (g2.le (XR.trans l10)) h3 PE hG0).mono ?_⟩
 rintro r jZ bI ⟨p7,n7,c7,p8,n8,c8,rfl,g7,-⟩
 refine ⟨_,_,_,_,_,_,rfl,fun mQ bV=>(dS _ (g3.le (l8.trans (l9.trans (l10.trans (bI.trans bV)))))).mono ?_⟩
 rw [sa]
 rintro r qv cC ⟨p9,n9,c9,rfl,g9⟩
 refine ⟨_,_,_,_,rfl,fun mS du=>(dS _ (g5.le (l10.trans (bI.trans (bV.trans (cC.trans du)))))).mono ?_⟩
 rw [sb]
 rintro r lH dv ⟨G5,n10,c10,rfl,g10⟩
 refine ⟨_,_,_,_,rfl,fun lP cX=>(dS _ (g7.le (bV.trans (cC.trans (du.trans (dv.trans cX)))))).mono ?_⟩
 rw [sc]
 rintro r mT c_ ⟨My,n11,c11,rfl,g11⟩
 refine ⟨_,_,_,_,rfl,fun qt cR=>⟨fun h=>absurd h hne,fun _=>⟨_,rfl,_,_,_,_,_,_,_,_,_,rfl,?_,?_,?_⟩⟩⟩
 ·exact g9.le (du.trans (dv.trans (cX.trans (c_.trans cR))))
 ·exact g10.le (cX.trans (c_.trans cR))
 ·exact g11.le cR
end Go.Proofs.Tryz
namespace Go.bE
open Go.dP
def xr (V:View)(v:Value)(a b c:Rat):Prop:=∃(x1 x2:Int)(p:OA)(y1 y2:Int)(q:OA)(z1 z2:Int)(r:OA),v=.agg #[.int .i64 x1,.int .i64 x2,.pointer p,.int .i64 y1,.int .i64 y2,.pointer q,.int .i64 z1,.int .i64 z2,.pointer r] /\
 RR V (.agg #[.int .i64 x1,.int .i64 x2,.pointer p]) a/\RR V (.agg #[.int .i64 y1,.int .i64 y2,.pointer q]) b/\RR V (.agg #[.int .i64 z1,.int .i64 z2,.pointer r]) c
def Ls (v:Value):Prop:=∃(x1 x2:Int)(x3:OA)(y1 y2:Int)(y3:OA)(z1 z2:Int)(z3:OA),v=.agg #[.int .i64 x1,.int .i64 x2,.pointer x3,.int .i64 y1,.int .i64 y2,.pointer y3,.int .i64 z1,.int .i64 z2,.pointer z3]
theorem xr.le {V V':View}{v:Value}{a b c:Rat}(h:xr V v a b c)(l:V.Le V'):xr V' v a b c:=by
 obtain ⟨x1,x2,p,y1,y2,q,z1,z2,r,rfl,h1,h2,h3⟩:=h
 exact ⟨x1,x2,p,y1,y2,q,z1,z2,r,rfl,h1.le l,h2.le l,h3.le l⟩
end Go.bE
namespace Go.Proofs.Tryz
open Go.bE Go.dP
theorem HA {V:View}{v:Value}{a b c:Rat}(h:xr V v a b c){k:Nat}(s1:Sz k a)(s2:Sz k b)(s3:Sz k c)(hk:k<=1099511627776) :
  ab prog 128 #[v] V fun r V'=>RL V' r a.num b.num c.num:=by
 obtain ⟨x1,x2,p,y1,y2,q,z1,z2,r,rfl,h1,h2,h3⟩:=h
 refine yk _ _ _ _ _ _ _ _ _ V _ fun V1 l1=>(fc (h1.le l1) s1 hk).mono ?_
 rintro r V2 l2 ⟨p1,n1,c1,rfl,g1⟩
 refine ⟨_,_,_,_,rfl,fun V3 l3=>(fc (h2.le (l1.trans (l2.trans l3))) s2 hk).mono ?_⟩
 rintro r V4 l4 ⟨p2,n2,c2,rfl,g2⟩
 refine ⟨_,_,_,_,rfl,fun V5 l5=>(fc (h3.le (l1.trans (l2.trans (l3.trans (l4.trans l5))))) s3 hk).mono ?_⟩
 rintro r V6 l6 ⟨p3,n3,c3,rfl,g3⟩
 exact ⟨_,_,_,_,rfl,fun V7 l7=>⟨_,_,_,_,_,_,_,_,_,rfl,g1.le (l3.trans (l4.trans (l5.trans (l6.trans l7)))),g2.le (l5.trans (l6.trans l7)),g3.le l7⟩⟩
def iA (b1:Bool)(xs:List Nat)(b2:Bool)(ys:List Nat)(b3:Bool)(zs:List Nat):Bool:=
 fH b1 xs&&fH b2 ys&&fH b3 zs&&!(decide ((ay b1 xs:Rat)=0)&&decide ((ay b2 ys:Rat)=0))&&decide (ia (ia (ay b1 xs) (ay b2 ys)) (ay b3 zs)=((1:Int):Rat))
theorem qX {V:View}{ok:Bool}{A B C:Rat}(h:ok=false):∃v,Value.tuple #[.agg #[.int .i64 0,.int .i64 0,.pointer none,.int .i64 0,.int .i64 0,.pointer none,.int .i64 0,.int .i64 0,.pointer none],.bool false]=.tuple #[v,.bool ok]/\Ls v/\(ok=true->xr V v A B C):=by
 subst h;exact ⟨_,rfl,⟨_,_,_,_,_,_,_,_,_,rfl⟩,fun h=>nomatch h⟩
theorem KV:Sz 1 ((1:Int):Rat):=by unfold Sz;decide
theorem uF {V:View}(b1 b2 b3:Bool){p q s:OA}{n c m e i j:Nat}{xs ys zs:List Nat}(hx:RD V p n c xs)(hy:RD V q m e ys)(hz:RD V s i j zs)
  (h1:xs.length<=1099511627776)(h2:ys.length<=1099511627776)(h3:zs.length<=1099511627776){k:Nat}(s1:Sz k (ay b1 xs:Rat))(s2:Sz k (ay b2 ys:Rat))(s3:Sz k (ay b3 zs:Rat))(hk:4*k+4<1099511627776) :
  ab prog 127 #[.agg #[.bool b1,.slice p n c,.bool b2,.slice q m e,.bool b3,.slice s i j]] V fun r V'=>∃v,r=.tuple #[v,.bool (iA b1 xs b2 ys b3 zs)]/\Ls v/\(iA b1 xs b2 ys b3 zs=true->xr V' v (ay b1 xs) (ay b2 ys) (ay b3 zs)):=by
 refine D3 _ p n c _ q m e _ s i j V _ fun V1 l1=>(gj b1 (hx.le l1) h1).mono ?_
 rintro r V2 l2 rfl
 refine ⟨_,rfl,fun h0 V3 l3=>qX ?_,fun h0 V4 l4=>(gj b2 (hy.le (l1.trans (l2.trans l4))) h2).mono ?_⟩
 ·have h0:fH b1 xs=false:=by simpa using h0
  simp [iA,h0]
 have h0:fH b1 xs=true:=by simpa using h0
 rintro r V5 l5 rfl
 refine ⟨_,rfl,fun g0 V6 l6=>qX ?_,fun g0 V7 l7=>(gj b3 (hz.le (l1.trans (l2.trans (l4.trans (l5.trans l7))))) h3).mono ?_⟩
 ·have g0:fH b2 ys=false:=by simpa using g0
  simp [iA,g0]
 have g0:fH b2 ys=true:=by simpa using g0
 rintro r V8 l8 rfl
 have SO:=l1.trans (l2.trans (l4.trans (l5.trans (l7.trans l8))))
 refine ⟨_,rfl,fun f0 V9 l9=>qX ?_,fun f0 jG l10=>(kJ b1 (hx.le (SO.trans l10)) h1).mono ?_⟩
 ·have f0:fH b3 zs=false:=by simpa using f0
  simp [iA,f0]
 have f0:fH b3 zs=true:=by simpa using f0
 rintro r jZ bI ra
 obtain ⟨x1,x2,x3,rfl⟩:=ra.shape
 have QS:=SO.trans (l10.trans bI)
 refine ⟨_,_,_,rfl,fun mQ bV=>(kJ b2 (hy.le (QS.trans bV)) h2).mono ?_⟩
 rintro r qv cC rb
 obtain ⟨y1,y2,y3,rfl⟩:=rb.shape
 have UN:=QS.trans (bV.trans cC)
 refine ⟨_,_,_,rfl,fun mS du=>(kJ b3 (hz.le (UN.trans du)) h3).mono ?_⟩
 rintro r lH dv rc
 obtain ⟨z1,z2,z3,rfl⟩:=rc.shape
 replace ra:=ra.le (bV.trans (cC.trans (du.trans dv)))
 replace rb:=rb.le (du.trans dv)
 have hok:iA b1 xs b2 ys b3 zs=(!(decide ((ay b1 xs:Rat)=0)&&decide ((ay b2 ys:Rat)=0))&&decide (ia (ia (ay b1 xs) (ay b2 ys)) (ay b3 zs)=((1:Int):Rat))):=by
  simp only [iA,h0,g0,f0,Bool.true_and]
 rw [hok]
 clear hok h0 g0 f0 hx hy hz
 generalize (ay b1 xs:Rat)=A at *
 generalize (ay b2 ys:Rat)=B at *
 generalize (ay b3 zs:Rat)=C at *
 refine ⟨_,_,_,rfl,fun lP cX=>(uC (ra.le cX)).mono ?_⟩
 rintro r mT c_ rfl
 refine ⟨_,rfl,fun t0 qt cR=>(uC (rb.le (cX.trans (c_.trans cR)))).mono ?_,fun t0 ui fv=>?_⟩
 ·rintro r rK dA rfl
  refine ⟨_,rfl,fun u0 yV fG=>qX (by rw [t0,u0];rfl),fun u0 ui fv=>?_⟩
  have lb:lH.Le ui:=cX.trans (c_.trans (cR.trans (dA.trans fv)))
  have hn:(decide (A=0)&&decide (B=0))=false:=by rw [u0,Bool.and_false]
  rw [hn]
  refine (kI (ra.le lb) (rb.le lb) s1 s2 (by omega)).mono ?_
  rintro r uj gF rg
  obtain ⟨g1,g2,g3,rfl⟩:=rg.shape
  refine ⟨_,_,_,rfl,fun xu gY=>(kI (rg.le gY) (rc.le (lb.trans (gF.trans gY))) (mP s1 s2) s3 (by omega)).mono ?_⟩
  rintro r Gp lN rh
  obtain ⟨h1,h2,h3,rfl⟩:=rh.shape
  refine ⟨_,_,_,rfl,fun Gq lQ=>(iN 1 (by omega) (by omega)).mono ?_⟩
  rintro r IZ lE ri
  obtain ⟨i1,i2,i3,rfl⟩:=ri.shape
  refine ⟨_,_,_,rfl,fun Ng lO=>(zv (rh.le (lQ.trans (lE.trans lO))) (ri.le lO) (mP (mP s1 s2) s3) KV (by omega)).mono ?_⟩
  rintro r Nh tX rfl
  have lz:lH.Le Nh:=lb.trans (gF.trans (gY.trans (lN.trans (lQ.trans (lE.trans (lO.trans tX))))))
  refine ⟨_,rfl,fun w0 Px xS=>qX ?_,fun w0 Lf xT=>?_⟩
  ·rw [Bool.not_eq_true'] at w0
   rw [w0];rfl
  ·have w0:decide (ia (ia A B) C=((1:Int):Rat))=true:=by
    cases h:decide (ia (ia A B) C=((1:Int):Rat))
    ·rw [h] at w0;cases w0
    ·rfl
   rw [w0]
   exact ⟨_,rfl,⟨_,_,_,_,_,_,_,_,_,rfl⟩,fun _=>⟨_,_,_,_,_,_,_,_,_,rfl,ra.le (lz.trans xT),rb.le (lz.trans xT),rc.le (lz.trans xT)⟩⟩
 ·have lb:lH.Le ui:=cX.trans (c_.trans fv)
  have hn:(decide (A=0)&&decide (B=0))=false:=by rw [t0,Bool.false_and]
  rw [hn]
  refine (kI (ra.le lb) (rb.le lb) s1 s2 (by omega)).mono ?_
  rintro r uj gF rg
  obtain ⟨g1,g2,g3,rfl⟩:=rg.shape
  refine ⟨_,_,_,rfl,fun xu gY=>(kI (rg.le gY) (rc.le (lb.trans (gF.trans gY))) (mP s1 s2) s3 (by omega)).mono ?_⟩
  rintro r Gp lN rh
  obtain ⟨h1,h2,h3,rfl⟩:=rh.shape
  refine ⟨_,_,_,rfl,fun Gq lQ=>(iN 1 (by omega) (by omega)).mono ?_⟩
  rintro r IZ lE ri
  obtain ⟨i1,i2,i3,rfl⟩:=ri.shape
  refine ⟨_,_,_,rfl,fun Ng lO=>(zv (rh.le (lQ.trans (lE.trans lO))) (ri.le lO) (mP (mP s1 s2) s3) KV (by omega)).mono ?_⟩
  rintro r Nh tX rfl
  have lz:lH.Le Nh:=lb.trans (gF.trans (gY.trans (lN.trans (lQ.trans (lE.trans (lO.trans tX))))))
  refine ⟨_,rfl,fun w0 Px xS=>qX ?_,fun w0 Lf xT=>?_⟩
  ·rw [Bool.not_eq_true'] at w0
   rw [w0];rfl
  ·have w0:decide (ia (ia A B) C=((1:Int):Rat))=true:=by
    cases h:decide (ia (ia A B) C=((1:Int):Rat))
    ·rw [h] at w0;cases w0
    ·rfl
   rw [w0]
   exact ⟨_,rfl,⟨_,_,_,_,_,_,_,_,_,rfl⟩,fun _=>⟨_,_,_,_,_,_,_,_,_,rfl,ra.le (lz.trans xT),rb.le (lz.trans xT),rc.le (lz.trans xT)⟩⟩
def Mw:List Int->Int
 | []=>0
 | x::r=>if x=0 then Mw r else x
def ON (l:List Int):List Value:=l.map fun x=>Value.int .i64 x
theorem O0 {l:List Int}:Mw l=0↔∀x∈l,x=0:=by
 induction l with
 | nil=>simp [Mw]
 | cons x r ih=>
  simp only [Mw,List.mem_cons,forall_eq_or_imp]
  split
  ·rename_i h;simp [h,ih]
  ·rename_i h;simp [h]
theorem Ji {V:View}{p:OA}{n c:Nat}{l:List Int}(hl:n=l.length)(hs:V.sl p (ON l))(hm:l.length<=1099511627776) :
  ab prog 215 #[.slice p n c] V fun r V'=>r=.int .i64 (Mw l):=by
 refine IC p n c V _ ⟨fun z V'=>0<=z/\z<=n/\Mw l=Mw (l.drop z.toNat),fun z=>n-z.toNat,⟨0,by (try dsimp only);and_intros<;>first|exact True.intro|rfl,by (try dsimp only);omega,by (try dsimp only);omega,rfl⟩,?_⟩
 rintro i V1 l1 ⟨hi0,hi1,he⟩
 dsimp only at hi1 he ⊢
 obtain ⟨i,rfl⟩:=Int.eq_ofNat_of_zero_le hi0
 simp only [Int.toNat_natCast] at he
 refine ⟨by trivial,fun h3=>?_,fun h3 V3 l3=>?_⟩
 ·have h3:i<n:=by simpa using h3
  have hil:i<l.length:=by omega
  obtain ⟨ad,e1,hat⟩:=(l1.sl hs) i (.int .i64 l[i]) (by simp [ON,hil])
  rw [List.drop_eq_getElem_cons hil,Mw] at he
  refine ⟨by rw [e1];rfl,⟨by omega,by omega⟩,l[i],⟨ad.add i,by rw [e1];simp [ah],hat⟩,fun h4 V2 l2=>?_,fun h4=>?_⟩
  ·have h4:l[i]≠0:=by simpa using h4
   rw [if_neg h4] at he
   rw [he]
  ·have h4:l[i]=0:=by simpa using h4
   rw [if_pos h4] at he
   have w:i64.wrap ((i:Int)+1)=((i+1:Nat):Int):=by rw [aB (by omega)];omega
   simp only [w]
   refine ⟨((i+1:Nat):Int),?_,by (try dsimp only);and_intros<;>first|exact True.intro|rfl,by (try dsimp only);omega,by (try dsimp only);omega,?_⟩
   ·(try dsimp only);omega
   ·exact he
 ·have h3:i=n:=by simp at h3;omega
  rw [List.drop_of_length_le (by omega)] at he
  rw [he];rfl
theorem HB {V:View}{v w:Value}{a b c a' b' c':Rat}(hx:xr V v a b c)(hy:xr V w a' b' c'){k m:Nat}(s1:Sz k a)(s2:Sz k b)(s3:Sz k c)(t1:Sz m a')(t2:Sz m b')(t3:Sz m c')(hk:k+m<1099511627776) :
  ab prog 183 #[v,w] V fun r V'=>r=.int .i64 (Mw [eR a a',eR b b',eR c c']):=by
 obtain ⟨x1,x2,p,y1,y2,q,z1,z2,r,rfl,h1,h2,h3⟩:=hx
 obtain ⟨x3,x4,p',y3,y4,q',z3,z4,r',rfl,g1,g2,g3⟩:=hy
 refine yl _ _ _ _ _ _ _ _ _ _ _ _ _ _ _ _ _ _ V _ fun V1 l1=>(kG (h1.le l1) (g1.le l1) s1 t1 hk).mono ?_
 rintro r V2 l2 rfl
 refine ⟨_,rfl,fun V3 l3=>(kG (h2.le (l1.trans (l2.trans l3))) (g2.le (l1.trans (l2.trans l3))) s2 t2 hk).mono ?_⟩
 rintro r V4 l4 rfl
 have IU:=l1.trans (l2.trans (l3.trans l4))
 refine ⟨_,rfl,fun V5 l5=>(kG (h3.le (IU.trans l5)) (g3.le (IU.trans l5)) s3 t3 hk).mono ?_⟩
 rintro r V6 l6 rfl
 refine ⟨_,rfl,fun V7 l7 bk hb=>(Ji (l:=[eR a a',eR b b',eR c c']) rfl (fun i v hv=>⟨_,rfl,by rw [add_zero'];exact eH (xs:=ON [eR a a',eR b b',eR c c']) hb hv⟩) (by simp)).mono ?_⟩
 rintro r V8 l8 rfl
 exact ⟨_,rfl,fun _ V9 l9=>rfl⟩
theorem Cr {V:View}{v w:Value}{a b c a' b' c':Rat}(hx:xr V v a b c)(hy:xr V w a' b' c'){k m:Nat}(s1:Sz k a)(s2:Sz k b)(s3:Sz k c)(t1:Sz m a')(t2:Sz m b')(t3:Sz m c')(hk:k+m<1099511627776) :
  ab prog 134 #[v,w] V fun r V'=>r=.bool (decide (a=a'/\b=b'/\c=c')):=by
 have hx0:=hx
 have hy0:=hy
 obtain ⟨x1,x2,p,y1,y2,q,z1,z2,r,rfl,-,-,-⟩:=hx
 obtain ⟨x3,x4,p',y3,y4,q',z3,z4,r',rfl,-,-,-⟩:=hy
 refine tv _ _ _ _ _ _ _ _ _ _ _ _ _ _ _ _ _ _ V _ fun V1 l1=>(HB (hx0.le l1) (hy0.le l1) s1 s2 s3 t1 t2 t3 hk).mono ?_
 rintro r V2 l2 rfl
 refine ⟨_,rfl,fun V3 l3=>?_⟩
 congr 1
 rw [Bool.eq_iff_iff,decide_eq_true_eq,beq_iff_eq,O0]
 simp [←mW]
def nG (V:View)(v:Value)(x y:Rat):Prop:=∃(x1 x2:Int)(p:OA)(y1 y2:Int)(q:OA),v=.agg #[.int .i64 x1,.int .i64 x2,.pointer p,.int .i64 y1,.int .i64 y2,.pointer q] /\
 RR V (.agg #[.int .i64 x1,.int .i64 x2,.pointer p]) x/\RR V (.agg #[.int .i64 y1,.int .i64 y2,.pointer q]) y
theorem nG.le {V V':View}{v:Value}{x y:Rat}(h:nG V v x y)(l:V.Le V'):nG V' v x y:=by
 obtain ⟨x1,x2,p,y1,y2,q,e,h1,h2⟩:=h
 exact ⟨x1,x2,p,y1,y2,q,e,h1.le l,h2.le l⟩
theorem AD {V:View}{p:Value}{cS cU:Rat}{q:Value}{jA jB:Rat}(hp:nG V p cS cU)(hq:nG V q jA jB){k:Nat}(dB:Sz k cS)(dC:Sz k cU)(jQ:Sz k jA)(jR:Sz k jB)(hk:2*k+1<274877906944) :
  ab prog 149 #[p,q] V fun r V'=>nG V' r ((cS)+(jA)) ((cU)+(jB)):=by
 have hp0:=hp
 obtain ⟨p0,p1,p2,p3,p4,p5,rfl,qU,qV⟩:=hp
 have hq0:=hq
 obtain ⟨q0,q1,q2,q3,q4,q5,rfl,Fe,Ff⟩:=hq
 refine yw p0 p1 p2 p3 p4 p5 q0 q1 q2 q3 q4 q5 V _ fun V1 l1=>(jm (qU.le (l1)) (Fe.le (l1)) dB jQ (by omega)).mono ?_
 rintro r V2 l2 g1
 have g10:=g1
 obtain ⟨Pk,Pm,Pn,rfl⟩:=g1.shape
 have aW:Sz (2*k+1) ((cS)+(jA)):=Sz.mono (Sz.add dB jQ) (by omega)
 refine ⟨_,_,_,rfl,fun V3 l3=>(jm (qV.le (l1.trans (l2.trans (l3)))) (Ff.le (l1.trans (l2.trans (l3)))) dC jR (by omega)).mono ?_⟩
 rintro r V4 l4 g2
 have g20:=g2
 obtain ⟨Lo,Lp,Lq,rfl⟩:=g2.shape
 have bF:Sz (2*k+1) ((cU)+(jB)):=Sz.mono (Sz.add dC jR) (by omega)
 exact ⟨_,_,_,rfl,fun V5 l5=>⟨_,_,_,_,_,_,rfl,(g10.le (l3.trans (l4.trans (l5)))),(g20.le (l5))⟩⟩
theorem jf {cS cU jA jB:Rat}{k:Nat}(dB:Sz k cS)(dC:Sz k cU)(jQ:Sz k jA)(jR:Sz k jB):Sz (2*k+1) ((cS)+(jA)):=by
 have aW:Sz (2*k+1) ((cS)+(jA)):=Sz.mono (Sz.add dB jQ) (by omega)
 have bF:Sz (2*k+1) ((cU)+(jB)):=Sz.mono (Sz.add dC jR) (by omega)
 exact Sz.mono aW (by omega)
theorem jg {cS cU jA jB:Rat}{k:Nat}(dB:Sz k cS)(dC:Sz k cU)(jQ:Sz k jA)(jR:Sz k jB):Sz (2*k+1) ((cU)+(jB)):=by
 have aW:Sz (2*k+1) ((cS)+(jA)):=Sz.mono (Sz.add dB jQ) (by omega)
 have bF:Sz (2*k+1) ((cU)+(jB)):=Sz.mono (Sz.add dC jR) (by omega)
 exact Sz.mono bF (by omega)
theorem lY {V:View}{p:Value}{cS cU:Rat}{c:Value}{Ew:Rat}(hp:nG V p cS cU)(hc:RR V c Ew){k:Nat}(dB:Sz k cS)(dC:Sz k cU)(xX:Sz k Ew)(hk:2*k+1<274877906944) :
  ab prog 150 #[p,c] V fun r V'=>nG V' r ((cS)*(Ew)) ((cU)*(Ew)):=by
 have hp0:=hp
 obtain ⟨p0,p1,p2,p3,p4,p5,rfl,qU,qV⟩:=hp
 have hc0:=hc
 obtain ⟨c0,c1,c2,rfl⟩:=hc.shape
 refine tB p0 p1 p2 p3 p4 p5 c0 c1 c2 V _ fun V1 l1=>(fa (qU.le (l1)) (hc0.le (l1)) dB xX (by omega)).mono ?_
 rintro r V2 l2 g1
 have g10:=g1
 obtain ⟨Pk,Pm,Pn,rfl⟩:=g1.shape
 have aW:Sz (2*k+1) ((cS)*(Ew)):=Sz.mono (Sz.mul dB xX) (by omega)
 refine ⟨_,_,_,rfl,fun V3 l3=>(fa (qV.le (l1.trans (l2.trans (l3)))) (hc0.le (l1.trans (l2.trans (l3)))) dC xX (by omega)).mono ?_⟩
 rintro r V4 l4 g2
 have g20:=g2
 obtain ⟨Lo,Lp,Lq,rfl⟩:=g2.shape
 have bF:Sz (2*k+1) ((cU)*(Ew)):=Sz.mono (Sz.mul dC xX) (by omega)
 exact ⟨_,_,_,rfl,fun V5 l5=>⟨_,_,_,_,_,_,rfl,(g10.le (l3.trans (l4.trans (l5)))),(g20.le (l5))⟩⟩
theorem cw {cS cU Ew:Rat}{k:Nat}(dB:Sz k cS)(dC:Sz k cU)(xX:Sz k Ew):Sz (2*k+1) ((cS)*(Ew)):=by
 have aW:Sz (2*k+1) ((cS)*(Ew)):=Sz.mono (Sz.mul dB xX) (by omega)
 have bF:Sz (2*k+1) ((cU)*(Ew)):=Sz.mono (Sz.mul dC xX) (by omega)
 exact Sz.mono aW (by omega)
theorem cx {cS cU Ew:Rat}{k:Nat}(dB:Sz k cS)(dC:Sz k cU)(xX:Sz k Ew):Sz (2*k+1) ((cU)*(Ew)):=by
 have aW:Sz (2*k+1) ((cS)*(Ew)):=Sz.mono (Sz.mul dB xX) (by omega)
 have bF:Sz (2*k+1) ((cU)*(Ew)):=Sz.mono (Sz.mul dC xX) (by omega)
 exact Sz.mono bF (by omega)
theorem kL {V:View}{p:Value}{cS cU:Rat}{q:Value}{jA jB:Rat}(hp:nG V p cS cU)(hq:nG V q jA jB){k:Nat}(dB:Sz k cS)(dC:Sz k cU)(jQ:Sz k jA)(jR:Sz k jB)(hk:4*k+3<274877906944) :
  ab prog 144 #[p,q] V fun r V'=>RR V' r (((cS)*(jA))+((cU)*(jB))):=by
 have hp0:=hp
 obtain ⟨p0,p1,p2,p3,p4,p5,rfl,qU,qV⟩:=hp
 have hq0:=hq
 obtain ⟨q0,q1,q2,q3,q4,q5,rfl,Fe,Ff⟩:=hq
 refine yx p0 p1 p2 p3 p4 p5 q0 q1 q2 q3 q4 q5 V _ fun V1 l1=>(fa (qU.le (l1)) (Fe.le (l1)) dB jQ (by omega)).mono ?_
 rintro r V2 l2 g1
 have g10:=g1
 obtain ⟨Pk,Pm,Pn,rfl⟩:=g1.shape
 have aW:Sz (2*k+1) ((cS)*(jA)):=Sz.mono (Sz.mul dB jQ) (by omega)
 refine ⟨_,_,_,rfl,fun V3 l3=>(fa (qV.le (l1.trans (l2.trans (l3)))) (Ff.le (l1.trans (l2.trans (l3)))) dC jR (by omega)).mono ?_⟩
 rintro r V4 l4 g2
 have g20:=g2
 obtain ⟨Lo,Lp,Lq,rfl⟩:=g2.shape
 have bF:Sz (2*k+1) ((cU)*(jB)):=Sz.mono (Sz.mul dC jR) (by omega)
 refine ⟨_,_,_,rfl,fun V5 l5=>(jm (g10.le (l3.trans (l4.trans (l5)))) (g20.le (l5)) aW bF (by omega)).mono ?_⟩
 rintro r V6 l6 g3
 have kD:=g3
 obtain ⟨NU,NV,NW,rfl⟩:=g3.shape
 have cE:Sz (4*k+3) (((cS)*(jA))+((cU)*(jB))):=Sz.mono (Sz.add aW bF) (by omega)
 exact ⟨_,_,_,rfl,fun V7 l7=>(kD.le (l7))⟩
theorem dm {cS cU jA jB:Rat}{k:Nat}(dB:Sz k cS)(dC:Sz k cU)(jQ:Sz k jA)(jR:Sz k jB):Sz (4*k+3) (((cS)*(jA))+((cU)*(jB))):=by
 have aW:Sz (2*k+1) ((cS)*(jA)):=Sz.mono (Sz.mul dB jQ) (by omega)
 have bF:Sz (2*k+1) ((cU)*(jB)):=Sz.mono (Sz.mul dC jR) (by omega)
 have cE:Sz (4*k+3) (((cS)*(jA))+((cU)*(jB))):=Sz.mono (Sz.add aW bF) (by omega)
 exact Sz.mono cE (by omega)
theorem fL {V:View}{p:Value}{cS cU:Rat}{q:Value}{jA jB:Rat}(hp:nG V p cS cU)(hq:nG V q jA jB){k:Nat}(dB:Sz k cS)(dC:Sz k cU)(jQ:Sz k jA)(jR:Sz k jB)(hk:4*k+3<274877906944) :
  ab prog 136 #[p,q] V fun r V'=>RR V' r (((cS)*(jB))-((cU)*(jA))):=by
 have hp0:=hp
 obtain ⟨p0,p1,p2,p3,p4,p5,rfl,qU,qV⟩:=hp
 have hq0:=hq
 obtain ⟨q0,q1,q2,q3,q4,q5,rfl,Fe,Ff⟩:=hq
 refine tA p0 p1 p2 p3 p4 p5 q0 q1 q2 q3 q4 q5 V _ fun V1 l1=>(fa (qU.le (l1)) (Ff.le (l1)) dB jR (by omega)).mono ?_
 rintro r V2 l2 g1
 have g10:=g1
 obtain ⟨Pk,Pm,Pn,rfl⟩:=g1.shape
 have aW:Sz (2*k+1) ((cS)*(jB)):=Sz.mono (Sz.mul dB jR) (by omega)
 refine ⟨_,_,_,rfl,fun V3 l3=>(fa (qV.le (l1.trans (l2.trans (l3)))) (Fe.le (l1.trans (l2.trans (l3)))) dC jQ (by omega)).mono ?_⟩
 rintro r V4 l4 g2
 have g20:=g2
 obtain ⟨Lo,Lp,Lq,rfl⟩:=g2.shape
 have bF:Sz (2*k+1) ((cU)*(jA)):=Sz.mono (Sz.mul dC jQ) (by omega)
 refine ⟨_,_,_,rfl,fun V5 l5=>(oX (g10.le (l3.trans (l4.trans (l5)))) (g20.le (l5)) aW bF (by omega)).mono ?_⟩
 rintro r V6 l6 g3
 have kD:=g3
 obtain ⟨NU,NV,NW,rfl⟩:=g3.shape
 have cE:Sz (4*k+3) (((cS)*(jB))-((cU)*(jA))):=Sz.mono (Sz.sub aW bF) (by omega)
 exact ⟨_,_,_,rfl,fun V7 l7=>(kD.le (l7))⟩
theorem kC {cS cU jA jB:Rat}{k:Nat}(dB:Sz k cS)(dC:Sz k cU)(jQ:Sz k jA)(jR:Sz k jB):Sz (4*k+3) (((cS)*(jB))-((cU)*(jA))):=by
 have aW:Sz (2*k+1) ((cS)*(jB)):=Sz.mono (Sz.mul dB jR) (by omega)
 have bF:Sz (2*k+1) ((cU)*(jA)):=Sz.mono (Sz.mul dC jQ) (by omega)
 have cE:Sz (4*k+3) (((cS)*(jB))-((cU)*(jA))):=Sz.mono (Sz.sub aW bF) (by omega)
 exact Sz.mono cE (by omega)
theorem kK {V:View}{l:Value}{aA l_1 bH:Rat}(hl:xr V l aA l_1 bH){k:Nat}(bj:Sz k aA)(br:Sz k l_1)(bo:Sz k bH)(hk:1*k+1<274877906944) :
  ab prog 135 #[l] V fun r V'=>nG V' r (l_1) (-(aA)):=by
 have hl0:=hl
 obtain ⟨l0,l1,l2,l3,l4,l5,l6,l7,l8,rfl,pE,pF,qT⟩:=hl
 refine yr l0 l1 l2 l3 l4 l5 l6 l7 l8 V _ fun V1 l1=>(oV (pE.le (l1)) bj (by omega)).mono ?_
 rintro r V2 l2 g1
 have g10:=g1
 obtain ⟨Pk,Pm,Pn,rfl⟩:=g1.shape
 have aW:Sz (1*k+0) (-(aA)):=Sz.mono (Sz.neg bj) (by omega)
 exact ⟨_,_,_,rfl,fun V3 l3=>⟨_,_,_,_,_,_,rfl,(pF.le (l1.trans (l2.trans (l3)))),(g10.le (l3))⟩⟩
theorem jd {aA l_1 bH:Rat}{k:Nat}(bj:Sz k aA)(br:Sz k l_1)(bo:Sz k bH):Sz (1*k+0) (l_1):=by
 have aW:Sz (1*k+0) (-(aA)):=Sz.mono (Sz.neg bj) (by omega)
 exact Sz.mono br (by omega)
theorem je {aA l_1 bH:Rat}{k:Nat}(bj:Sz k aA)(br:Sz k l_1)(bo:Sz k bH):Sz (1*k+0) (-(aA)):=by
 have aW:Sz (1*k+0) (-(aA)):=Sz.mono (Sz.neg bj) (by omega)
 exact Sz.mono aW (by omega)
theorem dF {V:View}{l:Value}{aA l_1 bH:Rat}(hl:xr V l aA l_1 bH){k:Nat}(bj:Sz k aA)(br:Sz k l_1)(bo:Sz k bH)(hk:1*k+1<274877906944) :
  ab prog 142 #[l] V fun r V'=>nG V' r (aA) (l_1):=by
 have hl0:=hl
 obtain ⟨l0,l1,l2,l3,l4,l5,l6,l7,l8,rfl,pE,pF,qT⟩:=hl
 exact rD l0 l1 l2 l3 l4 l5 l6 l7 l8 V _ fun V1 l1=>⟨_,_,_,_,_,_,rfl,(pE.le (l1)),(pF.le (l1))⟩
theorem cP {aA l_1 bH:Rat}{k:Nat}(bj:Sz k aA)(br:Sz k l_1)(bo:Sz k bH):Sz (1*k+0) (aA):=by
 exact Sz.mono bj (by omega)
theorem cQ {aA l_1 bH:Rat}{k:Nat}(bj:Sz k aA)(br:Sz k l_1)(bo:Sz k bH):Sz (1*k+0) (l_1):=by
 exact Sz.mono br (by omega)
theorem lX {V:View}{l:Value}{aA l_1 bH:Rat}{p:Value}{cS cU:Rat}(hl:xr V l aA l_1 bH)(hp:nG V p cS cU){k:Nat}(bj:Sz k aA)(br:Sz k l_1)(bo:Sz k bH)(dB:Sz k cS)(dC:Sz k cU)(hk:5*k+4<274877906944) :
  ab prog 146 #[l,p] V fun r V'=>RR V' r ((((aA)*(cS))+((l_1)*(cU)))+(bH)):=by
 have hl0:=hl
 obtain ⟨l0,l1,l2,l3,l4,l5,l6,l7,l8,rfl,pE,pF,qT⟩:=hl
 have hp0:=hp
 obtain ⟨p0,p1,p2,p3,p4,p5,rfl,qU,qV⟩:=hp
 refine tz l0 l1 l2 l3 l4 l5 l6 l7 l8 p0 p1 p2 p3 p4 p5 V _ fun V1 l1=>(dF (hl0.le (l1)) (Sz.mono bj (by omega):Sz (1*k+0) _) (Sz.mono br (by omega):Sz (1*k+0) _) (Sz.mono bo (by omega):Sz (1*k+0) _) (by omega)).mono ?_
 rintro r V2 l2 g1
 have g10:=g1
 obtain ⟨K5,K6,K7,K8,K9,K_,rfl,Jy,Jz⟩:=g1
 have aW:Sz (1*k+0) (aA):=Sz.mono ((cP (Sz.mono bj (by omega):Sz (1*k+0) _) (Sz.mono br (by omega):Sz (1*k+0) _) (Sz.mono bo (by omega):Sz (1*k+0) _))) (by omega)
 have bU:Sz (1*k+0) (l_1):=Sz.mono ((cQ (Sz.mono bj (by omega):Sz (1*k+0) _) (Sz.mono br (by omega):Sz (1*k+0) _) (Sz.mono bo (by omega):Sz (1*k+0) _))) (by omega)
 refine ⟨_,_,_,_,_,_,rfl,fun V3 l3=>(kL (g10.le (l3)) (hp0.le (l1.trans (l2.trans (l3)))) (Sz.mono aW (by omega):Sz (1*k+0) _) (Sz.mono bU (by omega):Sz (1*k+0) _) (Sz.mono dB (by omega):Sz (1*k+0) _) (Sz.mono dC (by omega):Sz (1*k+0) _) (by omega)).mono ?_⟩
 rintro r V4 l4 g2
 have g20:=g2
 obtain ⟨Lo,Lp,Lq,rfl⟩:=g2.shape
 have bF:Sz (4*k+3) (((aA)*(cS))+((l_1)*(cU))):=Sz.mono ((dm (Sz.mono aW (by omega):Sz (1*k+0) _) (Sz.mono bU (by omega):Sz (1*k+0) _) (Sz.mono dB (by omega):Sz (1*k+0) _) (Sz.mono dC (by omega):Sz (1*k+0) _))) (by omega)
 refine ⟨_,_,_,rfl,fun V5 l5=>(jm (g20.le (l5)) (qT.le (l1.trans (l2.trans (l3.trans (l4.trans (l5)))))) bF bo (by omega)).mono ?_⟩
 rintro r V6 l6 g3
 have kD:=g3
 obtain ⟨NU,NV,NW,rfl⟩:=g3.shape
 have cE:Sz (5*k+4) ((((aA)*(cS))+((l_1)*(cU)))+(bH)):=Sz.mono (Sz.add bF bo) (by omega)
 exact ⟨_,_,_,rfl,fun V7 l7=>(kD.le (l7))⟩
theorem kB {aA l_1 bH cS cU:Rat}{k:Nat}(bj:Sz k aA)(br:Sz k l_1)(bo:Sz k bH)(dB:Sz k cS)(dC:Sz k cU):Sz (5*k+4) ((((aA)*(cS))+((l_1)*(cU)))+(bH)):=by
 have aW:Sz (1*k+0) (aA):=Sz.mono ((cP (Sz.mono bj (by omega):Sz (1*k+0) _) (Sz.mono br (by omega):Sz (1*k+0) _) (Sz.mono bo (by omega):Sz (1*k+0) _))) (by omega)
 have bU:Sz (1*k+0) (l_1):=Sz.mono ((cQ (Sz.mono bj (by omega):Sz (1*k+0) _) (Sz.mono br (by omega):Sz (1*k+0) _) (Sz.mono bo (by omega):Sz (1*k+0) _))) (by omega)
 have bF:Sz (4*k+3) (((aA)*(cS))+((l_1)*(cU))):=Sz.mono ((dm (Sz.mono aW (by omega):Sz (1*k+0) _) (Sz.mono bU (by omega):Sz (1*k+0) _) (Sz.mono dB (by omega):Sz (1*k+0) _) (Sz.mono dC (by omega):Sz (1*k+0) _))) (by omega)
 have cE:Sz (5*k+4) ((((aA)*(cS))+((l_1)*(cU)))+(bH)):=Sz.mono (Sz.add bF bo) (by omega)
 exact Sz.mono cE (by omega)
theorem nJ {V:View}{l:Value}{aA l_1 bH:Rat}(hl:xr V l aA l_1 bH){k:Nat}(bj:Sz k aA)(br:Sz k l_1)(bo:Sz k bH)(hk:10*k+9<274877906944) :
  ab prog 180 #[l] V fun r V'=>nG V' r ((aA)*(((-(bH))*(((aA)*(aA))+((l_1)*(l_1)))⁻¹))) ((l_1)*(((-(bH))*(((aA)*(aA))+((l_1)*(l_1)))⁻¹))):=by
 have hl0:=hl
 obtain ⟨l0,l1,l2,l3,l4,l5,l6,l7,l8,rfl,pE,pF,qT⟩:=hl
 refine wE l0 l1 l2 l3 l4 l5 l6 l7 l8 V _ fun V1 l1=>(dF (hl0.le (l1)) (Sz.mono bj (by omega):Sz (1*k+0) _) (Sz.mono br (by omega):Sz (1*k+0) _) (Sz.mono bo (by omega):Sz (1*k+0) _) (by omega)).mono ?_
 rintro r V2 l2 g1
 have g10:=g1
 obtain ⟨K5,K6,K7,K8,K9,K_,rfl,Jy,Jz⟩:=g1
 have aW:Sz (1*k+0) (aA):=Sz.mono ((cP (Sz.mono bj (by omega):Sz (1*k+0) _) (Sz.mono br (by omega):Sz (1*k+0) _) (Sz.mono bo (by omega):Sz (1*k+0) _))) (by omega)
 have bU:Sz (1*k+0) (l_1):=Sz.mono ((cQ (Sz.mono bj (by omega):Sz (1*k+0) _) (Sz.mono br (by omega):Sz (1*k+0) _) (Sz.mono bo (by omega):Sz (1*k+0) _))) (by omega)
 refine ⟨_,_,_,_,_,_,rfl,fun V3 l3=>(oV (qT.le (l1.trans (l2.trans (l3)))) bo (by omega)).mono ?_⟩
 rintro r V4 l4 g2
 have g20:=g2
 obtain ⟨Lo,Lp,Lq,rfl⟩:=g2.shape
 have bF:Sz (1*k+0) (-(bH)):=Sz.mono (Sz.neg bo) (by omega)
 refine ⟨_,_,_,rfl,fun V5 l5=>(kL (g10.le (l3.trans (l4.trans (l5)))) (g10.le (l3.trans (l4.trans (l5)))) (Sz.mono aW (by omega):Sz (1*k+0) _) (Sz.mono bU (by omega):Sz (1*k+0) _) (Sz.mono aW (by omega):Sz (1*k+0) _) (Sz.mono bU (by omega):Sz (1*k+0) _) (by omega)).mono ?_⟩
 rintro r V6 l6 g3
 have kD:=g3
 obtain ⟨NU,NV,NW,rfl⟩:=g3.shape
 have cE:Sz (4*k+3) (((aA)*(aA))+((l_1)*(l_1))):=Sz.mono ((dm (Sz.mono aW (by omega):Sz (1*k+0) _) (Sz.mono bU (by omega):Sz (1*k+0) _) (Sz.mono aW (by omega):Sz (1*k+0) _) (Sz.mono bU (by omega):Sz (1*k+0) _))) (by omega)
 refine ⟨_,_,_,rfl,fun V7 l7=>(oW (g20.le (l5.trans (l6.trans (l7)))) (kD.le (l7)) bF cE (by omega)).mono ?_⟩
 rintro r V8 l8 g4
 have E6:=g4
 obtain ⟨Wi,Wj,Wk,rfl⟩:=g4.shape
 have iF:Sz (5*k+4) ((-(bH))*(((aA)*(aA))+((l_1)*(l_1)))⁻¹):=Sz.mono (Sz.mul bF (cY cE)) (by omega)
 refine ⟨_,_,_,rfl,fun V9 l9=>(lY (g10.le (l3.trans (l4.trans (l5.trans (l6.trans (l7.trans (l8.trans (l9)))))))) (E6.le (l9)) (Sz.mono aW (by omega):Sz (5*k+4) _) (Sz.mono bU (by omega):Sz (5*k+4) _) (Sz.mono iF (by omega):Sz (5*k+4) _) (by omega)).mono ?_⟩
 rintro r jG l10 g5
 have JA:=g5
 obtain ⟨w4_0,w4_1,w4_2,w4_3,w4_4,w4_5,rfl,TJ,TL⟩:=g5
 have mO:Sz (10*k+9) ((aA)*(((-(bH))*(((aA)*(aA))+((l_1)*(l_1)))⁻¹))):=Sz.mono ((cw (Sz.mono aW (by omega):Sz (5*k+4) _) (Sz.mono bU (by omega):Sz (5*k+4) _) (Sz.mono iF (by omega):Sz (5*k+4) _))) (by omega)
 have Ps:Sz (10*k+9) ((l_1)*(((-(bH))*(((aA)*(aA))+((l_1)*(l_1)))⁻¹))):=Sz.mono ((cx (Sz.mono aW (by omega):Sz (5*k+4) _) (Sz.mono bU (by omega):Sz (5*k+4) _) (Sz.mono iF (by omega):Sz (5*k+4) _))) (by omega)
 exact ⟨_,_,_,_,_,_,rfl,fun jZ bI=>⟨_,_,_,_,_,_,rfl,(TJ.le (bI)),(TL.le (bI))⟩⟩
theorem dI {aA l_1 bH:Rat}{k:Nat}(bj:Sz k aA)(br:Sz k l_1)(bo:Sz k bH):Sz (10*k+9) ((aA)*(((-(bH))*(((aA)*(aA))+((l_1)*(l_1)))⁻¹))):=by
 have aW:Sz (1*k+0) (aA):=Sz.mono ((cP (Sz.mono bj (by omega):Sz (1*k+0) _) (Sz.mono br (by omega):Sz (1*k+0) _) (Sz.mono bo (by omega):Sz (1*k+0) _))) (by omega)
 have bU:Sz (1*k+0) (l_1):=Sz.mono ((cQ (Sz.mono bj (by omega):Sz (1*k+0) _) (Sz.mono br (by omega):Sz (1*k+0) _) (Sz.mono bo (by omega):Sz (1*k+0) _))) (by omega)
 have bF:Sz (1*k+0) (-(bH)):=Sz.mono (Sz.neg bo) (by omega)
 have cE:Sz (4*k+3) (((aA)*(aA))+((l_1)*(l_1))):=Sz.mono ((dm (Sz.mono aW (by omega):Sz (1*k+0) _) (Sz.mono bU (by omega):Sz (1*k+0) _) (Sz.mono aW (by omega):Sz (1*k+0) _) (Sz.mono bU (by omega):Sz (1*k+0) _))) (by omega)
 have iF:Sz (5*k+4) ((-(bH))*(((aA)*(aA))+((l_1)*(l_1)))⁻¹):=Sz.mono (Sz.mul bF (cY cE)) (by omega)
 have mO:Sz (10*k+9) ((aA)*(((-(bH))*(((aA)*(aA))+((l_1)*(l_1)))⁻¹))):=Sz.mono ((cw (Sz.mono aW (by omega):Sz (5*k+4) _) (Sz.mono bU (by omega):Sz (5*k+4) _) (Sz.mono iF (by omega):Sz (5*k+4) _))) (by omega)
 have Ps:Sz (10*k+9) ((l_1)*(((-(bH))*(((aA)*(aA))+((l_1)*(l_1)))⁻¹))):=Sz.mono ((cx (Sz.mono aW (by omega):Sz (5*k+4) _) (Sz.mono bU (by omega):Sz (5*k+4) _) (Sz.mono iF (by omega):Sz (5*k+4) _))) (by omega)
 exact Sz.mono mO (by omega)
theorem dJ {aA l_1 bH:Rat}{k:Nat}(bj:Sz k aA)(br:Sz k l_1)(bo:Sz k bH):Sz (10*k+9) ((l_1)*(((-(bH))*(((aA)*(aA))+((l_1)*(l_1)))⁻¹))):=by
 have aW:Sz (1*k+0) (aA):=Sz.mono ((cP (Sz.mono bj (by omega):Sz (1*k+0) _) (Sz.mono br (by omega):Sz (1*k+0) _) (Sz.mono bo (by omega):Sz (1*k+0) _))) (by omega)
 have bU:Sz (1*k+0) (l_1):=Sz.mono ((cQ (Sz.mono bj (by omega):Sz (1*k+0) _) (Sz.mono br (by omega):Sz (1*k+0) _) (Sz.mono bo (by omega):Sz (1*k+0) _))) (by omega)
 have bF:Sz (1*k+0) (-(bH)):=Sz.mono (Sz.neg bo) (by omega)
 have cE:Sz (4*k+3) (((aA)*(aA))+((l_1)*(l_1))):=Sz.mono ((dm (Sz.mono aW (by omega):Sz (1*k+0) _) (Sz.mono bU (by omega):Sz (1*k+0) _) (Sz.mono aW (by omega):Sz (1*k+0) _) (Sz.mono bU (by omega):Sz (1*k+0) _))) (by omega)
 have iF:Sz (5*k+4) ((-(bH))*(((aA)*(aA))+((l_1)*(l_1)))⁻¹):=Sz.mono (Sz.mul bF (cY cE)) (by omega)
 have mO:Sz (10*k+9) ((aA)*(((-(bH))*(((aA)*(aA))+((l_1)*(l_1)))⁻¹))):=Sz.mono ((cw (Sz.mono aW (by omega):Sz (5*k+4) _) (Sz.mono bU (by omega):Sz (5*k+4) _) (Sz.mono iF (by omega):Sz (5*k+4) _))) (by omega)
 have Ps:Sz (10*k+9) ((l_1)*(((-(bH))*(((aA)*(aA))+((l_1)*(l_1)))⁻¹))):=Sz.mono ((cx (Sz.mono aW (by omega):Sz (5*k+4) _) (Sz.mono bU (by omega):Sz (5*k+4) _) (Sz.mono iF (by omega):Sz (5*k+4) _))) (by omega)
 exact Sz.mono Ps (by omega)
theorem Ct {V:View}{l:Value}{aA l_1 bH:Rat}{t:Value}{qb:Rat}(hl:xr V l aA l_1 bH)(ht:RR V t qb){k:Nat}(bj:Sz k aA)(br:Sz k l_1)(bo:Sz k bH)(rj:Sz k qb)(hk:20*k+19<274877906944) :
  ab prog 132 #[l,t] V fun r V'=>nG V' r ((((aA)*(((-(bH))*(((aA)*(aA))+((l_1)*(l_1)))⁻¹))))+(((l_1)*(qb)))) ((((l_1)*(((-(bH))*(((aA)*(aA))+((l_1)*(l_1)))⁻¹))))+((((-(aA)))*(qb)))):=by
 have hl0:=hl
 obtain ⟨l0,l1,l2,l3,l4,l5,l6,l7,l8,rfl,pE,pF,qT⟩:=hl
 have ht0:=ht
 obtain ⟨t0,t1,t2,rfl⟩:=ht.shape
 refine BM l0 l1 l2 l3 l4 l5 l6 l7 l8 t0 t1 t2 V _ fun V1 l1=>(nJ (hl0.le (l1)) (Sz.mono bj (by omega):Sz (1*k+0) _) (Sz.mono br (by omega):Sz (1*k+0) _) (Sz.mono bo (by omega):Sz (1*k+0) _) (by omega)).mono ?_
 rintro r V2 l2 g1
 have g10:=g1
 obtain ⟨K5,K6,K7,K8,K9,K_,rfl,Jy,Jz⟩:=g1
 have aW:Sz (10*k+9) ((aA)*(((-(bH))*(((aA)*(aA))+((l_1)*(l_1)))⁻¹))):=Sz.mono ((dI (Sz.mono bj (by omega):Sz (1*k+0) _) (Sz.mono br (by omega):Sz (1*k+0) _) (Sz.mono bo (by omega):Sz (1*k+0) _))) (by omega)
 have bU:Sz (10*k+9) ((l_1)*(((-(bH))*(((aA)*(aA))+((l_1)*(l_1)))⁻¹))):=Sz.mono ((dJ (Sz.mono bj (by omega):Sz (1*k+0) _) (Sz.mono br (by omega):Sz (1*k+0) _) (Sz.mono bo (by omega):Sz (1*k+0) _))) (by omega)
 refine ⟨_,_,_,_,_,_,rfl,fun V3 l3=>(kK (hl0.le (l1.trans (l2.trans (l3)))) (Sz.mono bj (by omega):Sz (1*k+0) _) (Sz.mono br (by omega):Sz (1*k+0) _) (Sz.mono bo (by omega):Sz (1*k+0) _) (by omega)).mono ?_⟩
 rintro r V4 l4 g2
 have g20:=g2
 obtain ⟨VW,VX,VY,VZ,V_,Wa,rfl,TE,TF⟩:=g2
 have bF:Sz (1*k+0) (l_1):=Sz.mono ((jd (Sz.mono bj (by omega):Sz (1*k+0) _) (Sz.mono br (by omega):Sz (1*k+0) _) (Sz.mono bo (by omega):Sz (1*k+0) _))) (by omega)
 have tN:Sz (1*k+0) (-(aA)):=Sz.mono ((je (Sz.mono bj (by omega):Sz (1*k+0) _) (Sz.mono br (by omega):Sz (1*k+0) _) (Sz.mono bo (by omega):Sz (1*k+0) _))) (by omega)
 refine ⟨_,_,_,_,_,_,rfl,fun V5 l5=>(lY (g20.le (l5)) (ht0.le (l1.trans (l2.trans (l3.trans (l4.trans (l5)))))) (Sz.mono bF (by omega):Sz (1*k+0) _) (Sz.mono tN (by omega):Sz (1*k+0) _) (Sz.mono rj (by omega):Sz (1*k+0) _) (by omega)).mono ?_⟩
 rintro r V6 l6 g3
 have kD:=g3
 obtain ⟨Wb,Wc,We,Wf,Wg,Wh,rfl,Qp,Qq⟩:=g3
 have cE:Sz (2*k+1) ((l_1)*(qb)):=Sz.mono ((cw (Sz.mono bF (by omega):Sz (1*k+0) _) (Sz.mono tN (by omega):Sz (1*k+0) _) (Sz.mono rj (by omega):Sz (1*k+0) _))) (by omega)
 have yQ:Sz (2*k+1) (((-(aA)))*(qb)):=Sz.mono ((cx (Sz.mono bF (by omega):Sz (1*k+0) _) (Sz.mono tN (by omega):Sz (1*k+0) _) (Sz.mono rj (by omega):Sz (1*k+0) _))) (by omega)
 refine ⟨_,_,_,_,_,_,rfl,fun V7 l7=>(AD (g10.le (l3.trans (l4.trans (l5.trans (l6.trans (l7)))))) (kD.le (l7)) (Sz.mono aW (by omega):Sz (10*k+9) _) (Sz.mono bU (by omega):Sz (10*k+9) _) (Sz.mono cE (by omega):Sz (10*k+9) _) (Sz.mono yQ (by omega):Sz (10*k+9) _) (by omega)).mono ?_⟩
 rintro r V8 l8 g4
 have E6:=g4
 obtain ⟨w3_0,w3_1,w3_2,w3_3,w3_4,w3_5,rfl,TG,TH⟩:=g4
 have iF:Sz (20*k+19) ((((aA)*(((-(bH))*(((aA)*(aA))+((l_1)*(l_1)))⁻¹))))+(((l_1)*(qb)))):=Sz.mono ((jf (Sz.mono aW (by omega):Sz (10*k+9) _) (Sz.mono bU (by omega):Sz (10*k+9) _) (Sz.mono cE (by omega):Sz (10*k+9) _) (Sz.mono yQ (by omega):Sz (10*k+9) _))) (by omega)
 have Pr:Sz (20*k+19) ((((l_1)*(((-(bH))*(((aA)*(aA))+((l_1)*(l_1)))⁻¹))))+((((-(aA)))*(qb)))):=Sz.mono ((jg (Sz.mono aW (by omega):Sz (10*k+9) _) (Sz.mono bU (by omega):Sz (10*k+9) _) (Sz.mono cE (by omega):Sz (10*k+9) _) (Sz.mono yQ (by omega):Sz (10*k+9) _))) (by omega)
 exact ⟨_,_,_,_,_,_,rfl,fun V9 l9=>⟨_,_,_,_,_,_,rfl,(TG.le (l9)),(TH.le (l9))⟩⟩
theorem yR {aA l_1 bH qb:Rat}{k:Nat}(bj:Sz k aA)(br:Sz k l_1)(bo:Sz k bH)(rj:Sz k qb):Sz (20*k+19) ((((aA)*(((-(bH))*(((aA)*(aA))+((l_1)*(l_1)))⁻¹))))+(((l_1)*(qb)))):=by
 have aW:Sz (10*k+9) ((aA)*(((-(bH))*(((aA)*(aA))+((l_1)*(l_1)))⁻¹))):=Sz.mono ((dI (Sz.mono bj (by omega):Sz (1*k+0) _) (Sz.mono br (by omega):Sz (1*k+0) _) (Sz.mono bo (by omega):Sz (1*k+0) _))) (by omega)
 have bU:Sz (10*k+9) ((l_1)*(((-(bH))*(((aA)*(aA))+((l_1)*(l_1)))⁻¹))):=Sz.mono ((dJ (Sz.mono bj (by omega):Sz (1*k+0) _) (Sz.mono br (by omega):Sz (1*k+0) _) (Sz.mono bo (by omega):Sz (1*k+0) _))) (by omega)
 have bF:Sz (1*k+0) (l_1):=Sz.mono ((jd (Sz.mono bj (by omega):Sz (1*k+0) _) (Sz.mono br (by omega):Sz (1*k+0) _) (Sz.mono bo (by omega):Sz (1*k+0) _))) (by omega)
 have tN:Sz (1*k+0) (-(aA)):=Sz.mono ((je (Sz.mono bj (by omega):Sz (1*k+0) _) (Sz.mono br (by omega):Sz (1*k+0) _) (Sz.mono bo (by omega):Sz (1*k+0) _))) (by omega)
 have cE:Sz (2*k+1) ((l_1)*(qb)):=Sz.mono ((cw (Sz.mono bF (by omega):Sz (1*k+0) _) (Sz.mono tN (by omega):Sz (1*k+0) _) (Sz.mono rj (by omega):Sz (1*k+0) _))) (by omega)
 have yQ:Sz (2*k+1) (((-(aA)))*(qb)):=Sz.mono ((cx (Sz.mono bF (by omega):Sz (1*k+0) _) (Sz.mono tN (by omega):Sz (1*k+0) _) (Sz.mono rj (by omega):Sz (1*k+0) _))) (by omega)
 have iF:Sz (20*k+19) ((((aA)*(((-(bH))*(((aA)*(aA))+((l_1)*(l_1)))⁻¹))))+(((l_1)*(qb)))):=Sz.mono ((jf (Sz.mono aW (by omega):Sz (10*k+9) _) (Sz.mono bU (by omega):Sz (10*k+9) _) (Sz.mono cE (by omega):Sz (10*k+9) _) (Sz.mono yQ (by omega):Sz (10*k+9) _))) (by omega)
 have Pr:Sz (20*k+19) ((((l_1)*(((-(bH))*(((aA)*(aA))+((l_1)*(l_1)))⁻¹))))+((((-(aA)))*(qb)))):=Sz.mono ((jg (Sz.mono aW (by omega):Sz (10*k+9) _) (Sz.mono bU (by omega):Sz (10*k+9) _) (Sz.mono cE (by omega):Sz (10*k+9) _) (Sz.mono yQ (by omega):Sz (10*k+9) _))) (by omega)
 exact Sz.mono iF (by omega)
theorem yS {aA l_1 bH qb:Rat}{k:Nat}(bj:Sz k aA)(br:Sz k l_1)(bo:Sz k bH)(rj:Sz k qb):Sz (20*k+19) ((((l_1)*(((-(bH))*(((aA)*(aA))+((l_1)*(l_1)))⁻¹))))+((((-(aA)))*(qb)))):=by
 have aW:Sz (10*k+9) ((aA)*(((-(bH))*(((aA)*(aA))+((l_1)*(l_1)))⁻¹))):=Sz.mono ((dI (Sz.mono bj (by omega):Sz (1*k+0) _) (Sz.mono br (by omega):Sz (1*k+0) _) (Sz.mono bo (by omega):Sz (1*k+0) _))) (by omega)
 have bU:Sz (10*k+9) ((l_1)*(((-(bH))*(((aA)*(aA))+((l_1)*(l_1)))⁻¹))):=Sz.mono ((dJ (Sz.mono bj (by omega):Sz (1*k+0) _) (Sz.mono br (by omega):Sz (1*k+0) _) (Sz.mono bo (by omega):Sz (1*k+0) _))) (by omega)
 have bF:Sz (1*k+0) (l_1):=Sz.mono ((jd (Sz.mono bj (by omega):Sz (1*k+0) _) (Sz.mono br (by omega):Sz (1*k+0) _) (Sz.mono bo (by omega):Sz (1*k+0) _))) (by omega)
 have tN:Sz (1*k+0) (-(aA)):=Sz.mono ((je (Sz.mono bj (by omega):Sz (1*k+0) _) (Sz.mono br (by omega):Sz (1*k+0) _) (Sz.mono bo (by omega):Sz (1*k+0) _))) (by omega)
 have cE:Sz (2*k+1) ((l_1)*(qb)):=Sz.mono ((cw (Sz.mono bF (by omega):Sz (1*k+0) _) (Sz.mono tN (by omega):Sz (1*k+0) _) (Sz.mono rj (by omega):Sz (1*k+0) _))) (by omega)
 have yQ:Sz (2*k+1) (((-(aA)))*(qb)):=Sz.mono ((cx (Sz.mono bF (by omega):Sz (1*k+0) _) (Sz.mono tN (by omega):Sz (1*k+0) _) (Sz.mono rj (by omega):Sz (1*k+0) _))) (by omega)
 have iF:Sz (20*k+19) ((((aA)*(((-(bH))*(((aA)*(aA))+((l_1)*(l_1)))⁻¹))))+(((l_1)*(qb)))):=Sz.mono ((jf (Sz.mono aW (by omega):Sz (10*k+9) _) (Sz.mono bU (by omega):Sz (10*k+9) _) (Sz.mono cE (by omega):Sz (10*k+9) _) (Sz.mono yQ (by omega):Sz (10*k+9) _))) (by omega)
 have Pr:Sz (20*k+19) ((((l_1)*(((-(bH))*(((aA)*(aA))+((l_1)*(l_1)))⁻¹))))+((((-(aA)))*(qb)))):=Sz.mono ((jg (Sz.mono aW (by omega):Sz (10*k+9) _) (Sz.mono bU (by omega):Sz (10*k+9) _) (Sz.mono cE (by omega):Sz (10*k+9) _) (Sz.mono yQ (by omega):Sz (10*k+9) _))) (by omega)
 exact Sz.mono Pr (by omega)
theorem gC {V:View}{v w:Value}{x y:Rat}(hx:RQ V v x)(hy:RQ V w y)(hy0:y.num≠0){k m:Nat}(hk:Sz k x)(hm:Sz m y)(hkm:k+m<274877906944) :
  ab prog 158 #[v,w] V fun r V'=>RQ V' r (x*y⁻¹):=by
 obtain ⟨p,n,c,p',n',c',rfl,hx1,hx2⟩:=hx
 obtain ⟨q,i,e,q',i',e',rfl,hy1,hy2⟩:=hy
 have Uw:=cY hm
 have q1:=af hk.1
 have q2:=af hk.2
 have q3:=af hm.1
 have q4:=af Uw.1
 have iv:(y⁻¹).num=(if decide (y.num<0)=true then -((y.den:Nat):Int) else ((y.den:Nat):Int))/\(y⁻¹).den=y.num.natAbs:=by
  rcases Int.lt_or_gt_of_ne hy0 with h|h
  ·rw [if_pos (decide_eq_true h)];exact inv_neg h
  ·rw [if_neg (fun hh=>by have:=of_decide_eq_true hh;omega)];exact inv_pos h
 have hxy:x*y⁻¹=mkRat (x.num*(y⁻¹).num) (x.den*(y⁻¹).den):=Rat.mul_def' x y⁻¹
 have b1:(x.num*(y⁻¹).num).natAbs<2^(k+m):=by rw [Int.natAbs_mul];exact bJ hk.1 Uw.1
 have b2:x.den*(y⁻¹).den<2^(k+m):=bJ hk.2 Uw.2
 refine Ee _ p n c p' n' c' _ q i e q' i' e' V _ fun V1 l1=>(cJ y _ (hy2.le l1)).mono ?_
 rintro r V2 l2 ⟨p1,n1,c1,rfl,g1⟩
 refine ⟨_,_,_,rfl,fun V3 l3=>(dS _ (g1.le l3)).mono ?_⟩
 rw [←iv.1]
 rintro r V4 l4 ⟨p4,n4,c4,rfl,g4⟩
 refine ⟨_,_,_,_,rfl,fun V5 l5=>(ke x.num (y⁻¹).num (hx1.le (l1.trans (l2.trans (l3.trans (l4.trans l5))))) (g4.le l5) (by omega)).mono ?_⟩
 rintro r V6 l6 ⟨p6,n6,c6,rfl,g6⟩
 have QU:=l1.trans (l2.trans (l3.trans (l4.trans (l5.trans l6))))
 refine ⟨_,_,_,_,rfl,fun V7 l7=>(cJ x _ (hx2.le (QU.trans l7))).mono ?_⟩
 rintro r V8 l8 ⟨p8,n8,c8,rfl,g8⟩
 refine ⟨_,_,_,rfl,fun V9 l9=>(cq (g8.le l9) (hy1.le (QU.trans (l7.trans (l8.trans l9)))) (by omega)).mono ?_⟩
 rintro r jG l10 ⟨G5,n10,c10,rfl,g10⟩
 rw [ae,ae,←iv.2] at g10
 refine ⟨_,_,_,rfl,fun jZ bI=>(kO _ (g6.le (l7.trans (l8.trans (l9.trans (l10.trans bI))))) (g10.le bI) (Nat.le_trans (af b1) (by omega)) (Nat.le_trans (af b2) (by omega)) (Nat.mul_ne_zero x.den_nz (y⁻¹).den_nz)).mono ?_⟩
 rw [hxy]
 rintro r uj gF ⟨XY,n21,c21,XZ,n22,WY,rfl,g21,g22⟩
 exact ⟨_,_,_,_,_,_,_,rfl,fun xu gY=>⟨_,_,_,_,_,_,rfl,g21.le gY,g22.le gY⟩⟩
theorem HH {V:View}(z:Int){p:OA}{n c:Nat}(h:RD V p n c (ag z.natAbs)) :
  ab prog 156 #[.agg #[.bool (decide (z<0)),.slice p n c]] V fun r V'=>RQ V' r (z:Rat):=
 Gj _ p n c V _ fun V1 l1=>nP (z:=z) (d:=1) rfl rfl (h.le l1) RD.nil rfl
theorem RQ.ofNat {V:View}{p:OA}{n c x:Nat}(h:RN V p n c x){b:Bool}(hb:b=decide ((x:Int)<0)):RQ V (.agg #[.bool b,.slice p n c,.slice none 0 0]) ((x:Int):Rat):=
 nP (z:=(x:Int)) (d:=1) rfl rfl h RD.nil hb
theorem RQ.int {V:View}{q:Rat}{b:Bool}{p:OA}{n c:Nat}{p':OA}{n' c':Nat}(h:RQ V (.agg #[.bool b,.slice p n c,.slice p' n' c']) q):RI V (.agg #[.bool b,.slice p n c]) q.num:=by
 obtain ⟨p1,n1,c1,p2,n2,c2,e,h1,h2⟩:=h
 cases e
 exact ⟨_,_,_,rfl,h1⟩
theorem RQ.den {V:View}{q:Rat}{b:Bool}{p:OA}{n c:Nat}{p':OA}{n' c':Nat}(h:RQ V (.agg #[.bool b,.slice p n c,.slice p' n' c']) q):RD V p' n' c' (sQ q.den):=by
 obtain ⟨p1,n1,c1,p2,n2,c2,e,h1,h2⟩:=h
 cases e
 exact h2
def nD (px py qx qy:Rat):Rat×Rat×Rat:=
 let a:=-(qy-py);let b:=qx-px;let c:=-(a*px+b*py)
 let f:Rat:=(((a.den*b.den*c.den:Nat):Int):Rat)
 (a*f,b*f,c*f)
theorem Pg {n k:Nat}(h:n<2^k)(hk:0<k):Sz k (((n:Nat):Int):Rat):=by
 refine ⟨?_,?_⟩
 ·show ((n:Nat):Int).natAbs<_
  simpa using h
 ·show 1<2^k
  exact Nat.one_lt_two_pow (by omega)
theorem sP {V:View}{u w:Value}{px py qx qy:Rat}(hp:RP V u px py)(hq:RP V w qx qy){k:Nat}(s1:Sz k px)(s2:Sz k py)(s3:Sz k qx)(s4:Sz k qy)(hk1:1<=k)(hk:64*k+64<274877906944) :
  ab prog 11 #[u,w] V fun r V'=>((nD px py qx qy).1.num=0/\(nD px py qx qy).2.1.num=0->∃l,r=.tuple #[l,.bool false]/\RL V' l 0 0 0) /\
   (¬((nD px py qx qy).1.num=0/\(nD px py qx qy).2.1.num=0)->∃l,r=.tuple #[l,.bool true] /\
    RL V' l ((nD px py qx qy).1.num / (gW (nD px py qx qy).1.num (nD px py qx qy).2.1.num (nD px py qx qy).2.2.num:Int)) ((nD px py qx qy).2.1.num / (gW (nD px py qx qy).1.num (nD px py qx qy).2.1.num (nD px py qx qy).2.2.num:Int)) ((nD px py qx qy).2.2.num / (gW (nD px py qx qy).1.num (nD px py qx qy).2.1.num (nD px py qx qy).2.2.num:Int))):=by
 have hp0:=hp
 have hq0:=hq
 obtain ⟨p1,n1,c1,p2,n2,c2,p3,n3,c3,p4,n4,c4,rfl,hp1,hp2⟩:=hp
 obtain ⟨q1,m1,e1,q2,m2,e2,q3,m3,e3,q4,m4,e4,rfl,-,-⟩:=hq
 refine rH _ p1 n1 c1 p2 n2 c2 _ p3 n3 c3 p4 n4 c4 _ q1 m1 e1 q2 m2 e2 _ q3 m3 e3 q4 m4 e4 V _ fun V1 l1=>(Cx (hq0.le l1) (hp0.le l1) s3 s4 s1 s2 hk1 (by omega)).mono ?_
 rintro r V2 l2 ⟨a1,a2,a3,a4,a5,a6,a7,a8,a9,a10,a11,a12,rfl,hb,hd⟩
 have tb:Sz (k+k+1) (qx-px):=s3.sub s1
 have td:Sz (k+k+1) (qy-py):=s4.sub s2
 have JQ:=l1.trans l2
 refine ⟨_,_,_,_,_,_,_,_,_,_,_,_,_,_,rfl,fun V3 l3=>(kg (qy-py) (by obtain ⟨_,_,_,_,_,_,e,h1,h2⟩:=hd.le l3;cases e;exact h1) (RQ.den (hd.le l3))).mono ?_⟩
 rintro r V4 l4 ha
 obtain ⟨b1,b2,b3,b4,b5,b6,rfl⟩:=ha.shape
 have ta:=td.neg
 have UC:nD px py qx qy=(-(qy-py)*(((((-(qy-py)).den*(qx-px).den*(-(-(qy-py)*px+(qx-px)*py)).den:Nat):Int):Rat)),(qx-px)*(((((-(qy-py)).den*(qx-px).den*(-(-(qy-py)*px+(qx-px)*py)).den:Nat):Int):Rat)),(-(-(qy-py)*px+(qx-px)*py))*(((((-(qy-py)).den*(qx-px).den*(-(-(qy-py)*px+(qx-px)*py)).den:Nat):Int):Rat))):=rfl
 rw [UC]
 generalize -(qy-py)=A at *
 generalize qx-px=B at *
 replace hb:=hb.le (l3.trans l4)
 replace hp1:=hp1.le (JQ.trans (l3.trans l4))
 replace hp2:=hp2.le (JQ.trans (l3.trans l4))
 refine ⟨_,_,_,_,_,_,_,rfl,fun V5 l5=>(aM (ha.le l5) (hp1.le l5) ta s1 (by omega)).mono ?_⟩
 rintro r V6 l6 g6
 obtain ⟨d1,d2,d3,d4,d5,d6,rfl⟩:=g6.shape
 refine ⟨_,_,_,_,_,_,_,rfl,fun V7 l7=>(aM (hb.le (l5.trans (l6.trans l7))) (hp2.le (l5.trans (l6.trans l7))) tb s2 (by omega)).mono ?_⟩
 rintro r V8 l8 g8
 obtain ⟨f1,f2,f3,f4,f5,f6,rfl⟩:=g8.shape
 refine ⟨_,_,_,_,_,_,_,rfl,fun V9 l9=>(dz (g6.le (l7.trans (l8.trans l9))) (g8.le l9) (ta.mul s1) (tb.mul s2) (by omega)).mono ?_⟩
 rintro r jG l10 g10
 have tc:=((ta.mul s1).add (tb.mul s2)).neg
 obtain ⟨i1,i2,i3,i4,i5,i6,rfl⟩:=g10.shape
 refine ⟨_,_,_,_,_,_,_,rfl,fun jZ bI=>(kg (A*px+B*py) (by obtain ⟨_,_,_,_,_,_,e,h1,h2⟩:=g10.le bI;cases e;exact h1) (RQ.den (g10.le bI))).mono ?_⟩
 rintro r mQ bV hc
 generalize -(A*px+B*py)=C at *
 obtain ⟨j1,j2,j3,j4,j5,j6,rfl⟩:=hc.shape
 have Mg:=l5.trans (l6.trans (l7.trans (l8.trans (l9.trans (l10.trans (bI.trans bV))))))
 replace ha:=ha.le Mg
 replace hb:=hb.le Mg
 refine ⟨_,_,_,_,_,_,_,rfl,fun qv cC=>(cJ A _ (RQ.den (ha.le cC))).mono ?_⟩
 rintro r mS du ⟨k1,k2,k3,rfl,g14⟩
 refine ⟨_,_,_,rfl,fun lH dv=>(cJ B _ (RQ.den (hb.le (cC.trans (du.trans dv))))).mono ?_⟩
 rintro r lP cX ⟨k4,k5,k6,rfl,g16⟩
 obtain ⟨-,da,-⟩:=cu ta
 obtain ⟨-,db,-⟩:=cu tb
 obtain ⟨-,dc,-⟩:=cu tc
 refine ⟨_,_,_,rfl,fun mT c_=>(cq (g14.le (dv.trans (cX.trans c_))) (g16.le c_) (by omega)).mono ?_⟩
 rintro r qt cR ⟨k7,k8,k9,rfl,g18⟩
 rw [ae,ae] at g18
 refine ⟨_,_,_,rfl,fun rK dA=>(cJ C _ (RQ.den (hc.le (cC.trans (du.trans (dv.trans (cX.trans (c_.trans (cR.trans dA))))))))).mono ?_⟩
 rintro r yV fG ⟨k10,k11,k12,rfl,g20⟩
 have dab:=iq (a:=A.den) (b:=B.den)
 refine ⟨_,_,_,rfl,fun ui fv=>(cq (g18.le (dA.trans (fG.trans fv))) (g20.le fv) (by omega)).mono ?_⟩
 rintro r uj gF ⟨k13,k14,k15,rfl,g22⟩
 rw [ae,ae] at g22
 have tf:Sz (k+k+1+(k+k+1)+(k+k+1+k+1+(k+k+1+k+1)+1)) (((A.den*B.den*C.den:Nat):Int):Rat):=Pg (bJ (bJ ta.2 tb.2) tc.2) (by omega)
 generalize A.den*B.den*C.den=M at *
 refine ⟨_,_,_,rfl,fun xu gY=>(qF (g22.le gY)).mono ?_⟩
 rintro r Gp lN ⟨k16,k17,k18,rfl,g24⟩
 have hf:=RQ.ofNat g24 rfl
 have OQ:=cC.trans (du.trans (dv.trans (cX.trans (c_.trans (cR.trans (dA.trans (fG.trans (fv.trans (gF.trans (gY.trans lN))))))))))
 refine ⟨_,_,_,_,rfl,fun Gq lQ=>(aM (ha.le (OQ.trans lQ)) (hf.le lQ) ta tf (by omega)).mono ?_⟩
 rintro r IZ lE W9
 obtain ⟨o1,o2,o3,o4,o5,o6,rfl⟩:=W9.shape
 refine ⟨_,_,_,_,_,_,_,rfl,fun Ng lO=>(aM (hb.le (OQ.trans (lQ.trans (lE.trans lO)))) (hf.le (lQ.trans (lE.trans lO))) tb tf (by omega)).mono ?_⟩
 rintro r Nh tX W_
 obtain ⟨o7,o8,o9,o10,o11,o12,rfl⟩:=W_.shape
 refine ⟨_,_,_,_,_,_,_,rfl,fun Px xS=>(aM (hc.le (OQ.trans (lQ.trans (lE.trans (lO.trans (tX.trans xS)))))) (hf.le (lQ.trans (lE.trans (lO.trans (tX.trans xS))))) tc tf (by omega)).mono ?_⟩
 rintro r Lf xT kD
 obtain ⟨t1,t2,t3,t4,t5,t6,rfl⟩:=kD.shape
 refine ⟨_,_,_,_,_,_,_,rfl,fun PV C_=>(xE (RQ.int (W9.le (lO.trans (tX.trans (xS.trans (xT.trans C_)))))) (RQ.int (W_.le (xS.trans (xT.trans C_)))) (RQ.int (kD.le C_)) (Nat.le_trans (cu (ta.mul tf)).1 (by omega)) (Nat.le_trans (cu (tb.mul tf)).1 (by omega)) (Nat.le_trans (cu (tc.mul tf)).1 (by omega))).mono ?_⟩
 rintro r SD H5 ⟨z1,z2⟩
 by_cases hz:(A*((M:Int):Rat)).num=0/\(B*((M:Int):Rat)).num=0
 ·obtain ⟨l,rfl,y1,y2,y3,y4,y5,y6,y7,y8,y9,rfl,w1,w2,w3⟩:=z1 hz
  exact ⟨_,_,_,_,_,_,_,_,_,_,_,_,_,rfl,fun PX zV=>⟨fun _=>⟨_,rfl,_,_,_,_,_,_,_,_,_,rfl,w1.le zV,w2.le zV,w3.le zV⟩,fun h=>absurd hz h⟩⟩
 ·obtain ⟨l,rfl,y1,y2,y3,y4,y5,y6,y7,y8,y9,rfl,w1,w2,w3⟩:=z2 hz
  exact ⟨_,_,_,_,_,_,_,_,_,_,_,_,_,rfl,fun PX zV=>⟨fun h=>absurd h hz,fun _=>⟨_,rfl,_,_,_,_,_,_,_,_,_,rfl,w1.le zV,w2.le zV,w3.le zV⟩⟩⟩
end Go.Proofs.Tryz
