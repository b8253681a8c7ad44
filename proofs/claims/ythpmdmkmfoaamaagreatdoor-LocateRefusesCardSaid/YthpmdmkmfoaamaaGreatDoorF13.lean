import Derived.Test.YthpmdmkmfoaamaaGreatDoorF12
import Derived.Test.YthpmdmkmfoaamaaGreatDoorF7
import Derived.Test.YthpmdmkmfoaamaaGreatDoorF11
import Derived.Test.YthpmdmkmfoaamaaGreatDoorF5
set_option linter.unusedVariables false
open Go.IntKind (i64 u64 u32)
namespace Go.Proofs.Tryz
open Go.bz Go.eM
theorem cd {V:View}(b:Bool){p:OA}{n c x:Nat}(h:RN V p n c x) :
  ab prog 76 #[.bool b,.slice p n c] V fun r V'=>RI V' r (if b then -(x:Int) else x):=by
 have hp:=eZ h.len
 refine B2 b p n c V _ ⟨fun h0 V1 l1=>?_,fun h0 V1 l1=>?_⟩
 ·rw [if_pos h0]
  refine RI.mk ?_ ?_
  ·rw [Bool.eq_iff_iff,decide_eq_true_eq,decide_eq_true_eq]
   omega
  ·rw [Int.natAbs_neg,Int.natAbs_natCast];exact h.le l1
 ·rw [h0,if_neg (by decide)]
  refine RI.mk ?_ ?_
  ·symm;rw [decide_eq_false_iff_not];omega
  ·rw [Int.natAbs_natCast];exact h.le l1
theorem iL {V:View}{b:Bool}{p:OA}{n c x:Nat}{z:Int}(h:RN V p n c x)(hz:(if b then -(x:Int) else x)=z) :
  ab prog 76 #[.bool b,.slice p n c] V fun r V'=>∃(FK:Bool)(G6:OA)(GP FP:Nat),r=.agg #[.bool FK,.slice G6 GP FP]/\∀V3:View,V'.Le V3->RI V3 (.agg #[.bool FK,.slice G6 GP FP]) z:=by
 refine (cd b h).mono ?_
 rintro r V2 l2 ⟨p1,n1,c1,rfl,g⟩
 rw [hz] at g ⊢
 exact ⟨_,_,_,_,rfl,fun V3 l3=>⟨_,_,_,rfl,g.le l3⟩⟩
theorem Ev {V:View}(n:Int)(h0:-9223372036854775808<=n)(h1:n<=9223372036854775807) :
  ab prog 115 #[.int .i64 n] V fun r V'=>RI V' r n:=by
 refine Dv n V _ ⟨fun h2 V1 l1=>?_,fun h2 V1 l1=>?_⟩
 ·have h2:n<0:=by simpa using h2
  have e:u64.wrap (0-u64.wrap n)=((-n).toNat:Int):=by rw [qS,qS];omega
  rw [e]
  refine (dp _ (by omega)).mono ?_
  rintro r V2 l2 ⟨p1,n1,c1,rfl,g1⟩
  exact ⟨_,_,_,rfl,fun V3 l3=>iL (g1.le l3) (by simp;omega)⟩
 ·have h2:0<=n:=by simpa using h2
  have e:u64.wrap n=(n.toNat:Int):=by rw [aM (by omega)];omega
  rw [e]
  refine (dp _ (by omega)).mono ?_
  rintro r V2 l2 ⟨p1,n1,c1,rfl,g1⟩
  exact ⟨_,_,_,rfl,fun V3 l3=>iL (g1.le l3) (by simp;omega)⟩
theorem kG {V:View}(z:Int){p:OA}{n c:Nat}(h:RN V p n c z.natAbs) :
  ab prog 111 #[.agg #[.bool (decide (z<0)),.slice p n c]] V fun r V'=>r=.int .i64 z.sign:=by
 have hp:=eZ h.len
 refine B4 _ p n c V _ ⟨fun h0 V1 l1=>?_,fun h0=>⟨fun h1 V1 l1=>?_,fun h1 V1 l1=>?_⟩⟩
 ·have:z=0:=by simp at h0;omega
  rw [this];rfl
 ·rw [decide_eq_true_eq] at h1
  rw [Int.sign_eq_neg_one_of_neg h1]
 ·rw [decide_eq_false_iff_not] at h1
  have:0<z:=by simp at h0;omega
  rw [Int.sign_eq_one_of_pos this]
theorem fV {V:View}(z:Int){p:OA}{n c:Nat}(h:RN V p n c z.natAbs) :
  ab prog 112 #[.agg #[.bool (decide (z<0)),.slice p n c]] V fun r V'=>RI V' r (-z):=by
 refine zV _ p n c V _ fun V1 l1=>iL (h.le l1) ?_
 by_cases hz:z<0<;>simp [hz]<;>omega
theorem jX {V:View}(z w:Int){p q:OA}{n c m e:Nat}(ha:RN V p n c z.natAbs)(hb:RN V q m e w.natAbs)(hm:(ai z.natAbs).length+(ai w.natAbs).length<=1099511627776) :
  ab prog 75 #[.agg #[.bool (decide (z<0)),.slice p n c],.agg #[.bool (decide (w<0)),.slice q m e]] V fun r V'=>RI V' r (z*w):=by
 refine Dw _ p n c _ q m e V _ fun V1 l1=>(cE (ha.le l1) (hb.le l1) hm).mono ?_
 rintro r V2 l2 ⟨p1,n1,c1,rfl,g1⟩
 rw [af,af] at g1
 refine ⟨_,_,_,rfl,fun V3 l3=>iL (g1.le l3) ?_⟩
 have e1:z=ay (decide (z<0)) (ai z.natAbs):=(az z).symm
 have e2:w=ay (decide (w<0)) (ai w.natAbs):=(az w).symm
 conv=>rhs;rw [e1,e2]
 unfold ay
 rw [af,af]
 cases decide (z<0)<;>cases decide (w<0)<;>simp [Int.neg_mul,Int.mul_neg]
theorem qz {V:View}(z w:Int){p q:OA}{n c m e:Nat}(ha:RN V p n c z.natAbs)(hb:RN V q m e w.natAbs)(hm:(ai z.natAbs).length<=1099511627776)(hn:(ai w.natAbs).length<=1099511627776) :
  ab prog 73 #[.agg #[.bool (decide (z<0)),.slice p n c],.agg #[.bool (decide (w<0)),.slice q m e]] V fun r V'=>RI V' r (z+w):=by
 refine Ds _ p n c _ q m e V _ ⟨fun h0 V1 l1=>(Ex (ha.le l1) (hb.le l1) hm hn).mono ?_,fun h0 V1 l1=>(fE (ha.le l1) (hb.le l1) hm hn).mono ?_⟩
 ·rintro r V2 l2 ⟨p1,n1,c1,rfl,g1⟩
  rw [af,af] at g1
  refine ⟨_,_,_,rfl,fun V3 l3=>iL (g1.le l3) ?_⟩
  by_cases hz:z<0<;>by_cases hw:w<0<;>simp [hz,hw] at h0⊢<;> omega
 ·rintro r V2 l2 rfl
  refine ⟨_,rfl,fun h2 V3 l3=>?_,fun h2 V3 l3=>?_⟩
  ·have h2:z.natAbs<w.natAbs:=by simpa [eV] using h2
   refine (nV (hb.le (l1.trans (l2.trans l3))) (ha.le (l1.trans (l2.trans l3))) hn (aC (Nat.le_of_lt h2)) (by rw [af,af];omega)).mono ?_
   rintro r V4 l4 ⟨p1,n1,c1,rfl,g1⟩
   rw [af,af] at g1
   refine ⟨_,_,_,rfl,fun V5 l5=>iL (g1.le l5) ?_⟩
   by_cases hz:z<0<;>by_cases hw:w<0<;>simp [hz,hw] at h0⊢<;> omega
  ·have h2:w.natAbs<=z.natAbs:=by simpa [←Int.not_lt,eV] using h2
   refine (nV (ha.le (l1.trans (l2.trans l3))) (hb.le (l1.trans (l2.trans l3))) hm (aC h2) (by rw [af,af];omega)).mono ?_
   rintro r V4 l4 ⟨p1,n1,c1,rfl,g1⟩
   rw [af,af] at g1
   refine ⟨_,_,_,rfl,fun V5 l5=>iL (g1.le l5) ?_⟩
   by_cases hz:z<0<;>by_cases hw:w<0<;>simp [hz,hw] at h0⊢<;> omega
end Go.Proofs.Tryz
namespace Go.bz
open Go.eM
def se (d:Nat):List Nat:=if d=1 then [] else ai d
def RQ (V:View)(v:Value)(q:Rat):Prop:=∃p n c p' n' c',v=.agg #[.bool (decide (q.num<0)),.slice p n c,.slice p' n' c'] /\
 RD V p n c (ai q.num.natAbs)/\RD V p' n' c' (se q.den)
theorem RQ.le {V V':View}{v:Value}{q:Rat}(h:RQ V v q)(l:V.Le V'):RQ V' v q:=by
 obtain ⟨p,n,c,p',n',c',e,h1,h2⟩:=h
 exact ⟨p,n,c,p',n',c',e,h1.le l,h2.le l⟩
theorem AX {q:Rat}:se q.den=[]↔q.den=1:=by
 unfold se
 split
 ·rename_i h;simp [h]
 ·rename_i h
  rw [aZ]
  have:=q.den_nz
  omega
end Go.bz
namespace Go.Proofs.Tryz
open Go.bz Go.eM
theorem lP {V:View}{q:Rat}{p:OA}{n c:Nat}(h:RD V p n c (se q.den)):n=0↔q.den=1:=by
 rw [←AX,h.len,List.length_eq_zero_iff]
theorem cw {V:View}(q:Rat){p p':OA}{n c n' c':Nat}(b:Bool)(h2:RD V p' n' c' (se q.den)) :
  ab prog 77 #[.agg #[.bool b,.slice p n c,.slice p' n' c']] V fun r V'=>∃p1 n1 c1,r=.slice p1 n1 c1/\RN V' p1 n1 c1 q.den:=by
 have hl:=lP h2
 refine Du b p n c p' n' c' V _ ⟨fun h0 V1 l1=>jY.mono ?_,fun h0 V1 l1=>⟨_,_,_,rfl,?_⟩⟩
 ·rintro r V2 l2 ⟨p1,n1,c1,rfl,g⟩
  have:q.den=1:=hl.1 (by simp at h0;omega)
  rw [this]
  exact ⟨_,_,_,rfl,fun V3 l3=>⟨_,_,_,rfl,g.le l3⟩⟩
 ·have:q.den≠1:=fun e=>by have:=hl.2 e;simp at h0;omega
  unfold se at h2
  rw [if_neg this] at h2
  exact h2.le l1
theorem ll {V:View}{q:Rat}{z:Int}{d:Nat}{p p':OA}{n c n' c':Nat}(hn:q.num=z)(hd:q.den=d)(h1:RD V p n c (ai z.natAbs))(h2:RD V p' n' c' (se d)){b:Bool}(hb:b=decide (z<0)) :
  RQ V (.agg #[.bool b,.slice p n c,.slice p' n' c']) q:=by
 subst hn hd hb
 exact ⟨_,_,_,_,_,_,rfl,h1,h2⟩
theorem nU {V:View}(z:Int){d:Nat}{p q:OA}{n c m e:Nat}(hx:RN V p n c z.natAbs)(hy:RN V q m e d)(hm:(ai z.natAbs).length<=274877906944)(hn:(ai d).length<=274877906944)(hd:d≠0) :
  ab prog 74 #[.agg #[.bool (decide (z<0)),.slice p n c],.slice q m e] V fun r V'=>RQ V' r (mkRat z d):=by
 refine BZ _ p n c q m e V _ fun V1 l1=>(dC (hx.le l1) (hy.le l1) hm hn).mono ?_
 rintro r V2 l2 ⟨p1,n1,c1,rfl,hg⟩
 have hgd:=Nat.gcd_dvd_right z.natAbs d
 have hgx:=Nat.gcd_dvd_left z.natAbs d
 have JN:0<Nat.gcd z.natAbs d:=Nat.gcd_pos_of_pos_right _ (by omega)
 have hgl:(ai (Nat.gcd z.natAbs d)).length<=274877906944:=Nat.le_trans (aC (Nat.le_of_dvd (by omega) hgd)) hn
 have sf:(mkRat z d).num=z / (Nat.gcd d z.natAbs:Nat):=by rw [Rat.num_mkRat,if_neg hd]
 have hden:(mkRat z d).den=d / Nat.gcd d z.natAbs:=by rw [Rat.den_mkRat,if_neg hd]
 rw [Nat.gcd_comm d] at sf hden
 generalize hG:Nat.gcd z.natAbs d=g at *
 generalize mkRat z d=w at *
 refine ⟨_,_,_,rfl,fun V3 l3=>jY.mono ?_⟩
 rintro r V4 l4 ⟨p2,n2,c2,rfl,h1⟩
 refine ⟨_,_,_,rfl,fun V5 l5=>(fE (hg.le (l3.trans (l4.trans l5))) (h1.le l5) (by omega) (by decide)).mono ?_⟩
 rintro r V6 l6 rfl
 replace hx:=hx.le (l1.trans (l2.trans (l3.trans (l4.trans (l5.trans l6)))))
 replace hy:=hy.le (l1.trans (l2.trans (l3.trans (l4.trans (l5.trans l6)))))
 replace hg:=hg.le (l3.trans (l4.trans (l5.trans l6)))
 refine ⟨_,rfl,fun h0 V7 l7=>(cx (hx.le l7) (hg.le l7) hm hgl JN).mono ?_,fun h0 xk eA=>jY.mono ?_⟩
 ·rintro r V8 l8 ⟨p4,n4,c4,p5,n5,c5,rfl,g1,-⟩
  have hnd:(mkRat z d).num.natAbs=(mkRat z d).num.natAbs:=rfl
  obtain ⟨k,hk⟩:=hgx
  have hk1:z.natAbs / g=k:=by rw [hk,Nat.mul_div_cancel_left _ JN]
  rw [hk1] at g1
  have hz:z=(g:Int)*(if z<0 then -(k:Int) else k):=by
   split
   ·rw [Int.mul_neg,←Int.natCast_mul,←hk];omega
   ·rw [←Int.natCast_mul,←hk];omega
  have hwn:w.num=(if z<0 then -(k:Int) else k):=by
   rw [sf]
   generalize (if z<0 then -(k:Int) else k)=t at *
   rw [hz,Int.mul_ediv_cancel_left _ (by omega)]
  refine ⟨_,_,_,_,_,_,rfl,fun V9 l9=>(cd _ (g1.le l9)).mono ?_⟩
  have Qd:(if decide (z<0)=true then -(k:Int) else k)=w.num:=by
   rw [hwn];simp
  rw [Qd]
  rintro r gQ l10 ⟨p7,n7,c7,rfl,g2⟩
  refine ⟨_,_,_,_,rfl,fun jw bQ=>(cx (hy.le (l7.trans (l8.trans (l9.trans (l10.trans bQ))))) (hg.le (l7.trans (l8.trans (l9.trans (l10.trans bQ))))) hn hgl JN).mono ?_⟩
  rintro r kv cp ⟨p8,n8,c8,p9,n9,c9,rfl,g3,-⟩
  rw [←hden] at g3
  refine ⟨_,_,_,_,_,_,rfl,fun lA bW=>jY.mono ?_⟩
  rintro r qk dK ⟨K3,n10,c10,rfl,g4⟩
  have hdl:(ai w.den).length<=274877906944:=by rw [hden];exact Nat.le_trans (aC (Nat.div_le_self _ _)) hn
  refine ⟨_,_,_,rfl,fun oM dZ=>(fE (g3.le (bW.trans (dK.trans dZ))) (g4.le dZ) (by omega) (by decide)).mono ?_⟩
  rintro r oN c_ rfl
  refine ⟨_,rfl,fun h9 qi cQ=>ll rfl rfl (g2.le (bQ.trans (cp.trans (bW.trans (dK.trans (dZ.trans (c_.trans cQ))))))) ?_ rfl,fun h9 tE eI=>ll rfl rfl (g2.le (bQ.trans (cp.trans (bW.trans (dK.trans (dZ.trans (c_.trans eI))))))) ?_ rfl⟩
  ·have:w.den=1:=ik.1 (by simpa using h9)
   rw [AX.2 this];exact RD.nil
  ·have:w.den≠1:=fun e=>by rw [ik.2 e] at h9;simp at h9
   unfold se
   rw [if_neg this]
   exact g3.le (bW.trans (dK.trans (dZ.trans (c_.trans eI))))
 ·have hg1:g=1:=ik.1 (by simpa using h0)
  have hwn:w.num=z:=by rw [sf,hg1];simp
  have hwd:w.den=d:=by rw [hden,hg1];simp
  rintro r Ak jC ⟨WS,n12,c12,rfl,g4⟩
  refine ⟨_,_,_,rfl,fun sR dL=>(fE (hy.le (eA.trans (jC.trans dL))) (g4.le dL) (by omega) (by decide)).mono ?_⟩
  rintro r vY kr rfl
  refine ⟨_,rfl,fun h9 qi cQ=>ll hwn hwd (hx.le (eA.trans (jC.trans (dL.trans (kr.trans cQ))))) ?_ rfl,fun h9 tE eI=>ll hwn hwd (hx.le (eA.trans (jC.trans (dL.trans (kr.trans eI))))) ?_ rfl⟩
  ·have:d=1:=ik.1 (by simpa using h9)
   unfold se
   rw [if_pos this];exact RD.nil
  ·have:d≠1:=fun e=>by rw [ik.2 e] at h9;simp at h9
   unfold se
   rw [if_neg this]
   exact hy.le (eA.trans (jC.trans (dL.trans (kr.trans eI))))
theorem oZ {V:View}(n:Int)(h0:-9223372036854775808<=n)(h1:n<=9223372036854775807) :
  ab prog 64 #[.int .i64 n] V fun r V'=>RQ V' r (n:Rat):=by
 refine Fi n V _ fun V1 l1=>(Ev n h0 h1).mono ?_
 rintro r V2 l2 ⟨p,m,c,rfl,g⟩
 exact ⟨_,_,_,_,rfl,fun V3 l3=>ll (z:=n) (d:=1) rfl rfl (g.le l3) RD.nil rfl⟩
theorem DP {V:View}(q:Rat){p p':OA}{n c n' c':Nat}(h1:RD V p n c (ai q.num.natAbs)) :
  ab prog 59 #[.agg #[.bool (decide (q.num<0)),.slice p n c,.slice p' n' c']] V fun r V'=>r=.int .i64 q.num.sign:=by
 refine HO _ p n c p' n' c' V _ fun V1 l1=>(kG q.num (h1.le l1)).mono ?_
 rintro r V2 l2 rfl
 exact ⟨_,rfl,fun V3 l3=>rfl⟩
theorem mG {V:View}(q:Rat){p p':OA}{n c n' c':Nat}(h1:RD V p n c (ai q.num.natAbs))(h2:RD V p' n' c' (se q.den)) :
  ab prog 61 #[.agg #[.bool (decide (q.num<0)),.slice p n c,.slice p' n' c']] V fun r V'=>RQ V' r (-q):=by
 refine Dy _ p n c p' n' c' V _ fun V1 l1=>(fV q.num (h1.le l1)).mono ?_
 rintro r V2 l2 ⟨p1,n1,c1,rfl,g⟩
 exact ⟨_,_,_,_,rfl,fun V3 l3=>ll (q:=-q) (z:=-q.num) (d:=q.den) (by rfl) (by rfl) (g.le l3) ((h2.le l1).le (l2.trans l3)) rfl⟩
theorem qA {V:View}{p:OA}{n c x:Nat}(h:RN V p n c x) :
  ab prog 76 #[.bool false,.slice p n c] V fun r V'=>RI V' r (x:Int):=by
 have:=cd false h
 rwa [if_neg (by decide)] at this
theorem b_ {x:Rat}{k:Nat}(h:Sz k x):(ai x.num.natAbs).length<=k/\(ai x.den).length<=k/\(ai (x.den:Int).natAbs).length<=k:=⟨ah h.1,ah h.2,ah h.2⟩
theorem fF {V:View}{v w:Value}{x y:Rat}(hx:RQ V v x)(hy:RQ V w y){k m:Nat}(hk:Sz k x)(hm:Sz m y)(hkm:k+m<274877906944) :
  ab prog 24 #[v,w] V fun r V'=>RQ V' r (x+y):=by
 obtain ⟨p,n,c,p',n',c',rfl,hx1,hx2⟩:=hx
 obtain ⟨q,i,e,q',i',e',rfl,hy1,hy2⟩:=hy
 have hlx:=lP hx2
 have Am:=lP hy2
 obtain ⟨b1,b2,b3,b4⟩:=tF hk hm
 obtain ⟨d1,d2,d3⟩:=b_ hk
 obtain ⟨d4,d5,d6⟩:=b_ hm
 have hxy:x+y=mkRat (x.num*y.den+y.num*x.den) (x.den*y.den):=Rat.add_def' x y
 refine (fun tail=>B3 _ p n c p' n' c' _ q i e q' i' e' V _ ⟨fun h0=>⟨fun h1 V1 l1=>?_,fun _=>tail⟩,fun _=>tail⟩) ?_
 ·clear tail
  have h0:x.den=1:=hlx.1 (by simp at h0;omega)
  have h1:y.den=1:=Am.1 (by simp at h1;omega)
  refine (qz x.num y.num (hx1.le l1) (hy1.le l1) (by omega) (by omega)).mono ?_
  rintro r V2 l2 ⟨p2,n2,c2,rfl,g⟩
  have e1:x+y=((x.num+y.num:Int):Rat):=by
   rw [hxy,h0,h1];simp [Rat.mkRat_one]
  rw [e1]
  exact ⟨_,_,_,_,rfl,fun V3 l3=>ll (z:=x.num+y.num) (d:=1) rfl rfl (g.le l3) RD.nil rfl⟩
 ·intro V1 l1
  refine (cw y _ (hy2.le l1)).mono ?_
  rintro r V2 l2 ⟨p1,n1,c1,rfl,g1⟩
  refine ⟨_,_,_,rfl,fun V3 l3=>(qA (g1.le l3)).mono ?_⟩
  rintro r V4 l4 ⟨p3,n3,c3,rfl,g3⟩
  have Fy:=l1.trans (l2.trans (l3.trans l4))
  refine ⟨_,_,_,_,rfl,fun V5 l5=>(jX x.num y.den (hx1.le (Fy.trans l5)) (g3.le l5) (by omega)).mono ?_⟩
  rintro r V6 l6 ⟨p5,n5,c5,rfl,g5⟩
  have O2:=Fy.trans (l5.trans l6)
  refine ⟨_,_,_,_,rfl,fun V7 l7=>(cw x _ (hx2.le (O2.trans l7))).mono ?_⟩
  rintro r V8 l8 ⟨p7,n7,c7,rfl,g7⟩
  have O3:=O2.trans (l7.trans l8)
  refine ⟨_,_,_,rfl,fun V9 l9=>(qA (g7.le l9)).mono ?_⟩
  rintro r gQ l10 ⟨p9,n9,c9,rfl,g9⟩
  have Nb:=O3.trans (l9.trans l10)
  refine ⟨_,_,_,_,rfl,fun jw bQ=>(jX y.num x.den (hy1.le (Nb.trans bQ)) (g9.le bQ) (by omega)).mono ?_⟩
  rintro r kv cp ⟨NW,n11,c11,rfl,g11⟩
  have IW:=Nb.trans (bQ.trans cp)
  refine ⟨_,_,_,_,rfl,fun lA bW=>(qz _ _ (g5.le (l7.trans (l8.trans (l9.trans (l10.trans (bQ.trans (cp.trans bW))))))) (g11.le bW) (Nat.le_trans (ah b1) (by omega)) (Nat.le_trans (ah b2) (by omega))).mono ?_⟩
  rintro r qk dK ⟨WT,n13,c13,rfl,g13⟩
  have M_:=IW.trans (bW.trans dK)
  refine ⟨_,_,_,_,rfl,fun oM dZ=>(cw x _ (hx2.le (M_.trans dZ))).mono ?_⟩
  rintro r oN c_ ⟨WU,n15,c15,rfl,g15⟩
  have QF:=M_.trans (dZ.trans c_)
  refine ⟨_,_,_,rfl,fun qi cQ=>(cw y _ (hy2.le (QF.trans cQ))).mono ?_⟩
  rintro r tE eI ⟨WV,n17,c17,rfl,g17⟩
  refine ⟨_,_,_,rfl,fun xk eA=>(cE (g15.le (cQ.trans (eI.trans eA))) (g17.le eA) (by omega)).mono ?_⟩
  rintro r Ak jC ⟨WW,n19,c19,rfl,g19⟩
  rw [af,af] at g19
  refine ⟨_,_,_,rfl,fun sR dL=>(nU _ (g13.le (dZ.trans (c_.trans (cQ.trans (eI.trans (eA.trans (jC.trans dL))))))) (g19.le dL) (Nat.le_trans (ah b3) (by omega)) (Nat.le_trans (ah b4) (by omega)) (Nat.mul_ne_zero x.den_nz y.den_nz)).mono ?_⟩
  rw [hxy]
  rintro r vY kr ⟨Vu,n21,c21,Vv,n22,Uh,rfl,g21,g22⟩
  exact ⟨_,_,_,_,_,_,_,rfl,fun vZ il=>⟨_,_,_,_,_,_,rfl,g21.le il,g22.le il⟩⟩
theorem Ew {V:View}{v w:Value}{x y:Rat}(hx:RQ V v x)(hy:RQ V w y){k m:Nat}(hk:Sz k x)(hm:Sz m y)(hkm:k+m<274877906944) :
  ab prog 65 #[v,w] V fun r V'=>RQ V' r (x-y):=by
 have hx0:=hx
 obtain ⟨p,n,c,p',n',c',rfl,hx1,hx2⟩:=hx
 obtain ⟨q,i,e,q',i',e',rfl,hy1,hy2⟩:=hy
 refine Dz _ p n c p' n' c' _ q i e q' i' e' V _ fun V1 l1=>(mG y (hy1.le l1) (hy2.le l1)).mono ?_
 rintro r V2 l2 h2
 obtain ⟨p1,n1,c1,p2,n2,c2,rfl,g1,g2⟩:=id h2
 refine ⟨_,_,_,_,_,_,_,rfl,fun V3 l3=>(fF (hx0.le (l1.trans (l2.trans l3))) (h2.le l3) hk hm.neg hkm).mono ?_⟩
 rw [←Rat.sub_eq_add_neg]
 rintro r V4 l4 ⟨p3,n3,c3,p4,n4,c4,rfl,g3,g4⟩
 exact ⟨_,_,_,_,_,_,_,rfl,fun V5 l5=>⟨_,_,_,_,_,_,rfl,g3.le l5,g4.le l5⟩⟩
theorem bJ {V:View}{v w:Value}{x y:Rat}(hx:RQ V v x)(hy:RQ V w y){k m:Nat}(hk:Sz k x)(hm:Sz m y)(hkm:k+m<274877906944) :
  ab prog 96 #[v,w] V fun r V'=>RQ V' r (x*y):=by
 obtain ⟨p,n,c,p',n',c',rfl,hx1,hx2⟩:=hx
 obtain ⟨q,i,e,q',i',e',rfl,hy1,hy2⟩:=hy
 have hlx:=lP hx2
 have Am:=lP hy2
 obtain ⟨d1,d2,d3⟩:=b_ hk
 obtain ⟨d4,d5,d6⟩:=b_ hm
 have hxy:x*y=mkRat (x.num*y.num) (x.den*y.den):=Rat.mul_def' x y
 have b1:(x.num*y.num).natAbs<2^(k+m):=by rw [Int.natAbs_mul];exact bA hk.1 hm.1
 have b2:x.den*y.den<2^(k+m):=bA hk.2 hm.2
 refine (fun tail=>zX _ p n c p' n' c' _ q i e q' i' e' V _ ⟨fun h0=>⟨fun h1 V1 l1=>?_,fun _=>tail⟩,fun _=>tail⟩) ?_
 ·clear tail
  have h0:x.den=1:=hlx.1 (by simp at h0;omega)
  have h1:y.den=1:=Am.1 (by simp at h1;omega)
  refine (jX x.num y.num (hx1.le l1) (hy1.le l1) (by omega)).mono ?_
  rintro r V2 l2 ⟨p2,n2,c2,rfl,g⟩
  have e1:x*y=((x.num*y.num:Int):Rat):=by
   rw [hxy,h0,h1];simp [Rat.mkRat_one]
  rw [e1]
  exact ⟨_,_,_,_,rfl,fun V3 l3=>ll (z:=x.num*y.num) (d:=1) rfl rfl (g.le l3) RD.nil rfl⟩
 ·intro V1 l1
  refine (jX x.num y.num (hx1.le l1) (hy1.le l1) (by omega)).mono ?_
  rintro r V2 l2 ⟨p2,n2,c2,rfl,g2⟩
  refine ⟨_,_,_,_,rfl,fun V3 l3=>(cw x _ (hx2.le (l1.trans (l2.trans l3)))).mono ?_⟩
  rintro r V4 l4 ⟨p4,n4,c4,rfl,g4⟩
  refine ⟨_,_,_,rfl,fun V5 l5=>(cw y _ (hy2.le (l1.trans (l2.trans (l3.trans (l4.trans l5)))))).mono ?_⟩
  rintro r V6 l6 ⟨p6,n6,c6,rfl,g6⟩
  refine ⟨_,_,_,rfl,fun V7 l7=>(cE (g4.le (l5.trans (l6.trans l7))) (g6.le l7) (by omega)).mono ?_⟩
  rintro r V8 l8 ⟨p8,n8,c8,rfl,g8⟩
  rw [af,af] at g8
  refine ⟨_,_,_,rfl,fun V9 l9=>(nU _ (g2.le (l3.trans (l4.trans (l5.trans (l6.trans (l7.trans (l8.trans l9))))))) (g8.le l9) (Nat.le_trans (ah b1) (by omega)) (Nat.le_trans (ah b2) (by omega)) (Nat.mul_ne_zero x.den_nz y.den_nz)).mono ?_⟩
  rw [hxy]
  rintro r vY kr ⟨Vu,n21,c21,Vv,n22,Uh,rfl,g21,g22⟩
  exact ⟨_,_,_,_,_,_,_,rfl,fun vZ il=>⟨_,_,_,_,_,_,rfl,g21.le il,g22.le il⟩⟩
end Go.Proofs.Tryz
namespace Go.bz
open Go.eM
def RP (V:View)(v:Value)(x y:Rat):Prop:=∃p n c p' n' c' q m e q' m' e',v=.agg #[.bool (decide (x.num<0)),.slice p n c,.slice p' n' c',.bool (decide (y.num<0)),.slice q m e,.slice q' m' e'] /\
 RQ V (.agg #[.bool (decide (x.num<0)),.slice p n c,.slice p' n' c']) x/\RQ V (.agg #[.bool (decide (y.num<0)),.slice q m e,.slice q' m' e']) y
theorem RP.le {V V':View}{v:Value}{x y:Rat}(h:RP V v x y)(l:V.Le V'):RP V' v x y:=by
 obtain ⟨p,n,c,p',n',c',q,m,e,q',m',e',rfl,h1,h2⟩:=h
 exact ⟨p,n,c,p',n',c',q,m,e,q',m',e',rfl,h1.le l,h2.le l⟩
theorem RQ.shape {V:View}{v:Value}{q:Rat}(h:RQ V v q):∃p n c p' n' c',v=.agg #[.bool (decide (q.num<0)),.slice p n c,.slice p' n' c']:=by
 obtain ⟨p,n,c,p',n',c',e,-⟩:=h;exact ⟨_,_,_,_,_,_,e⟩
end Go.bz
namespace Go.Proofs.Tryz
open Go.bz Go.eM
theorem rm {V:View}{p:OA}{n c:Nat}{ds:List Nat}(h:RD V p n c ds)(hm:ds.length<=1099511627776) :
  ab prog 105 #[.slice p n c] V fun r V'=>∃p1 n1 c1,r=.slice p1 n1 c1/\RD V' p1 n1 c1 ds:=by
 have hl:=h.len
 refine zZ p n c V _ ⟨aH ds,h.sl,by simp [hl],by omega,by omega,by simp,by simp [hl],?_,?_⟩
 ·intro v hv
  simp only [aH,List.mem_map] at hv
  obtain ⟨d,-,rfl⟩:=hv
  rfl
 ·intro bk J sp c' h1 h2 V1 l1 b hb
  refine ⟨_,_,_,rfl,?_⟩
  simp only [Nat.zero_add,Nat.zero_mul,List.take_zero,List.nil_append] at hb h1 ⊢
  exact copied h.cN hl h1 hb
theorem jc {V:View}{v:Value}{z:Int}(h:RI V v z)(hm:(ai z.natAbs).length<=1099511627776) :
  ab prog 104 #[v] V fun r V'=>RI V' r z:=by
 obtain ⟨p,n,c,rfl,h⟩:=h
 refine zY _ p n c V _ fun V1 l1=>(rm (h.le l1) hm).mono ?_
 rintro r V2 l2 ⟨p1,n1,c1,rfl,g⟩
 exact ⟨_,_,_,rfl,fun V3 l3=>⟨_,_,_,rfl,g.le l3⟩⟩
theorem fG {V:View}(x y:Int)(h0:-9223372036854775808<=x)(h1:x<=9223372036854775807)(h2:-9223372036854775808<=y)(h3:y<=9223372036854775807) :
  ab prog 51 #[.int .i64 x,.int .i64 y] V fun r V'=>RP V' r (x:Rat) (y:Rat):=by
 refine Cc x y V _ fun V1 l1=>(oZ x h0 h1).mono ?_
 rintro r V2 l2 hx
 obtain ⟨p,n,c,p',n',c',rfl⟩:=hx.shape
 refine ⟨_,_,_,_,_,_,_,rfl,fun V3 l3=>(oZ y h2 h3).mono ?_⟩
 rintro r V4 l4 hy
 obtain ⟨q,m,e,q',m',e',rfl⟩:=hy.shape
 exact ⟨_,_,_,_,_,_,_,rfl,fun V5 l5=>⟨_,_,_,_,_,_,_,_,_,_,_,_,rfl,hx.le (l3.trans (l4.trans l5)),hy.le l5⟩⟩
theorem ru {V:View}{u v w:Value}{px py c qx qy:Rat}(hp:RP V u px py)(hc:RQ V v c)(hq:RP V w qx qy){k m:Nat}(s1:Sz k px)(s2:Sz k py)(s3:Sz m c)(s4:Sz m qx)(s5:Sz m qy)(hkm:k+(m+m+1)<274877906944) :
  ab prog 62 #[u,v,w] V fun r V'=>RP V' r (px+c*qx) (py+c*qy):=by
 obtain ⟨p1,n1,c1,p2,n2,c2,p3,n3,c3,p4,n4,c4,rfl,hp1,hp2⟩:=hp
 obtain ⟨p5,n5,c5,p6,n6,c6,rfl⟩:=hc.shape
 obtain ⟨q1,m1,e1,q2,m2,e2,q3,m3,e3,q4,m4,e4,rfl,hq1,hq2⟩:=hq
 refine Aa _ p1 n1 c1 p2 n2 c2 _ p3 n3 c3 p4 n4 c4 _ p5 n5 c5 p6 n6 c6 _ q1 m1 e1 q2 m2 e2 _ q3 m3 e3 q4 m4 e4 V _ fun V1 l1=>(bJ (hc.le l1) (hq1.le l1) s3 s4 (by omega)).mono ?_
 rintro r V2 l2 g1
 obtain ⟨a1,a2,a3,a4,a5,a6,rfl⟩:=g1.shape
 refine ⟨_,_,_,_,_,_,_,rfl,fun V3 l3=>(fF (hp1.le (l1.trans (l2.trans l3))) (g1.le l3) s1 (s3.mul s4) (by omega)).mono ?_⟩
 rintro r V4 l4 g2
 obtain ⟨b1,b2,b3,b4,b5,b6,rfl⟩:=g2.shape
 have Fy:=l1.trans (l2.trans (l3.trans l4))
 refine ⟨_,_,_,_,_,_,_,rfl,fun V5 l5=>(bJ (hc.le (Fy.trans l5)) (hq2.le (Fy.trans l5)) s3 s5 (by omega)).mono ?_⟩
 rintro r V6 l6 g3
 obtain ⟨d1,d2,d3,d4,d5,d6,rfl⟩:=g3.shape
 refine ⟨_,_,_,_,_,_,_,rfl,fun V7 l7=>(fF (hp2.le (Fy.trans (l5.trans (l6.trans l7)))) (g3.le l7) s2 (s3.mul s5) (by omega)).mono ?_⟩
 rintro r V8 l8 g4
 obtain ⟨f1,f2,f3,f4,f5,f6,rfl⟩:=g4.shape
 exact ⟨_,_,_,_,_,_,_,rfl,fun V9 l9=>⟨_,_,_,_,_,_,_,_,_,_,_,_,rfl,g2.le (l5.trans (l6.trans (l7.trans (l8.trans l9)))),g4.le l9⟩⟩
theorem Jx:Sz 1 ((-1:Int):Rat):=by unfold Sz;decide
theorem AM {V:View}{u w:Value}{px py qx qy:Rat}(hp:RP V u px py)(hq:RP V w qx qy){k m:Nat}(s1:Sz k px)(s2:Sz k py)(s4:Sz m qx)(s5:Sz m qy)(hm:1<=m)(hkm:k+(m+m+1)<274877906944) :
  ab prog 106 #[u,w] V fun r V'=>RP V' r (px-qx) (py-qy):=by
 have hp0:=hp
 have hq0:=hq
 obtain ⟨p1,n1,c1,p2,n2,c2,p3,n3,c3,p4,n4,c4,rfl,-,-⟩:=hp
 obtain ⟨q1,m1,e1,q2,m2,e2,q3,m3,e3,q4,m4,e4,rfl,-,-⟩:=hq
 refine Af _ p1 n1 c1 p2 n2 c2 _ p3 n3 c3 p4 n4 c4 _ q1 m1 e1 q2 m2 e2 _ q3 m3 e3 q4 m4 e4 V _ fun V1 l1=>(oZ (-1) (by omega) (by omega)).mono ?_
 rintro r V2 l2 g1
 obtain ⟨a1,a2,a3,a4,a5,a6,rfl⟩:=g1.shape
 have An:=l1.trans l2
 refine ⟨_,_,_,_,_,_,_,rfl,fun V3 l3=>(ru (hp0.le (An.trans l3)) (g1.le l3) (hq0.le (An.trans l3)) s1 s2 (Jx.mono hm) s4 s5 hkm).mono ?_⟩
 have e1:∀a b:Rat,a+((-1:Int):Rat)*b=a-b:=by
  intro a b
  have:((-1:Int):Rat)=-1:=rfl
  rw [this,Rat.neg_mul,Rat.one_mul,Rat.sub_eq_add_neg]
 rw [e1,e1]
 rintro r V4 l4 ⟨b1,b2,b3,b4,b5,b6,b7,b8,b9,b10,b11,b12,rfl,g2,g3⟩
 exact ⟨_,_,_,_,_,_,_,_,_,_,_,_,_,_,rfl,fun V5 l5=>⟨_,_,_,_,_,_,_,_,_,_,_,_,rfl,g2.le l5,g3.le l5⟩⟩
end Go.Proofs.Tryz
namespace Go.bz
open Go.eM
def RL (V:View)(v:Value)(a b c:Int):Prop:=∃p n s p' n' s' q m e,v=.agg #[.bool (decide (a<0)),.slice p n s,.bool (decide (b<0)),.slice p' n' s',.bool (decide (c<0)),.slice q m e] /\
 RD V p n s (ai a.natAbs)/\RD V p' n' s' (ai b.natAbs)/\RD V q m e (ai c.natAbs)
theorem RL.le {V V':View}{v:Value}{a b c:Int}(h:RL V v a b c)(l:V.Le V'):RL V' v a b c:=by
 obtain ⟨p,n,s,p',n',s',q,m,e,rfl,h1,h2,h3⟩:=h
 exact ⟨p,n,s,p',n',s',q,m,e,rfl,h1.le l,h2.le l,h3.le l⟩
end Go.bz
namespace Go.Proofs.Tryz
open Go.bz Go.eM
theorem AO {V:View}{v:Value}{a b c:Int}(hx:RL V v a b c)(h1:(ai a.natAbs).length<=1099511627776)(h2:(ai b.natAbs).length<=1099511627776)(h3:(ai c.natAbs).length<=1099511627776) :
  ab prog 89 #[v] V fun r V'=>RL V' r a b c:=by
 obtain ⟨p,n,s,p',n',s',q,m,e,rfl,x1,x2,x3⟩:=hx
 refine Ag _ p n s _ p' n' s' _ q m e V _ fun V1 l1=>(jc ⟨_,_,_,rfl,x1.le l1⟩ h1).mono ?_
 rintro r V2 l2 ⟨p1,n1,c1,rfl,g1⟩
 refine ⟨_,_,_,_,rfl,fun V3 l3=>(jc ⟨_,_,_,rfl,x2.le (l1.trans (l2.trans l3))⟩ h2).mono ?_⟩
 rintro r V4 l4 ⟨p2,n2,c2,rfl,g2⟩
 refine ⟨_,_,_,_,rfl,fun V5 l5=>(jc ⟨_,_,_,rfl,x3.le (l1.trans (l2.trans (l3.trans (l4.trans l5))))⟩ h3).mono ?_⟩
 rintro r V6 l6 ⟨p3,n3,c3,rfl,g3⟩
 exact ⟨_,_,_,_,rfl,fun V7 l7=>⟨_,_,_,_,_,_,_,_,_,rfl,g1.le (l3.trans (l4.trans (l5.trans (l6.trans l7)))),g2.le (l5.trans (l6.trans l7)),g3.le l7⟩⟩
theorem lR {z:Int}{g:Nat}(hg:0<g)(hd:g∣z.natAbs):(if decide (z<0)=true then -((z.natAbs / g:Nat):Int) else ((z.natAbs / g:Nat):Int))=z / (g:Int):=by
 obtain ⟨k,hk⟩:=hd
 have hk1:z.natAbs / g=k:=by rw [hk,Nat.mul_div_cancel_left _ hg]
 rw [hk1]
 have hz:z=(g:Int)*(if decide (z<0)=true then -(k:Int) else k):=by
  split
  ·rename_i h
   rw [decide_eq_true_eq] at h
   rw [Int.mul_neg,←Int.natCast_mul,←hk];omega
  ·rename_i h
   rw [decide_eq_true_eq] at h
   rw [←Int.natCast_mul,←hk];omega
 generalize (if decide (z<0)=true then -(k:Int) else k)=t at *
 rw [hz,Int.mul_ediv_cancel_left _ (by omega)]
def j7 (a b c:Int):Nat:=Nat.gcd (Nat.gcd a.natAbs b.natAbs) c.natAbs
theorem wi {V:View}{u v w:Value}{a b c:Int}(ha:RI V u a)(hb:RI V v b)(hc:RI V w c)(h1:(ai a.natAbs).length<=274877906944)(h2:(ai b.natAbs).length<=274877906944)(h3:(ai c.natAbs).length<=274877906944) :
  ab prog 107 #[u,v,w] V fun r V'=>(a=0/\b=0->∃l,r=.tuple #[l,.bool false]/\RL V' l 0 0 0) /\
   (¬(a=0/\b=0)->∃l,r=.tuple #[l,.bool true]/\RL V' l (a / (j7 a b c:Int)) (b / (j7 a b c:Int)) (c / (j7 a b c:Int))):=by
 obtain ⟨p,n,s,rfl,ha⟩:=ha
 obtain ⟨p',n',s',rfl,hb⟩:=hb
 obtain ⟨q,m,e,rfl,hc⟩:=hc
 refine vN _ p n s _ p' n' s' _ q m e V _ fun V1 l1=>(dC (ha.le l1) (hb.le l1) h1 h2).mono ?_
 rintro r V2 l2 ⟨p1,n1,c1,rfl,g1⟩
 have hp:=eZ g1.len
 have lF:Nat.gcd a.natAbs b.natAbs=0↔a=0/\b=0:=by rw [Nat.gcd_eq_zero_iff];omega
 refine ⟨_,_,_,rfl,fun h0 V3 l3=>⟨fun _=>⟨_,rfl,_,_,_,_,_,_,_,_,_,rfl,RD.nil,RD.nil,RD.nil⟩,fun h=>?_⟩,fun h0 V4 l4=>?_⟩
 ·exact absurd (lF.1 (by simp at h0;omega)) h
 have hne:¬(a=0/\b=0):=fun h=>by have:=lF.2 h;simp at h0;omega
 have hg0:0<Nat.gcd a.natAbs b.natAbs:=by have:=lF;omega
 have hgl:(ai (Nat.gcd a.natAbs b.natAbs)).length<=274877906944:=by
  rcases Nat.eq_zero_or_pos a.natAbs with h|h
  ·rw [h,Nat.gcd_zero_left];exact h2
  ·exact Nat.le_trans (aC (Nat.gcd_le_left _ h)) h1
 refine (dC (g1.le l4) (hc.le (l1.trans (l2.trans l4))) hgl h3).mono ?_
 rintro r V5 l5 ⟨p2,n2,c2,rfl,g2⟩
 have ER:=l1.trans (l2.trans (l4.trans l5))
 have e3:Nat.gcd (Nat.gcd a.natAbs b.natAbs) c.natAbs=j7 a b c:=rfl
 have hG0:0<j7 a b c:=Nat.gcd_pos_of_pos_left _ hg0
 have LK:(ai (j7 a b c)).length<=274877906944:=Nat.le_trans (aC (Nat.gcd_le_left _ hg0)) hgl
 have da:j7 a b c∣a.natAbs:=Nat.dvd_trans (Nat.gcd_dvd_left _ _) (Nat.gcd_dvd_left _ _)
 have db:j7 a b c∣b.natAbs:=Nat.dvd_trans (Nat.gcd_dvd_left _ _) (Nat.gcd_dvd_right _ _)
 have dc:j7 a b c∣c.natAbs:=Nat.gcd_dvd_right _ _
 have sa:=lR hG0 da
 have sb:=lR hG0 db
 have sc:=lR hG0 dc
 rw [e3] at g2
 generalize j7 a b c=G at *
 refine ⟨_,_,_,rfl,fun V6 l6=>(cx (ha.le (ER.trans l6)) (g2.le l6) h1 LK hG0).mono ?_⟩
 rintro r V7 l7 ⟨p3,n3,c3,p4,n4,c4,rfl,g3,-⟩
 have Gw:=l6.trans l7
 refine ⟨_,_,_,_,_,_,rfl,fun V8 l8=>(cx (hb.le (ER.trans (Gw.trans l8))) (g2.le (Gw.trans l8)) h2 LK hG0).mono ?_⟩
 rintro r V9 l9 ⟨p5,n5,c5,p6,n6,c6,rfl,g5,-⟩
 have DV:=Gw.trans (l8.trans l9)
 refine ⟨_,_,_,_,_,_,rfl,fun gQ l10=>(cx (hc.le (ER.trans (DV.trans l10))) (g2.le (DV.trans l10)) h3 LK hG0).mono ?_⟩
 rintro r jw bQ ⟨p7,n7,c7,p8,n8,c8,rfl,g7,-⟩
 refine ⟨_,_,_,_,_,_,rfl,fun kv cp=>(cd _ (g3.le (l8.trans (l9.trans (l10.trans (bQ.trans cp)))))).mono ?_⟩
 rw [sa]
 rintro r lA bW ⟨p9,n9,c9,rfl,g9⟩
 refine ⟨_,_,_,_,rfl,fun qk dK=>(cd _ (g5.le (l10.trans (bQ.trans (cp.trans (bW.trans dK)))))).mono ?_⟩
 rw [sb]
 rintro r oM dZ ⟨K3,n10,c10,rfl,g10⟩
 refine ⟨_,_,_,_,rfl,fun oN c_=>(cd _ (g7.le (cp.trans (bW.trans (dK.trans (dZ.trans c_)))))).mono ?_⟩
 rw [sc]
 rintro r qi cQ ⟨NW,n11,c11,rfl,g11⟩
 refine ⟨_,_,_,_,rfl,fun tE eI=>⟨fun h=>absurd h hne,fun _=>⟨_,rfl,_,_,_,_,_,_,_,_,_,rfl,?_,?_,?_⟩⟩⟩
 ·exact g9.le (dK.trans (dZ.trans (c_.trans (cQ.trans eI))))
 ·exact g10.le (c_.trans (cQ.trans eI))
 ·exact g11.le eI
end Go.Proofs.Tryz
namespace Go.bz
open Go.eM
def Cd (V:View)(v:Value)(a b c:Rat):Prop:=∃(x1 x2:Int)(p:OA)(y1 y2:Int)(q:OA)(z1 z2:Int)(r:OA),v=.agg #[.int .i64 x1,.int .i64 x2,.pointer p,.int .i64 y1,.int .i64 y2,.pointer q,.int .i64 z1,.int .i64 z2,.pointer r] /\
 RR V (.agg #[.int .i64 x1,.int .i64 x2,.pointer p]) a/\RR V (.agg #[.int .i64 y1,.int .i64 y2,.pointer q]) b/\RR V (.agg #[.int .i64 z1,.int .i64 z2,.pointer r]) c
def H2 (v:Value):Prop:=∃(x1 x2:Int)(x3:OA)(y1 y2:Int)(y3:OA)(z1 z2:Int)(z3:OA),v=.agg #[.int .i64 x1,.int .i64 x2,.pointer x3,.int .i64 y1,.int .i64 y2,.pointer y3,.int .i64 z1,.int .i64 z2,.pointer z3]
theorem Cd.le {V V':View}{v:Value}{a b c:Rat}(h:Cd V v a b c)(l:V.Le V'):Cd V' v a b c:=by
 obtain ⟨x1,x2,p,y1,y2,q,z1,z2,r,rfl,h1,h2,h3⟩:=h
 exact ⟨x1,x2,p,y1,y2,q,z1,z2,r,rfl,h1.le l,h2.le l,h3.le l⟩
end Go.bz
namespace Go.Proofs.Tryz
open Go.bz Go.eM
def iX (b1:Bool)(xs:List Nat)(b2:Bool)(ys:List Nat)(b3:Bool)(zs:List Nat):Bool:=
 eO b1 xs&&eO b2 ys&&eO b3 zs&&!(decide ((ay b1 xs:Rat)=0)&&decide ((ay b2 ys:Rat)=0))&&decide (gH (gH (ay b1 xs) (ay b2 ys)) (ay b3 zs)=((1:Int):Rat))
theorem qM {V:View}{ok:Bool}{A B C:Rat}(h:ok=false):∃v,Value.tuple #[.agg #[.int .i64 0,.int .i64 0,.pointer none,.int .i64 0,.int .i64 0,.pointer none,.int .i64 0,.int .i64 0,.pointer none],.bool false]=.tuple #[v,.bool ok]/\H2 v/\(ok=true->Cd V v A B C):=by
 subst h;exact ⟨_,rfl,⟨_,_,_,_,_,_,_,_,_,rfl⟩,fun h=>nomatch h⟩
theorem zP:Sz 1 ((1:Int):Rat):=by unfold Sz;decide
theorem tW {V:View}(b1 b2 b3:Bool){p q s:OA}{n c m e i j:Nat}{xs ys zs:List Nat}(hx:RD V p n c xs)(hy:RD V q m e ys)(hz:RD V s i j zs)
  (h1:xs.length<=1099511627776)(h2:ys.length<=1099511627776)(h3:zs.length<=1099511627776){k:Nat}(s1:Sz k (ay b1 xs:Rat))(s2:Sz k (ay b2 ys:Rat))(s3:Sz k (ay b3 zs:Rat))(hk:4*k+4<1099511627776) :
  ab prog 132 #[.agg #[.bool b1,.slice p n c,.bool b2,.slice q m e,.bool b3,.slice s i j]] V fun r V'=>∃v,r=.tuple #[v,.bool (iX b1 xs b2 ys b3 zs)]/\H2 v/\(iX b1 xs b2 ys b3 zs=true->Cd V' v (ay b1 xs) (ay b2 ys) (ay b3 zs)):=by
 refine BR _ p n c _ q m e _ s i j V _ fun V1 l1=>(fC b1 (hx.le l1) h1).mono ?_
 rintro r V2 l2 rfl
 refine ⟨_,rfl,fun h0 V3 l3=>qM ?_,fun h0 V4 l4=>(fC b2 (hy.le (l1.trans (l2.trans l4))) h2).mono ?_⟩
 ·have h0:eO b1 xs=false:=by simpa using h0
  simp [iX,h0]
 have h0:eO b1 xs=true:=by simpa using h0
 rintro r V5 l5 rfl
 refine ⟨_,rfl,fun g0 V6 l6=>qM ?_,fun g0 V7 l7=>(fC b3 (hz.le (l1.trans (l2.trans (l4.trans (l5.trans l7))))) h3).mono ?_⟩
 ·have g0:eO b2 ys=false:=by simpa using g0
  simp [iX,g0]
 have g0:eO b2 ys=true:=by simpa using g0
 rintro r V8 l8 rfl
 have O3:=l1.trans (l2.trans (l4.trans (l5.trans (l7.trans l8))))
 refine ⟨_,rfl,fun f0 V9 l9=>qM ?_,fun f0 gQ l10=>(kB b1 (hx.le (O3.trans l10)) h1).mono ?_⟩
 ·have f0:eO b3 zs=false:=by simpa using f0
  simp [iX,f0]
 have f0:eO b3 zs=true:=by simpa using f0
 rintro r jw bQ ra
 obtain ⟨x1,x2,x3,rfl⟩:=ra.shape
 have M9:=O3.trans (l10.trans bQ)
 refine ⟨_,_,_,rfl,fun kv cp=>(kB b2 (hy.le (M9.trans cp)) h2).mono ?_⟩
 rintro r lA bW rb
 obtain ⟨y1,y2,y3,rfl⟩:=rb.shape
 have QE:=M9.trans (cp.trans bW)
 refine ⟨_,_,_,rfl,fun qk dK=>(kB b3 (hz.le (QE.trans dK)) h3).mono ?_⟩
 rintro r oM dZ rc
 obtain ⟨z1,z2,z3,rfl⟩:=rc.shape
 replace ra:=ra.le (cp.trans (bW.trans (dK.trans dZ)))
 replace rb:=rb.le (dK.trans dZ)
 have hok:iX b1 xs b2 ys b3 zs=(!(decide ((ay b1 xs:Rat)=0)&&decide ((ay b2 ys:Rat)=0))&&decide (gH (gH (ay b1 xs) (ay b2 ys)) (ay b3 zs)=((1:Int):Rat))):=by
  simp only [iX,h0,g0,f0,Bool.true_and]
 rw [hok]
 clear hok h0 g0 f0 hx hy hz
 generalize (ay b1 xs:Rat)=A at *
 generalize (ay b2 ys:Rat)=B at *
 generalize (ay b3 zs:Rat)=C at *
 refine ⟨_,_,_,rfl,fun oN c_=>(Az (ra.le c_)).mono ?_⟩
 rintro r qi cQ rfl
 refine ⟨_,rfl,fun t0 tE eI=>(Az (rb.le (c_.trans (cQ.trans eI)))).mono ?_,fun t0 sR dL=>?_⟩
 ·rintro r xk eA rfl
  refine ⟨_,rfl,fun u0 Ak jC=>qM (by rw [t0,u0];rfl),fun u0 sR dL=>?_⟩
  have lb:oM.Le sR:=c_.trans (cQ.trans (eI.trans (eA.trans dL)))
  have hn:(decide (A=0)&&decide (B=0))=false:=by rw [u0,Bool.and_false]
  rw [hn]
  refine (iA (ra.le lb) (rb.le lb) s1 s2 (by omega)).mono ?_
  rintro r vY kr rg
  obtain ⟨g1,g2,g3,rfl⟩:=rg.shape
  refine ⟨_,_,_,rfl,fun vZ il=>(iA (rg.le il) (rc.le (lb.trans (kr.trans il))) (fO s1 s2) s3 (by omega)).mono ?_⟩
  rintro r Cj sW rh
  obtain ⟨h1,h2,h3,rfl⟩:=rh.shape
  refine ⟨_,_,_,rfl,fun DH jh=>(kA 1 (by omega) (by omega)).mono ?_⟩
  rintro r HU sX ri
  obtain ⟨i1,i2,i3,rfl⟩:=ri.shape
  refine ⟨_,_,_,rfl,fun Kg sY=>(xB (rh.le (jh.trans (sX.trans sY))) (ri.le sY) (fO (fO s1 s2) s3) zP (by omega)).mono ?_⟩
  rintro r H3 CQ rfl
  have lz:oM.Le H3:=lb.trans (kr.trans (il.trans (sW.trans (jh.trans (sX.trans (sY.trans CQ))))))
  refine ⟨_,rfl,fun w0 LD CR=>qM ?_,fun w0 H4 ze=>?_⟩
  ·rw [Bool.not_eq_true'] at w0
   rw [w0];rfl
  ·have w0:decide (gH (gH A B) C=((1:Int):Rat))=true:=by
    cases h:decide (gH (gH A B) C=((1:Int):Rat))
    ·rw [h] at w0;cases w0
    ·rfl
   rw [w0]
   exact ⟨_,rfl,⟨_,_,_,_,_,_,_,_,_,rfl⟩,fun _=>⟨_,_,_,_,_,_,_,_,_,rfl,ra.le (lz.trans ze),rb.le (lz.trans ze),rc.le (lz.trans ze)⟩⟩
 ·have lb:oM.Le sR:=c_.trans (cQ.trans dL)
  have hn:(decide (A=0)&&decide (B=0))=false:=by rw [t0,Bool.false_and]
  rw [hn]
  refine (iA (ra.le lb) (rb.le lb) s1 s2 (by omega)).mono ?_
  rintro r vY kr rg
  obtain ⟨g1,g2,g3,rfl⟩:=rg.shape
  refine ⟨_,_,_,rfl,fun vZ il=>(iA (rg.le il) (rc.le (lb.trans (kr.trans il))) (fO s1 s2) s3 (by omega)).mono ?_⟩
  rintro r Cj sW rh
  obtain ⟨h1,h2,h3,rfl⟩:=rh.shape
  refine ⟨_,_,_,rfl,fun DH jh=>(kA 1 (by omega) (by omega)).mono ?_⟩
  rintro r HU sX ri
  obtain ⟨i1,i2,i3,rfl⟩:=ri.shape
  refine ⟨_,_,_,rfl,fun Kg sY=>(xB (rh.le (jh.trans (sX.trans sY))) (ri.le sY) (fO (fO s1 s2) s3) zP (by omega)).mono ?_⟩
  rintro r H3 CQ rfl
  have lz:oM.Le H3:=lb.trans (kr.trans (il.trans (sW.trans (jh.trans (sX.trans (sY.trans CQ))))))
  refine ⟨_,rfl,fun w0 LD CR=>qM ?_,fun w0 H4 ze=>?_⟩
  ·rw [Bool.not_eq_true'] at w0
   rw [w0];rfl
  ·have w0:decide (gH (gH A B) C=((1:Int):Rat))=true:=by
    cases h:decide (gH (gH A B) C=((1:Int):Rat))
    ·rw [h] at w0;cases w0
    ·rfl
   rw [w0]
   exact ⟨_,rfl,⟨_,_,_,_,_,_,_,_,_,rfl⟩,fun _=>⟨_,_,_,_,_,_,_,_,_,rfl,ra.le (lz.trans ze),rb.le (lz.trans ze),rc.le (lz.trans ze)⟩⟩
def lx (V:View)(v:Value)(x y:Rat):Prop:=∃(x1 x2:Int)(p:OA)(y1 y2:Int)(q:OA),v=.agg #[.int .i64 x1,.int .i64 x2,.pointer p,.int .i64 y1,.int .i64 y2,.pointer q] /\
 RR V (.agg #[.int .i64 x1,.int .i64 x2,.pointer p]) x/\RR V (.agg #[.int .i64 y1,.int .i64 y2,.pointer q]) y
theorem lx.le {V V':View}{v:Value}{x y:Rat}(h:lx V v x y)(l:V.Le V'):lx V' v x y:=by
 obtain ⟨x1,x2,p,y1,y2,q,e,h1,h2⟩:=h
 exact ⟨x1,x2,p,y1,y2,q,e,h1.le l,h2.le l⟩
theorem yO {V:View}{p:Value}{dM dF:Rat}{q:Value}{nj nk:Rat}(hp:lx V p dM dF)(hq:lx V q nj nk){k:Nat}(fm:Sz k dM)(eJ:Sz k dF)(nq:Sz k nj)(nt:Sz k nk)(hk:2*k+1<274877906944) :
  ab prog 148 #[p,q] V fun r V'=>lx V' r ((dM)+(nj)) ((dF)+(nk)):=by
 have hp0:=hp
 obtain ⟨p0,p1,p2,p3,p4,p5,rfl,si,sj⟩:=hp
 have hq0:=hq
 obtain ⟨q0,q1,q2,q3,q4,q5,rfl,Gn,Gp⟩:=hq
 refine wT p0 p1 p2 p3 p4 p5 q0 q1 q2 q3 q4 q5 V _ fun V1 l1=>(oV (si.le (l1)) (Gn.le (l1)) fm nq (by omega)).mono ?_
 rintro r V2 l2 g1
 have g10:=g1
 obtain ⟨Ll,Lm,Ln,rfl⟩:=g1.shape
 have gN:Sz (2*k+1) ((dM)+(nj)):=Sz.mono (Sz.add fm nq) (by omega)
 refine ⟨_,_,_,rfl,fun V3 l3=>(oV (sj.le (l1.trans (l2.trans (l3)))) (Gp.le (l1.trans (l2.trans (l3)))) eJ nt (by omega)).mono ?_⟩
 rintro r V4 l4 g2
 have g20:=g2
 obtain ⟨LZ,L1,L4,rfl⟩:=g2.shape
 have gO:Sz (2*k+1) ((dF)+(nk)):=Sz.mono (Sz.add eJ nt) (by omega)
 exact ⟨_,_,_,rfl,fun V5 l5=>⟨_,_,_,_,_,_,rfl,(g10.le (l3.trans (l4.trans (l5)))),(g20.le (l5))⟩⟩
theorem vU {dM dF nj nk:Rat}{k:Nat}(fm:Sz k dM)(eJ:Sz k dF)(nq:Sz k nj)(nt:Sz k nk):Sz (2*k+1) ((dM)+(nj)):=by
 have gN:Sz (2*k+1) ((dM)+(nj)):=Sz.mono (Sz.add fm nq) (by omega)
 have gO:Sz (2*k+1) ((dF)+(nk)):=Sz.mono (Sz.add eJ nt) (by omega)
 exact Sz.mono gN (by omega)
theorem vV {dM dF nj nk:Rat}{k:Nat}(fm:Sz k dM)(eJ:Sz k dF)(nq:Sz k nj)(nt:Sz k nk):Sz (2*k+1) ((dF)+(nk)):=by
 have gN:Sz (2*k+1) ((dM)+(nj)):=Sz.mono (Sz.add fm nq) (by omega)
 have gO:Sz (2*k+1) ((dF)+(nk)):=Sz.mono (Sz.add eJ nt) (by omega)
 exact Sz.mono gO (by omega)
theorem tY {V:View}{p:Value}{dM dF:Rat}{c:Value}{LI:Rat}(hp:lx V p dM dF)(hc:RR V c LI){k:Nat}(fm:Sz k dM)(eJ:Sz k dF)(Jp:Sz k LI)(hk:2*k+1<274877906944) :
  ab prog 189 #[p,c] V fun r V'=>lx V' r ((dM)*(LI)) ((dF)*(LI)):=by
 have hp0:=hp
 obtain ⟨p0,p1,p2,p3,p4,p5,rfl,si,sj⟩:=hp
 have hc0:=hc
 obtain ⟨c0,c1,c2,rfl⟩:=hc.shape
 refine sG p0 p1 p2 p3 p4 p5 c0 c1 c2 V _ fun V1 l1=>(mF (si.le (l1)) (hc0.le (l1)) fm Jp (by omega)).mono ?_
 rintro r V2 l2 g1
 have g10:=g1
 obtain ⟨Ll,Lm,Ln,rfl⟩:=g1.shape
 have gN:Sz (2*k+1) ((dM)*(LI)):=Sz.mono (Sz.mul fm Jp) (by omega)
 refine ⟨_,_,_,rfl,fun V3 l3=>(mF (sj.le (l1.trans (l2.trans (l3)))) (hc0.le (l1.trans (l2.trans (l3)))) eJ Jp (by omega)).mono ?_⟩
 rintro r V4 l4 g2
 have g20:=g2
 obtain ⟨LZ,L1,L4,rfl⟩:=g2.shape
 have gO:Sz (2*k+1) ((dF)*(LI)):=Sz.mono (Sz.mul eJ Jp) (by omega)
 exact ⟨_,_,_,rfl,fun V5 l5=>⟨_,_,_,_,_,_,rfl,(g10.le (l3.trans (l4.trans (l5)))),(g20.le (l5))⟩⟩
theorem wc {V:View}{p:Value}{dM dF:Rat}(hp:lx V p dM dF){k:Nat}(fm:Sz k dM)(eJ:Sz k dF)(hk:1*k+1<274877906944) :
  ab prog 149 #[p] V fun r V'=>lx V' r (-(dF)) (dM):=by
 have hp0:=hp
 obtain ⟨p0,p1,p2,p3,p4,p5,rfl,si,sj⟩:=hp
 refine vA p0 p1 p2 p3 p4 p5 V _ fun V1 l1=>(oW (sj.le (l1)) eJ (by omega)).mono ?_
 rintro r V2 l2 g1
 have g10:=g1
 obtain ⟨Ll,Lm,Ln,rfl⟩:=g1.shape
 have gN:Sz (1*k+0) (-(dF)):=Sz.mono (Sz.neg eJ) (by omega)
 exact ⟨_,_,_,rfl,fun V3 l3=>⟨_,_,_,_,_,_,rfl,(g10.le (l3)),(si.le (l1.trans (l2.trans (l3))))⟩⟩
theorem oY {V:View}{p:Value}{dM dF:Rat}{q:Value}{nj nk:Rat}(hp:lx V p dM dF)(hq:lx V q nj nk){k:Nat}(fm:Sz k dM)(eJ:Sz k dF)(nq:Sz k nj)(nt:Sz k nk)(hk:4*k+3<274877906944) :
  ab prog 127 #[p,q] V fun r V'=>RR V' r (((dM)*(nj))+((dF)*(nk))):=by
 have hp0:=hp
 obtain ⟨p0,p1,p2,p3,p4,p5,rfl,si,sj⟩:=hp
 have hq0:=hq
 obtain ⟨q0,q1,q2,q3,q4,q5,rfl,Gn,Gp⟩:=hq
 refine wU p0 p1 p2 p3 p4 p5 q0 q1 q2 q3 q4 q5 V _ fun V1 l1=>(mF (si.le (l1)) (Gn.le (l1)) fm nq (by omega)).mono ?_
 rintro r V2 l2 g1
 have g10:=g1
 obtain ⟨Ll,Lm,Ln,rfl⟩:=g1.shape
 have gN:Sz (2*k+1) ((dM)*(nj)):=Sz.mono (Sz.mul fm nq) (by omega)
 refine ⟨_,_,_,rfl,fun V3 l3=>(mF (sj.le (l1.trans (l2.trans (l3)))) (Gp.le (l1.trans (l2.trans (l3)))) eJ nt (by omega)).mono ?_⟩
 rintro r V4 l4 g2
 have g20:=g2
 obtain ⟨LZ,L1,L4,rfl⟩:=g2.shape
 have gO:Sz (2*k+1) ((dF)*(nk)):=Sz.mono (Sz.mul eJ nt) (by omega)
 refine ⟨_,_,_,rfl,fun V5 l5=>(oV (g10.le (l3.trans (l4.trans (l5)))) (g20.le (l5)) gN gO (by omega)).mono ?_⟩
 rintro r V6 l6 g3
 have Ft:=g3
 obtain ⟨Pc,Pf,Pg,rfl⟩:=g3.shape
 have sQ:Sz (4*k+3) (((dM)*(nj))+((dF)*(nk))):=Sz.mono (Sz.add gN gO) (by omega)
 exact ⟨_,_,_,rfl,fun V7 l7=>(Ft.le (l7))⟩
theorem iR {dM dF nj nk:Rat}{k:Nat}(fm:Sz k dM)(eJ:Sz k dF)(nq:Sz k nj)(nt:Sz k nk):Sz (4*k+3) (((dM)*(nj))+((dF)*(nk))):=by
 have gN:Sz (2*k+1) ((dM)*(nj)):=Sz.mono (Sz.mul fm nq) (by omega)
 have gO:Sz (2*k+1) ((dF)*(nk)):=Sz.mono (Sz.mul eJ nt) (by omega)
 have sQ:Sz (4*k+3) (((dM)*(nj))+((dF)*(nk))):=Sz.mono (Sz.add gN gO) (by omega)
 exact Sz.mono sQ (by omega)
theorem lI {V:View}{p:Value}{dM dF:Rat}{q:Value}{nj nk:Rat}(hp:lx V p dM dF)(hq:lx V q nj nk){k:Nat}(fm:Sz k dM)(eJ:Sz k dF)(nq:Sz k nj)(nt:Sz k nk)(hk:4*k+3<274877906944) :
  ab prog 147 #[p,q] V fun r V'=>RR V' r (((dM)*(nk))-((dF)*(nj))):=by
 have hp0:=hp
 obtain ⟨p0,p1,p2,p3,p4,p5,rfl,si,sj⟩:=hp
 have hq0:=hq
 obtain ⟨q0,q1,q2,q3,q4,q5,rfl,Gn,Gp⟩:=hq
 refine sF p0 p1 p2 p3 p4 p5 q0 q1 q2 q3 q4 q5 V _ fun V1 l1=>(mF (si.le (l1)) (Gp.le (l1)) fm nt (by omega)).mono ?_
 rintro r V2 l2 g1
 have g10:=g1
 obtain ⟨Ll,Lm,Ln,rfl⟩:=g1.shape
 have gN:Sz (2*k+1) ((dM)*(nk)):=Sz.mono (Sz.mul fm nt) (by omega)
 refine ⟨_,_,_,rfl,fun V3 l3=>(mF (sj.le (l1.trans (l2.trans (l3)))) (Gn.le (l1.trans (l2.trans (l3)))) eJ nq (by omega)).mono ?_⟩
 rintro r V4 l4 g2
 have g20:=g2
 obtain ⟨LZ,L1,L4,rfl⟩:=g2.shape
 have gO:Sz (2*k+1) ((dF)*(nj)):=Sz.mono (Sz.mul eJ nq) (by omega)
 refine ⟨_,_,_,rfl,fun V5 l5=>(DO (g10.le (l3.trans (l4.trans (l5)))) (g20.le (l5)) gN gO (by omega)).mono ?_⟩
 rintro r V6 l6 g3
 have Ft:=g3
 obtain ⟨Pc,Pf,Pg,rfl⟩:=g3.shape
 have sQ:Sz (4*k+3) (((dM)*(nk))-((dF)*(nj))):=Sz.mono (Sz.sub gN gO) (by omega)
 exact ⟨_,_,_,rfl,fun V7 l7=>(Ft.le (l7))⟩
theorem ko {dM dF nj nk:Rat}{k:Nat}(fm:Sz k dM)(eJ:Sz k dF)(nq:Sz k nj)(nt:Sz k nk):Sz (4*k+3) (((dM)*(nk))-((dF)*(nj))):=by
 have gN:Sz (2*k+1) ((dM)*(nk)):=Sz.mono (Sz.mul fm nt) (by omega)
 have gO:Sz (2*k+1) ((dF)*(nj)):=Sz.mono (Sz.mul eJ nq) (by omega)
 have sQ:Sz (4*k+3) (((dM)*(nk))-((dF)*(nj))):=Sz.mono (Sz.sub gN gO) (by omega)
 exact Sz.mono sQ (by omega)
theorem yN {V:View}{l:Value}{im l_1 lW:Rat}(hl:Cd V l im l_1 lW){k:Nat}(kW:Sz k im)(mh:Sz k l_1)(mi:Sz k lW)(hk:1*k+1<274877906944) :
  ab prog 154 #[l] V fun r V'=>lx V' r (l_1) (-(im)):=by
 have hl0:=hl
 obtain ⟨l0,l1,l2,l3,l4,l5,l6,l7,l8,rfl,A8,A9,EN⟩:=hl
 refine wS l0 l1 l2 l3 l4 l5 l6 l7 l8 V _ fun V1 l1=>(oW (A8.le (l1)) kW (by omega)).mono ?_
 rintro r V2 l2 g1
 have g10:=g1
 obtain ⟨Ll,Lm,Ln,rfl⟩:=g1.shape
 have gN:Sz (1*k+0) (-(im)):=Sz.mono (Sz.neg kW) (by omega)
 exact ⟨_,_,_,rfl,fun V3 l3=>⟨_,_,_,_,_,_,rfl,(A9.le (l1.trans (l2.trans (l3)))),(g10.le (l3))⟩⟩
theorem lf {V:View}{l:Value}{im l_1 lW:Rat}(hl:Cd V l im l_1 lW){k:Nat}(kW:Sz k im)(mh:Sz k l_1)(mi:Sz k lW)(hk:1*k+1<274877906944) :
  ab prog 126 #[l] V fun r V'=>lx V' r (im) (l_1):=by
 have hl0:=hl
 obtain ⟨l0,l1,l2,l3,l4,l5,l6,l7,l8,rfl,A8,A9,EN⟩:=hl
 exact qT l0 l1 l2 l3 l4 l5 l6 l7 l8 V _ fun V1 l1=>⟨_,_,_,_,_,_,rfl,(A8.le (l1)),(A9.le (l1))⟩
theorem ju {im l_1 lW:Rat}{k:Nat}(kW:Sz k im)(mh:Sz k l_1)(mi:Sz k lW):Sz (1*k+0) (im):=by
 exact Sz.mono kW (by omega)
theorem jv {im l_1 lW:Rat}{k:Nat}(kW:Sz k im)(mh:Sz k l_1)(mi:Sz k lW):Sz (1*k+0) (l_1):=by
 exact Sz.mono mh (by omega)
theorem tX {V:View}{l:Value}{im l_1 lW:Rat}{p:Value}{dM dF:Rat}(hl:Cd V l im l_1 lW)(hp:lx V p dM dF){k:Nat}(kW:Sz k im)(mh:Sz k l_1)(mi:Sz k lW)(fm:Sz k dM)(eJ:Sz k dF)(hk:5*k+4<274877906944) :
  ab prog 166 #[l,p] V fun r V'=>RR V' r ((((im)*(dM))+((l_1)*(dF)))+(lW)):=by
 have hl0:=hl
 obtain ⟨l0,l1,l2,l3,l4,l5,l6,l7,l8,rfl,A8,A9,EN⟩:=hl
 have hp0:=hp
 obtain ⟨p0,p1,p2,p3,p4,p5,rfl,si,sj⟩:=hp
 refine sE l0 l1 l2 l3 l4 l5 l6 l7 l8 p0 p1 p2 p3 p4 p5 V _ fun V1 l1=>(lf (hl0.le (l1)) (Sz.mono kW (by omega):Sz (1*k+0) _) (Sz.mono mh (by omega):Sz (1*k+0) _) (Sz.mono mi (by omega):Sz (1*k+0) _) (by omega)).mono ?_
 rintro r V2 l2 g1
 have g10:=g1
 obtain ⟨VL,VM,VN,VO,VQ,VS,rfl,Um,Un⟩:=g1
 have gN:Sz (1*k+0) (im):=Sz.mono ((ju (Sz.mono kW (by omega):Sz (1*k+0) _) (Sz.mono mh (by omega):Sz (1*k+0) _) (Sz.mono mi (by omega):Sz (1*k+0) _))) (by omega)
 have Jz:Sz (1*k+0) (l_1):=Sz.mono ((jv (Sz.mono kW (by omega):Sz (1*k+0) _) (Sz.mono mh (by omega):Sz (1*k+0) _) (Sz.mono mi (by omega):Sz (1*k+0) _))) (by omega)
 refine ⟨_,_,_,_,_,_,rfl,fun V3 l3=>(oY (g10.le (l3)) (hp0.le (l1.trans (l2.trans (l3)))) (Sz.mono gN (by omega):Sz (1*k+0) _) (Sz.mono Jz (by omega):Sz (1*k+0) _) (Sz.mono fm (by omega):Sz (1*k+0) _) (Sz.mono eJ (by omega):Sz (1*k+0) _) (by omega)).mono ?_⟩
 rintro r V4 l4 g2
 have g20:=g2
 obtain ⟨LZ,L1,L4,rfl⟩:=g2.shape
 have gO:Sz (4*k+3) (((im)*(dM))+((l_1)*(dF))):=Sz.mono ((iR (Sz.mono gN (by omega):Sz (1*k+0) _) (Sz.mono Jz (by omega):Sz (1*k+0) _) (Sz.mono fm (by omega):Sz (1*k+0) _) (Sz.mono eJ (by omega):Sz (1*k+0) _))) (by omega)
 refine ⟨_,_,_,rfl,fun V5 l5=>(oV (g20.le (l5)) (EN.le (l1.trans (l2.trans (l3.trans (l4.trans (l5)))))) gO mi (by omega)).mono ?_⟩
 rintro r V6 l6 g3
 have Ft:=g3
 obtain ⟨Pc,Pf,Pg,rfl⟩:=g3.shape
 have sQ:Sz (5*k+4) ((((im)*(dM))+((l_1)*(dF)))+(lW)):=Sz.mono (Sz.add gO mi) (by omega)
 exact ⟨_,_,_,rfl,fun V7 l7=>(Ft.le (l7))⟩
theorem re {im l_1 lW dM dF:Rat}{k:Nat}(kW:Sz k im)(mh:Sz k l_1)(mi:Sz k lW)(fm:Sz k dM)(eJ:Sz k dF):Sz (5*k+4) ((((im)*(dM))+((l_1)*(dF)))+(lW)):=by
 have gN:Sz (1*k+0) (im):=Sz.mono ((ju (Sz.mono kW (by omega):Sz (1*k+0) _) (Sz.mono mh (by omega):Sz (1*k+0) _) (Sz.mono mi (by omega):Sz (1*k+0) _))) (by omega)
 have Jz:Sz (1*k+0) (l_1):=Sz.mono ((jv (Sz.mono kW (by omega):Sz (1*k+0) _) (Sz.mono mh (by omega):Sz (1*k+0) _) (Sz.mono mi (by omega):Sz (1*k+0) _))) (by omega)
 have gO:Sz (4*k+3) (((im)*(dM))+((l_1)*(dF))):=Sz.mono ((iR (Sz.mono gN (by omega):Sz (1*k+0) _) (Sz.mono Jz (by omega):Sz (1*k+0) _) (Sz.mono fm (by omega):Sz (1*k+0) _) (Sz.mono eJ (by omega):Sz (1*k+0) _))) (by omega)
 have sQ:Sz (5*k+4) ((((im)*(dM))+((l_1)*(dF)))+(lW)):=Sz.mono (Sz.add gO mi) (by omega)
 exact Sz.mono sQ (by omega)
theorem Ey {V:View}(z:Int){p:OA}{n c:Nat}(h:RD V p n c (ai z.natAbs)) :
  ab prog 97 #[.agg #[.bool (decide (z<0)),.slice p n c]] V fun r V'=>RQ V' r (z:Rat):=
 DE _ p n c V _ fun V1 l1=>ll (z:=z) (d:=1) rfl rfl (h.le l1) RD.nil rfl
theorem RQ.ofNat {V:View}{p:OA}{n c x:Nat}(h:RN V p n c x){b:Bool}(hb:b=decide ((x:Int)<0)):RQ V (.agg #[.bool b,.slice p n c,.slice none 0 0]) ((x:Int):Rat):=
 ll (z:=(x:Int)) (d:=1) rfl rfl h RD.nil hb
theorem RQ.int {V:View}{q:Rat}{b:Bool}{p:OA}{n c:Nat}{p':OA}{n' c':Nat}(h:RQ V (.agg #[.bool b,.slice p n c,.slice p' n' c']) q):RI V (.agg #[.bool b,.slice p n c]) q.num:=by
 obtain ⟨p1,n1,c1,p2,n2,c2,e,h1,h2⟩:=h
 cases e
 exact ⟨_,_,_,rfl,h1⟩
theorem RQ.den {V:View}{q:Rat}{b:Bool}{p:OA}{n c:Nat}{p':OA}{n' c':Nat}(h:RQ V (.agg #[.bool b,.slice p n c,.slice p' n' c']) q):RD V p' n' c' (se q.den):=by
 obtain ⟨p1,n1,c1,p2,n2,c2,e,h1,h2⟩:=h
 cases e
 exact h2
def yu (px py qx qy:Rat):Rat×Rat×Rat:=
 let a:=-(qy-py);let b:=qx-px;let c:=-(a*px+b*py)
 let f:Rat:=(((a.den*b.den*c.den:Nat):Int):Rat)
 (a*f,b*f,c*f)
theorem Li {n k:Nat}(h:n<2^k)(hk:0<k):Sz k (((n:Nat):Int):Rat):=by
 refine ⟨?_,?_⟩
 ·show ((n:Nat):Int).natAbs<_
  simpa using h
 ·show 1<2^k
  exact Nat.one_lt_two_pow (by omega)
theorem rY {V:View}{u w:Value}{px py qx qy:Rat}(hp:RP V u px py)(hq:RP V w qx qy){k:Nat}(s1:Sz k px)(s2:Sz k py)(s3:Sz k qx)(s4:Sz k qy)(hk1:1<=k)(hk:64*k+64<274877906944) :
  ab prog 50 #[u,w] V fun r V'=>((yu px py qx qy).1.num=0/\(yu px py qx qy).2.1.num=0->∃l,r=.tuple #[l,.bool false]/\RL V' l 0 0 0) /\
   (¬((yu px py qx qy).1.num=0/\(yu px py qx qy).2.1.num=0)->∃l,r=.tuple #[l,.bool true] /\
    RL V' l ((yu px py qx qy).1.num / (j7 (yu px py qx qy).1.num (yu px py qx qy).2.1.num (yu px py qx qy).2.2.num:Int)) ((yu px py qx qy).2.1.num / (j7 (yu px py qx qy).1.num (yu px py qx qy).2.1.num (yu px py qx qy).2.2.num:Int)) ((yu px py qx qy).2.2.num / (j7 (yu px py qx qy).1.num (yu px py qx qy).2.1.num (yu px py qx qy).2.2.num:Int))):=by
 have hp0:=hp
 have hq0:=hq
 obtain ⟨p1,n1,c1,p2,n2,c2,p3,n3,c3,p4,n4,c4,rfl,hp1,hp2⟩:=hp
 obtain ⟨q1,m1,e1,q2,m2,e2,q3,m3,e3,q4,m4,e4,rfl,-,-⟩:=hq
 refine qZ _ p1 n1 c1 p2 n2 c2 _ p3 n3 c3 p4 n4 c4 _ q1 m1 e1 q2 m2 e2 _ q3 m3 e3 q4 m4 e4 V _ fun V1 l1=>(AM (hq0.le l1) (hp0.le l1) s3 s4 s1 s2 hk1 (by omega)).mono ?_
 rintro r V2 l2 ⟨a1,a2,a3,a4,a5,a6,a7,a8,a9,Sq,Sr,a12,rfl,hb,hd⟩
 have tb:Sz (k+k+1) (qx-px):=s3.sub s1
 have td:Sz (k+k+1) (qy-py):=s4.sub s2
 have An:=l1.trans l2
 refine ⟨_,_,_,_,_,_,_,_,_,_,_,_,_,_,rfl,fun V3 l3=>(mG (qy-py) (by obtain ⟨_,_,_,_,_,_,e,h1,h2⟩:=hd.le l3;cases e;exact h1) (RQ.den (hd.le l3))).mono ?_⟩
 rintro r V4 l4 ha
 obtain ⟨b1,b2,b3,b4,b5,b6,rfl⟩:=ha.shape
 have ta:=td.neg
 have Qr:yu px py qx qy=(-(qy-py)*(((((-(qy-py)).den*(qx-px).den*(-(-(qy-py)*px+(qx-px)*py)).den:Nat):Int):Rat)),(qx-px)*(((((-(qy-py)).den*(qx-px).den*(-(-(qy-py)*px+(qx-px)*py)).den:Nat):Int):Rat)),(-(-(qy-py)*px+(qx-px)*py))*(((((-(qy-py)).den*(qx-px).den*(-(-(qy-py)*px+(qx-px)*py)).den:Nat):Int):Rat))):=rfl
 rw [Qr]
 generalize -(qy-py)=A at *
 generalize qx-px=B at *
 replace hb:=hb.le (l3.trans l4)
 replace hp1:=hp1.le (An.trans (l3.trans l4))
 replace hp2:=hp2.le (An.trans (l3.trans l4))
 refine ⟨_,_,_,_,_,_,_,rfl,fun V5 l5=>(bJ (ha.le l5) (hp1.le l5) ta s1 (by omega)).mono ?_⟩
 rintro r V6 l6 g6
 obtain ⟨d1,d2,d3,d4,d5,d6,rfl⟩:=g6.shape
 refine ⟨_,_,_,_,_,_,_,rfl,fun V7 l7=>(bJ (hb.le (l5.trans (l6.trans l7))) (hp2.le (l5.trans (l6.trans l7))) tb s2 (by omega)).mono ?_⟩
 rintro r V8 l8 g8
 obtain ⟨f1,f2,f3,f4,f5,f6,rfl⟩:=g8.shape
 refine ⟨_,_,_,_,_,_,_,rfl,fun V9 l9=>(fF (g6.le (l7.trans (l8.trans l9))) (g8.le l9) (ta.mul s1) (tb.mul s2) (by omega)).mono ?_⟩
 rintro r gQ l10 g10
 have tc:=((ta.mul s1).add (tb.mul s2)).neg
 obtain ⟨i1,i2,i3,i4,i5,i6,rfl⟩:=g10.shape
 refine ⟨_,_,_,_,_,_,_,rfl,fun jw bQ=>(mG (A*px+B*py) (by obtain ⟨_,_,_,_,_,_,e,h1,h2⟩:=g10.le bQ;cases e;exact h1) (RQ.den (g10.le bQ))).mono ?_⟩
 rintro r kv cp hc
 generalize -(A*px+B*py)=C at *
 obtain ⟨j1,j2,j3,j4,j5,j6,rfl⟩:=hc.shape
 have IW:=l5.trans (l6.trans (l7.trans (l8.trans (l9.trans (l10.trans (bQ.trans cp))))))
 replace ha:=ha.le IW
 replace hb:=hb.le IW
 refine ⟨_,_,_,_,_,_,_,rfl,fun lA bW=>(cw A _ (RQ.den (ha.le bW))).mono ?_⟩
 rintro r qk dK ⟨k1,k2,k3,rfl,g14⟩
 refine ⟨_,_,_,rfl,fun oM dZ=>(cw B _ (RQ.den (hb.le (bW.trans (dK.trans dZ))))).mono ?_⟩
 rintro r oN c_ ⟨k4,k5,k6,rfl,g16⟩
 obtain ⟨-,da,-⟩:=b_ ta
 obtain ⟨-,db,-⟩:=b_ tb
 obtain ⟨-,dc,-⟩:=b_ tc
 refine ⟨_,_,_,rfl,fun qi cQ=>(cE (g14.le (dZ.trans (c_.trans cQ))) (g16.le cQ) (by omega)).mono ?_⟩
 rintro r tE eI ⟨k7,k8,k9,rfl,g18⟩
 rw [af,af] at g18
 refine ⟨_,_,_,rfl,fun xk eA=>(cw C _ (RQ.den (hc.le (bW.trans (dK.trans (dZ.trans (c_.trans (cQ.trans (eI.trans eA))))))))).mono ?_⟩
 rintro r Ak jC ⟨k10,k11,k12,rfl,g20⟩
 have Wu:=gX (a:=A.den) (b:=B.den)
 refine ⟨_,_,_,rfl,fun sR dL=>(cE (g18.le (eA.trans (jC.trans dL))) (g20.le dL) (by omega)).mono ?_⟩
 rintro r vY kr ⟨k13,k14,k15,rfl,g22⟩
 rw [af,af] at g22
 have tf:Sz (k+k+1+(k+k+1)+(k+k+1+k+1+(k+k+1+k+1)+1)) (((A.den*B.den*C.den:Nat):Int):Rat):=Li (bA (bA ta.2 tb.2) tc.2) (by omega)
 generalize A.den*B.den*C.den=M at *
 refine ⟨_,_,_,rfl,fun vZ il=>(qA (g22.le il)).mono ?_⟩
 rintro r Cj sW ⟨k16,k17,k18,rfl,g24⟩
 have hf:=RQ.ofNat g24 rfl
 have EP:=bW.trans (dK.trans (dZ.trans (c_.trans (cQ.trans (eI.trans (eA.trans (jC.trans (dL.trans (kr.trans (il.trans sW))))))))))
 refine ⟨_,_,_,_,rfl,fun DH jh=>(bJ (ha.le (EP.trans jh)) (hf.le jh) ta tf (by omega)).mono ?_⟩
 rintro r HU sX SF
 obtain ⟨o1,o2,o3,o4,o5,o6,rfl⟩:=SF.shape
 refine ⟨_,_,_,_,_,_,_,rfl,fun Kg sY=>(bJ (hb.le (EP.trans (jh.trans (sX.trans sY)))) (hf.le (jh.trans (sX.trans sY))) tb tf (by omega)).mono ?_⟩
 rintro r H3 CQ SG
 obtain ⟨o7,o8,o9,WN,WO,WQ,rfl⟩:=SG.shape
 refine ⟨_,_,_,_,_,_,_,rfl,fun LD CR=>(bJ (hc.le (EP.trans (jh.trans (sX.trans (sY.trans (CQ.trans CR)))))) (hf.le (jh.trans (sX.trans (sY.trans (CQ.trans CR))))) tc tf (by omega)).mono ?_⟩
 rintro r H4 ze Ft
 obtain ⟨t1,t2,t3,t4,t5,t6,rfl⟩:=Ft.shape
 refine ⟨_,_,_,_,_,_,_,rfl,fun ON IX=>(wi (RQ.int (SF.le (sY.trans (CQ.trans (CR.trans (ze.trans IX)))))) (RQ.int (SG.le (CR.trans (ze.trans IX)))) (RQ.int (Ft.le IX)) (Nat.le_trans (b_ (ta.mul tf)).1 (by omega)) (Nat.le_trans (b_ (tb.mul tf)).1 (by omega)) (Nat.le_trans (b_ (tc.mul tf)).1 (by omega))).mono ?_⟩
 rintro r TD S9 ⟨z1,z2⟩
 by_cases hz:(A*((M:Int):Rat)).num=0/\(B*((M:Int):Rat)).num=0
 ·obtain ⟨l,rfl,y1,y2,y3,y4,y5,y6,y7,y8,y9,rfl,w1,w2,w3⟩:=z1 hz
  exact ⟨_,_,_,_,_,_,_,_,_,_,_,_,_,rfl,fun RX Fz=>⟨fun _=>⟨_,rfl,_,_,_,_,_,_,_,_,_,rfl,w1.le Fz,w2.le Fz,w3.le Fz⟩,fun h=>absurd hz h⟩⟩
 ·obtain ⟨l,rfl,y1,y2,y3,y4,y5,y6,y7,y8,y9,rfl,w1,w2,w3⟩:=z2 hz
  exact ⟨_,_,_,_,_,_,_,_,_,_,_,_,_,rfl,fun RX Fz=>⟨fun h=>absurd h hz,fun _=>⟨_,rfl,_,_,_,_,_,_,_,_,_,rfl,w1.le Fz,w2.le Fz,w3.le Fz⟩⟩⟩
theorem kF {V:View}{v:Value}{q:Rat}(h:RQ V v q){k:Nat}(_s:Sz k q)(_hk:k<=1099511627776):ab prog 61 #[v] V fun r V'=>RQ V' r (-q):=by
 obtain ⟨p,n,c,p',n',c',rfl,h1,h2⟩:=h
 exact mG q h1 h2
theorem iF {V:View}{z:Int}{p:OA}{n c:Nat}(h:RD V p n c (ai z.natAbs)){k:Nat}(_s:Sz k (z:Rat))(_hk:k<=1099511627776) :
  ab prog 97 #[.agg #[.bool (decide (z<0)),.slice p n c]] V fun r V'=>RQ V' r (z:Rat):=Ey z h
theorem lM {V:View}{l:Value}{im l_1 lW:Int}(hl:RL V l im l_1 lW){k:Nat}(kW:Sz k ((im:Int):Rat))(mh:Sz k ((l_1:Int):Rat))(mi:Sz k ((lW:Int):Rat))(hk:1*k+1<274877906944) :
  ab prog 56 #[l] V fun r V'=>RP V' r (((l_1:Int):Rat)) (-(((im:Int):Rat))):=by
 have hl0:=hl
 obtain ⟨l0,l1,l2,l3,l4,l5,l6,l7,l8,rfl,A8,A9,EN⟩:=hl
 refine Ac _ l0 l1 l2 _ l3 l4 l5 _ l6 l7 l8 V _ fun V1 l1=>(iF (A9.le (l1)) mh (by omega)).mono ?_
 rintro r V2 l2 g1
 have g10:=g1
 obtain ⟨Ll,Lm,Ln,VT,VU,VV,rfl⟩:=g1.shape
 have gN:Sz (1*k+0) (((l_1:Int):Rat)):=Sz.mono (mh) (by omega)
 refine ⟨_,_,_,_,_,_,_,rfl,fun V3 l3=>(iF (A8.le (l1.trans (l2.trans (l3)))) kW (by omega)).mono ?_⟩
 rintro r V4 l4 g2
 have g20:=g2
 obtain ⟨LZ,L1,L4,V_,Wa,Wb,rfl⟩:=g2.shape
 have gO:Sz (1*k+0) (((im:Int):Rat)):=Sz.mono (kW) (by omega)
 refine ⟨_,_,_,_,_,_,_,rfl,fun V5 l5=>(kF (g20.le (l5)) gO (by omega)).mono ?_⟩
 rintro r V6 l6 g3
 have Ft:=g3
 obtain ⟨Pc,Pf,Pg,Wc,We,Wf,rfl⟩:=g3.shape
 have sQ:Sz (1*k+0) (-(((im:Int):Rat))):=Sz.mono (Sz.neg gO) (by omega)
 exact ⟨_,_,_,_,_,_,_,rfl,fun V7 l7=>⟨_,_,_,_,_,_,_,_,_,_,_,_,rfl,(g10.le (l3.trans (l4.trans (l5.trans (l6.trans (l7)))))),(Ft.le (l7))⟩⟩
theorem wk {V:View}{l:Value}{im l_1 lW:Int}{p:Value}{dM dF:Rat}(hl:RL V l im l_1 lW)(hp:RP V p dM dF){k:Nat}(kW:Sz k ((im:Int):Rat))(mh:Sz k ((l_1:Int):Rat))(mi:Sz k ((lW:Int):Rat))(fm:Sz k dM)(eJ:Sz k dF)(hk:5*k+4<274877906944) :
  ab prog 66 #[l,p] V fun r V'=>RQ V' r ((((((im:Int):Rat))*(dM))+((((l_1:Int):Rat))*(dF)))+(((lW:Int):Rat))):=by
 have hl0:=hl
 obtain ⟨l0,l1,l2,l3,l4,l5,l6,l7,l8,rfl,A8,A9,EN⟩:=hl
 have hp0:=hp
 obtain ⟨p0,p1,p2,p3,p4,p5,p6,p7,p8,p9,K3,NW,rfl,si,sj⟩:=hp
 refine vO _ l0 l1 l2 _ l3 l4 l5 _ l6 l7 l8 _ p0 p1 p2 p3 p4 p5 _ p6 p7 p8 p9 K3 NW V _ fun V1 l1=>(iF (A8.le (l1)) kW (by omega)).mono ?_
 rintro r V2 l2 g1
 have g10:=g1
 obtain ⟨Ll,Lm,Ln,VT,VU,VV,rfl⟩:=g1.shape
 have gN:Sz (1*k+0) (((im:Int):Rat)):=Sz.mono (kW) (by omega)
 refine ⟨_,_,_,_,_,_,_,rfl,fun V3 l3=>(bJ (g10.le (l3)) (si.le (l1.trans (l2.trans (l3)))) gN fm (by omega)).mono ?_⟩
 rintro r V4 l4 g2
 have g20:=g2
 obtain ⟨LZ,L1,L4,V_,Wa,Wb,rfl⟩:=g2.shape
 have gO:Sz (2*k+1) ((((im:Int):Rat))*(dM)):=Sz.mono (Sz.mul gN fm) (by omega)
 refine ⟨_,_,_,_,_,_,_,rfl,fun V5 l5=>(iF (A9.le (l1.trans (l2.trans (l3.trans (l4.trans (l5)))))) mh (by omega)).mono ?_⟩
 rintro r V6 l6 g3
 have Ft:=g3
 obtain ⟨Pc,Pf,Pg,Wc,We,Wf,rfl⟩:=g3.shape
 have sQ:Sz (1*k+0) (((l_1:Int):Rat)):=Sz.mono (mh) (by omega)
 refine ⟨_,_,_,_,_,_,_,rfl,fun V7 l7=>(bJ (Ft.le (l7)) (sj.le (l1.trans (l2.trans (l3.trans (l4.trans (l5.trans (l6.trans (l7)))))))) sQ eJ (by omega)).mono ?_⟩
 rintro r V8 l8 g4
 have Uo:=g4
 obtain ⟨W3,W4,W5,W6,W7,W8,rfl⟩:=g4.shape
 have OC:Sz (2*k+1) ((((l_1:Int):Rat))*(dF)):=Sz.mono (Sz.mul sQ eJ) (by omega)
 refine ⟨_,_,_,_,_,_,_,rfl,fun V9 l9=>(fF (g20.le (l5.trans (l6.trans (l7.trans (l8.trans (l9)))))) (Uo.le (l9)) gO OC (by omega)).mono ?_⟩
 rintro r gQ l10 g5
 have Up:=g5
 obtain ⟨W9,W_,Xa,Xb,Xc,Xd,rfl⟩:=g5.shape
 have OD:Sz (4*k+3) (((((im:Int):Rat))*(dM))+((((l_1:Int):Rat))*(dF))):=Sz.mono (Sz.add gO OC) (by omega)
 refine ⟨_,_,_,_,_,_,_,rfl,fun jw bQ=>(iF (EN.le (l1.trans (l2.trans (l3.trans (l4.trans (l5.trans (l6.trans (l7.trans (l8.trans (l9.trans (l10.trans (bQ)))))))))))) mi (by omega)).mono ?_⟩
 rintro r kv cp g6
 have Uq:=g6
 obtain ⟨Xe,Xf,Xg,Xi,Xj,Xk,rfl⟩:=g6.shape
 have OE:Sz (1*k+0) (((lW:Int):Rat)):=Sz.mono (mi) (by omega)
 refine ⟨_,_,_,_,_,_,_,rfl,fun lA bW=>(fF (Up.le (bQ.trans (cp.trans (bW)))) (Uq.le (bW)) OD OE (by omega)).mono ?_⟩
 rintro r qk dK g7
 have Ur:=g7
 obtain ⟨Xl,Xm,Xn,Xo,Xp,Xq,rfl⟩:=g7.shape
 have Wh:Sz (5*k+4) ((((((im:Int):Rat))*(dM))+((((l_1:Int):Rat))*(dF)))+(((lW:Int):Rat))):=Sz.mono (Sz.add OD OE) (by omega)
 exact ⟨_,_,_,_,_,_,_,rfl,fun oM dZ=>(Ur.le (dZ))⟩
theorem RA.shape {V:View}{v:Value}{q:Rat}(h:RA V v q):∃b p n c p' n' c',v=.agg #[.bool b,.slice p n c,.slice p' n' c']:=by
 obtain ⟨p,n,c,p',n',c',e,-⟩:=h;exact ⟨_,_,_,_,_,_,_,e⟩
def Kd (V:View)(v:Value)(x y:Rat):Prop:=∃b p n c p' n' c' d q m e q' m' e',v=.agg #[.bool b,.slice p n c,.slice p' n' c',.bool d,.slice q m e,.slice q' m' e'] /\
 RA V (.agg #[.bool b,.slice p n c,.slice p' n' c']) x/\RA V (.agg #[.bool d,.slice q m e,.slice q' m' e']) y
theorem Kd.le {V V':View}{v:Value}{x y:Rat}(h:Kd V v x y)(l:V.Le V'):Kd V' v x y:=by
 obtain ⟨b,p,n,c,p',n',c',d,q,m,e,q',m',e',rfl,h1,h2⟩:=h
 exact ⟨_,_,_,_,_,_,_,_,_,_,_,_,_,_,rfl,h1.le l,h2.le l⟩
theorem Cq {V:View}{v:Value}{x y:Rat}(h:Kd V v x y){k:Nat}(s1:Sz k x)(s2:Sz k y)(hk:k<=1099511627776) :
  ab prog 47 #[v] V fun r V'=>lx V' r x y:=by
 obtain ⟨b,p,n,c,p',n',c',d,q,m,e,q',m',e',rfl,h1,h2⟩:=h
 refine rT b p n c p' n' c' d q m e q' m' e' V _ fun V1 l1=>(xD (h1.le l1) s1 hk).mono ?_
 rintro r V2 l2 g1
 have g10:=g1
 obtain ⟨u,v,w,rfl⟩:=g1.shape
 refine ⟨_,_,_,rfl,fun V3 l3=>(xD (h2.le (l1.trans (l2.trans l3))) s2 hk).mono ?_⟩
 rintro r V4 l4 g2
 have g20:=g2
 obtain ⟨u,v,w,rfl⟩:=g2.shape
 exact ⟨_,_,_,rfl,fun V5 l5=>⟨_,_,_,_,_,_,rfl,g10.le (l3.trans (l4.trans l5)),g20.le l5⟩⟩
theorem v_ {V:View}{l p:Value}{im l_1 lW dM dF:Rat}(hl:Cd V l im l_1 lW)(hp:lx V p dM dF){k:Nat}(s0:Sz k im)(s1:Sz k l_1)(s2:Sz k lW)(s3:Sz k dM)(s4:Sz k dF)(hk:16*k+16<274877906944) :
  ab prog 125 #[l,p] V fun r V'=>r=.int .i64 (im*dM+l_1*dF+lW).num.sign:=by
 have hl0:=hl
 have hp0:=hp
 obtain ⟨a0,a1,a2,a3,a4,a5,a6,a7,a8,rfl,-,-,-⟩:=hl
 obtain ⟨p0,p1,p2,p3,p4,p5,rfl,-,-⟩:=hp
 refine vz a0 a1 a2 a3 a4 a5 a6 a7 a8 p0 p1 p2 p3 p4 p5 V _ fun V1 l1=>(tX (hl0.le l1) (hp0.le l1) s0 s1 s2 s3 s4 (by omega)).mono ?_
 rintro r V2 l2 g
 have g0:=g
 obtain ⟨u,v,w,rfl⟩:=g.shape
 refine ⟨_,_,_,rfl,fun V3 l3=>(eT (g0.le l3) (re s0 s1 s2 s3 s4) (by omega)).mono ?_⟩
 rintro r V4 l4 rfl
 exact ⟨_,rfl,fun V5 l5=>rfl⟩
theorem rq {V:View}{v:Value}{q:Rat}(h:RQ V v q){k:Nat}(s:Sz k q)(hk:k<=1099511627776):ab prog 49 #[v] V fun r V'=>RA V' r q:=by
 obtain ⟨p,n,c,p',n',c',rfl,h1,h2⟩:=h
 have q1:=ah s.1
 have q2:=ah s.2
 refine z_ _ p n c p' n' c' V _ fun V1 l1=>(jc ⟨_,_,_,rfl,h1.le l1⟩ (by omega)).mono ?_
 rintro r V2 l2 ⟨p1,n1,c1,rfl,g1⟩
 refine ⟨_,_,_,_,rfl,fun V3 l3=>(cw q _ (h2.le (l1.trans (l2.trans l3)))).mono ?_⟩
 rintro r V4 l4 ⟨p2,n2,c2,rfl,g2⟩
 refine ⟨_,_,_,rfl,fun V5 l5=>(rm (g2.le l5) (by omega)).mono ?_⟩
 rintro r V6 l6 ⟨p3,n3,c3,rfl,g3⟩
 exact ⟨_,_,_,rfl,fun V7 l7=>⟨_,_,_,_,_,_,rfl,g1.le (l3.trans (l4.trans (l5.trans (l6.trans l7)))),g3.le l7⟩⟩
theorem lN {V:View}{v:Value}{x y:Rat}(h:RP V v x y){k:Nat}(s1:Sz k x)(s2:Sz k y)(hk:k<=1099511627776):ab prog 15 #[v] V fun r V'=>Kd V' r x y:=by
 obtain ⟨p1,n1,c1,p2,n2,c2,p3,n3,c3,p4,n4,c4,rfl,h1,h2⟩:=h
 refine Ah _ p1 n1 c1 p2 n2 c2 _ p3 n3 c3 p4 n4 c4 V _ fun V1 l1=>(rq (h1.le l1) s1 hk).mono ?_
 rintro r V2 l2 g1
 have g10:=g1
 obtain ⟨_,_,_,_,_,_,_,rfl⟩:=g1.shape
 refine ⟨_,_,_,_,_,_,_,rfl,fun V3 l3=>(rq (h2.le (l1.trans (l2.trans l3))) s2 hk).mono ?_⟩
 rintro r V4 l4 g2
 have g20:=g2
 obtain ⟨_,_,_,_,_,_,_,rfl⟩:=g2.shape
 exact ⟨_,_,_,_,_,_,_,rfl,fun V5 l5=>⟨_,_,_,_,_,_,_,_,_,_,_,_,_,_,rfl,g10.le (l3.trans (l4.trans l5)),g20.le l5⟩⟩
abbrev L3:=Int×Int×Int
def gT (x:L3):Bool:=decide (¬(x.1=0/\x.2.1=0))&&decide (j7 x.1 x.2.1 x.2.2=1)
def Bd (x:L3):Prop:=x.1.natAbs<2^1000/\x.2.1.natAbs<2^1000/\x.2.2.natAbs<2^1000
inductive Tr where
 | leaf (i:Bool)|node (l:L3) (a b:Tr)
 deriving DecidableEq
structure Nd where
 ln:L3
 left:Int
 right:Int
 deriving DecidableEq
def Tr.size:Tr->Nat
 | .leaf _=>0
 | .node _ a b=>a.size+b.size+1
def Tr.KP:Tr->Bool
 | .leaf _=>true
 | .node ..=>false
def Tr.iU (p:L3->Prop):Tr->Prop
 | .leaf _=>True
 | .node l a b=>p l/\a.iU p/\b.iU p
theorem Tr.iU.imp {p q:L3->Prop}(h:∀x,p x->q x):∀{t:Tr},t.iU p->t.iU q
 | .leaf _,_=>trivial
 | .node _ _ _,⟨h1,h2,h3⟩=>⟨h _ h1,Tr.iU.imp h h2,Tr.iU.imp h h3⟩
def rt (k:Nat):Tr->Int
 | .leaf i=>if i then -2 else -1
 | .node ..=>(k:Int)
def wr:Nat->Tr->List Nd
 | _,.leaf _=>[]
 | k,.node l a b=>⟨l,rt (k+1) a,rt (k+1+a.size) b⟩::(wr (k+1) a++wr (k+1+a.size) b)
theorem dI:∀(t:Tr)(k:Nat),(wr k t).length=t.size
 | .leaf _,_=>rfl
 | .node _ a b,k=>by simp only [wr,List.length_cons,List.length_append,dI a,dI b,Tr.size]
def Mb (l:List Nd):Int->Tr->List Nat->Prop
 | n,.leaf i,I=>n=(if i then -2 else -1)/\I=[]
 | n,.node ln a b,I=>∃(k:Nat)(x:Nd)(A B:List Nat),n=(k:Int)/\l[k]?=some x/\x.ln=ln/\Mb l x.left a A/\Mb l x.right b B/\I=k::(A++B)
theorem C9:∀(t:Tr)(l pre post:List Nd)(k:Nat),l=pre++(wr k t++post)->pre.length=k->Mb l (rt k t) t (List.range' k t.size)
 | .leaf i,l,pre,post,k,_,_=>⟨rfl,rfl⟩
 | .node ln a b,l,pre,post,k,hl,hp=>by
  refine ⟨k,⟨ln,rt (k+1) a,rt (k+1+a.size) b⟩,List.range' (k+1) a.size,List.range' (k+1+a.size) b.size,rfl,?_,rfl,?_,?_,?_⟩
  ·subst hl
   rw [List.getElem?_append_right (by omega)]
   simp [hp,wr]
  ·refine C9 a l (pre++[⟨ln,rt (k+1) a,rt (k+1+a.size) b⟩]) (wr (k+1+a.size) b++post) (k+1) ?_ (by simp [hp])
   rw [hl];simp [wr]
  ·refine C9 b l (pre++(⟨ln,rt (k+1) a,rt (k+1+a.size) b⟩::wr (k+1) a)) post (k+1+a.size) ?_ (by simp [hp,dI];omega)
   rw [hl];simp [wr]
  ·simp only [Tr.size]
   rw [List.range'_succ,←List.range'_append_1]
structure RS where
 seen:List Bool
 jZ:Nat
 bad:Bool
def cY (l:List Nd):Nat->Int->RS->Tr×RS
 | 0,_,s=>(.leaf false,s)
 | f+1,n,s=>
  if n=-2 then (.leaf true,s) else if n=-1 then (.leaf false,s) else if n<0 then (.leaf false,{ s with bad:=true })
  else match l[n.toNat]?,s.seen[n.toNat]? with
   | some x,some false=>
    if gT x.ln then
     let r1:=cY l f x.left ⟨s.seen.set n.toNat true,s.jZ+1,s.bad⟩
     let r2:=cY l f x.right r1.2
     (.node x.ln r1.1 r2.1,r2.2)
    else (.leaf false,⟨s.seen.set n.toNat true,s.jZ+1,true⟩)
   | _,_=>(.leaf false,{ s with bad:=true })
theorem count_set {l:List Bool}{k:Nat}(h:l[k]?=some false):(l.set k true).count false+1=l.count false:=by
 induction l generalizing k with
 | nil=>simp at h
 | cons x r ih=>
  cases k with
  | zero=>simp at h;subst h;simp
  | succ k=>
   simp at h
   have:=ih h
   simp only [List.set_cons_succ,List.count_cons]
   omega
theorem l_ (l:List Nd):∀(f:Nat)(n:Int)(s:RS),(cY l f n s).2.seen.count false<=s.seen.count false/\(cY l f n s).2.seen.length=s.seen.length
 | 0,_,_=>⟨Nat.le_refl _,rfl⟩
 | f+1,n,s=>by
  simp only [cY]
  split
  ·exact ⟨Nat.le_refl _,rfl⟩
  ·split
   ·exact ⟨Nat.le_refl _,rfl⟩
   ·split
    ·exact ⟨Nat.le_refl _,rfl⟩
    ·split
     ·rename_i x hx hs
      have hc:=count_set hs
      split
      ·obtain ⟨h1,h2⟩:=l_ l f x.left ⟨s.seen.set n.toNat true,s.jZ+1,s.bad⟩
       obtain ⟨h3,h4⟩:=l_ l f x.right (cY l f x.left ⟨s.seen.set n.toNat true,s.jZ+1,s.bad⟩).2
       dsimp only at h1 h2 h3 h4 ⊢
       exact ⟨by omega,by rw [h4,h2,List.length_set]⟩
      ·dsimp only;exact ⟨by omega,by simp⟩
     ·exact ⟨Nat.le_refl _,rfl⟩
theorem tq (l:List Nd):∀(f:Nat)(n:Int)(s:RS),(cY l f n s).2.jZ+(cY l f n s).2.seen.count false=s.jZ+s.seen.count false
 | 0,_,_=>rfl
 | f+1,n,s=>by
  simp only [cY]
  split
  ·rfl
  ·split
   ·rfl
   ·split
    ·rfl
    ·split
     ·rename_i x hx hs
      have hc:=count_set hs
      split
      ·have h1:=tq l f x.left ⟨s.seen.set n.toNat true,s.jZ+1,s.bad⟩
       have h3:=tq l f x.right (cY l f x.left ⟨s.seen.set n.toNat true,s.jZ+1,s.bad⟩).2
       dsimp only at h1 h3 ⊢
       omega
      ·dsimp only;omega
     ·rfl
theorem zw {p:L3->Prop}{l:List Nd}(hl:∀x∈l,p x.ln):∀(f:Nat)(n:Int)(s:RS),(cY l f n s).1.iU p
 | 0,_,_=>trivial
 | f+1,n,s=>by
  simp only [cY]
  split
  ·trivial
  ·split
   ·trivial
   ·split
    ·trivial
    ·split
     ·rename_i x hx hs
      split
      ·exact ⟨hl x (List.mem_of_getElem? hx),zw hl f _ _,zw hl f _ _⟩
      ·trivial
     ·trivial
def ot (s:List Bool)(I:List Nat):List Bool:=I.foldl (fun s k=>s.set k true) s
theorem vd:∀(I:List Nat)(s:List Bool)(k:Nat),k∉I->(ot s I)[k]?=s[k]?
 | [],_,_,_=>rfl
 | i::r,s,k,h=>by
  have:=vd r (s.set i true) k (fun h'=>h (List.mem_cons_of_mem _ h'))
  unfold ot at this ⊢
  rw [List.foldl_cons,this,List.getElem?_set_ne (fun e=>h (by simp [e]))]
theorem zx (l:List Nd):∀(t:Tr)(f:Nat)(n:Int)(s:RS)(I:List Nat),Mb l n t I->I.Nodup->(∀k∈I,s.seen[k]?=some false)->t.iU (fun x=>gT x=true)->t.size<f->cY l f n s=(t,⟨ot s.seen I,s.jZ+t.size,s.bad⟩)
 | .leaf i,f,n,s,I,⟨h1,h2⟩,_,_,_,hf=>by
  subst h2
  obtain ⟨f,rfl⟩:∃g,f=g+1:=⟨f-1,by simp [Tr.size] at hf;omega⟩
  cases i with
  | true=>simp only [if_true] at h1;subst h1;simp [cY,ot,Tr.size]
  | false=>
   have h1:n=-1:=by simpa using h1
   subst h1;simp [cY,ot,Tr.size]
 | .node ln a b,f,n,s,I,⟨k,x,A,B,h1,h2,h3,h4,h5,h6⟩,hnd,hun,hok,hf=>by
  subst h1 h3 h6
  obtain ⟨f,rfl⟩:∃g,f=g+1:=⟨f-1,by simp [Tr.size] at hf;omega⟩
  rw [List.nodup_cons,List.nodup_append] at hnd
  obtain ⟨hk,hA,hB,UC⟩:=hnd
  have hks:=hun k (by simp)
  simp only [Tr.size] at hf
  have e1:=zx l a f x.left ⟨s.seen.set k true,s.jZ+1,s.bad⟩ A h4 hA (fun j hj=>by
   have:k≠j:=fun e=>hk (by rw [e];simp [hj])
   dsimp only
   rw [List.getElem?_set_ne this]
   exact hun j (by simp [hj])) hok.2.1 (by omega)
  have e2:=zx l b f x.right ⟨ot (s.seen.set k true) A,s.jZ+1+a.size,s.bad⟩ B h5 hB (fun j hj=>by
   have:k≠j:=fun e=>hk (by rw [e];simp [hj])
   dsimp only
   rw [vd A _ j (fun h=>UC j h j hj rfl),List.getElem?_set_ne this]
   exact hun j (by simp [hj])) hok.2.2 (by omega)
  have hn1:¬((k:Int)=-2):=by omega
  have hn2:¬((k:Int)=-1):=by omega
  have UT:¬((k:Int)<0):=by omega
  have e0:cY l (f+1) (k:Int) s=(.node x.ln (cY l f x.left ⟨s.seen.set k true,s.jZ+1,s.bad⟩).1 (cY l f x.right (cY l f x.left ⟨s.seen.set k true,s.jZ+1,s.bad⟩).2).1,(cY l f x.right (cY l f x.left ⟨s.seen.set k true,s.jZ+1,s.bad⟩).2).2):=by
   rw [cY]
   rw [if_neg hn1,if_neg hn2,if_neg UT]
   simp only [Int.toNat_natCast,h2,hks,hok.1,if_true]
  rw [e0,e1]
  dsimp only
  rw [e2]
  simp only [ot,List.foldl_cons,List.foldl_append,Tr.size,Prod.mk.injEq,RS.mk.injEq,true_and]
  first|omega|exact ⟨by omega,trivial⟩
def kd (l:List Nd)(root:Int):Option Tr:=
 if 65536<l.length then none else
 let r:=cY l (l.length+1) root ⟨List.replicate l.length false,0,false⟩
 if r.2.bad=true\/r.2.jZ≠l.length then none else some r.1
theorem I8 {l:List Nd}{n:Int}{t:Tr}{I:List Nat}(h:Mb l n t I)(hn:I.Nodup)(hI:∀k∈I,k<l.length)(hs:t.size=l.length)(hok:t.iU fun x=>gT x=true)(hl:l.length<=65536):kd l n=some t:=by
 unfold kd
 rw [if_neg (by omega)]
 rw [zx l t (l.length+1) n _ I h hn (fun k hk=>by simp [hI k hk]) hok (by omega)]
 simp [hs]
theorem KW {t:Tr}(hok:t.iU fun x=>gT x=true)(hl:t.size<=65536):kd (wr 0 t) (rt 0 t)=some t:=by
 have h:=C9 t (wr 0 t) [] [] 0 (by simp) rfl
 refine I8 h List.nodup_range' (fun k hk=>?_) (dI t 0).symm hok (by rw [dI];exact hl)
 rw [dI]
 have:=List.mem_range'_1.1 hk
 omega
theorem zl {p:L3->Prop}{l:List Nd}{n:Int}{t:Tr}(hl:∀x∈l,p x.ln)(h:kd l n=some t):t.iU p:=by
 unfold kd at h
 split at h
 ·cases h
 ·dsimp only at h
  split at h
  ·cases h
  ·cases h;exact zw hl _ _ _
def Vl (n Kn i:Nat):Nat:=n-1-(i+Kn)%n
def mv (n Kn:Nat)(i:Int):Int:=if i<0 then i else (Vl n Kn i.toNat:Int)
theorem yz (a:Addr)(i j:Nat):(a.add i).add j=a.add (i+j):=by
 unfold Addr.add
 by_cases h1:i=0
 ·subst h1;simp
 ·by_cases h2:j=0
  ·subst h2;simp [h1]
  ·simp [h1,h2,Nat.add_assoc]
theorem yj {V:View}{b:Nat}{xs:List Value}{ty:TypeId}{m:Nat×Nat}(h:V.bu b (.cells xs.toArray ty m))(i:Nat){v:Value}(hv:xs[i]?=some v):∃a,ag (some ⟨b,0,none⟩) i=some a/\V.at a v:=
 ⟨⟨b,i,none⟩,by simp [ag,add_zero'],bU h hv⟩
theorem pL {a b c:Int}:iX (decide (a<0)) (ai a.natAbs) (decide (b<0)) (ai b.natAbs) (decide (c<0)) (ai c.natAbs)=gT (a,b,c):=by
 have hn:∀z:Int,eO (decide (z<0)) (ai z.natAbs)=true:=by
  intro z
  unfold eO
  rw [af]
  simp only [decide_true,Bool.true_and]
  by_cases h:z<0
  ·simp only [h,decide_true,Bool.not_true,Bool.false_or,decide_eq_true_eq]
   intro e
   have:=aZ.1 e
   omega
  ·simp [h]
 have hg:gH (gH (a:Rat) (b:Rat)) (c:Rat)=((j7 a b c:Nat):Int):=by
  have g2:∀x y:Int,gH (x:Rat) (y:Rat)=((Nat.gcd x.natAbs y.natAbs:Nat):Int):=by
   intro x y
   unfold gH
   have e1:((x:Rat)).num=x:=rfl
   have e2:((y:Rat)).num=y:=rfl
   have e3:((x:Rat)).den=1:=rfl
   have e4:((y:Rat)).den=1:=rfl
   rw [e1,e2,e3,e4]
   simp only [Nat.mul_one]
   exact Rat.mkRat_one _
  rw [g2,g2]
  rfl
 unfold iX gT
 rw [hn,hn,hn,az,az,az,hg]
 have h0:∀z:Int,((z:Rat)=0)↔z=0:=fun z=>by exact Rat.intCast_eq_zero_iff
 simp only [Bool.true_and,h0]
 rw [Bool.eq_iff_iff]
 simp only [Bool.and_eq_true,Bool.not_eq_true',Bool.and_eq_false_iff,decide_eq_false_iff_not,decide_eq_true_eq]
 have h1:(((j7 a b c:Nat):Int):Rat)=((1:Int):Rat)↔j7 a b c=1:=by
  rw [Rat.intCast_inj];omega
 rw [h1]
 constructor
 ·rintro ⟨h,h'⟩;exact ⟨fun e=>by rcases h with h|h;exact h e.1;exact h e.2,h'⟩
 ·rintro ⟨h,h'⟩
  refine ⟨?_,h'⟩
  by_cases ha:a=0
  ·exact .inr fun hb=>h ⟨ha,hb⟩
  ·exact .inl ha
theorem kZ {z:Int}{k:Nat}(h:z.natAbs<2^k)(hk:0<k):Sz k (z:Rat):=⟨h,Nat.one_lt_two_pow (by omega)⟩
theorem Bd.ai {x:L3}(h:Bd x):(ai x.1.natAbs).length<=1000/\(ai x.2.1.natAbs).length<=1000/\(ai x.2.2.natAbs).length<=1000:=⟨ah h.1,ah h.2.1,ah h.2.2⟩
theorem Bd.sz {x:L3}(h:Bd x):Sz 1000 (x.1:Rat)/\Sz 1000 (x.2.1:Rat)/\Sz 1000 (x.2.2:Rat):=⟨kZ h.1 (by omega),kZ h.2.1 (by omega),kZ h.2.2 (by omega)⟩
theorem AF {V:View}{v:Value}{x:L3}(h:RL V v x.1 x.2.1 x.2.2)(hb:Bd x) :
  ab prog 132 #[v] V fun r V'=>∃w,r=.tuple #[w,.bool (gT x)]/\H2 w/\(gT x=true->Cd V' w x.1 x.2.1 x.2.2):=by
 obtain ⟨p,n,s,p',n',s',q,m,e,rfl,h1,h2,h3⟩:=h
 obtain ⟨d1,d2,d3⟩:=hb.ai
 obtain ⟨s1,s2,s3⟩:=hb.sz
 have hc:=tW (V:=V) (decide (x.1<0)) (decide (x.2.1<0)) (decide (x.2.2<0)) h1 h2 h3 (by omega) (by omega) (by omega) (k:=1000) (by rw [az];exact s1) (by rw [az];exact s2) (by rw [az];exact s3) (by omega)
 rw [pL,az,az,az] at hc
 exact hc
end Go.Proofs.Tryz
namespace Go.Proofs.Tryz
open Go.bz
set_option maxRecDepth 100000
end Go.Proofs.Tryz
namespace Go.Proofs.Tryz
open Go.bz Go.eM
def small (z:Int)(k:Nat):Bool:=decide (z.natAbs<=k)
theorem rJ (q:Rat)(m:Nat):q*(((q.den*m:Nat):Int):Rat)=((q.num*m:Int):Rat):=by
 have e:q*(((q.den:Nat):Int):Rat)=((q.num:Int):Rat):=by
  have h:=q.den_nz
  have h1:mkRat q.num q.den*mkRat ((q.den:Nat):Int) 1=mkRat q.num 1:=by
   rw [Rat.mkRat_mul_mkRat,Rat.mkRat_eq_iff (by simpa using h) (by omega)]
   simp
  rwa [Rat.mkRat_self,Rat.mkRat_one,Rat.mkRat_one] at h1
 rw [Int.natCast_mul,Rat.intCast_mul,←Rat.mul_assoc,e,←Rat.intCast_mul]
theorem Eg {V:View}{v:Value}{a b c:Int}(h:RL V v a b c):∃(b1:Bool)(p1:OA)(n1 c1:Nat)(b2:Bool)(p2:OA)(n2 c2:Nat)(b3:Bool)(p3:OA)(n3 c3:Nat),v=.agg #[.bool b1,.slice p1 n1 c1,.bool b2,.slice p2 n2 c2,.bool b3,.slice p3 n3 c3]:=by
 obtain ⟨p,n,s,p',n',s',q,m,e,rfl,-⟩:=h
 exact ⟨_,_,_,_,_,_,_,_,_,_,_,_,rfl⟩
def Po (V:View)(p:OA)(n:Nat):Prop:=∀i,i<n->∃(a:Addr)(x:Int),ag p (i*1)=some a/\V.at a (.int .i64 x)
theorem Po.le {V V':View}{p:OA}{n:Nat}(h:Po V p n)(l:V.Le V'):Po V' p n:=fun i hi=>by
 obtain ⟨a,x,e,hx⟩:=h i hi;exact ⟨a,x,e,l.at hx⟩
theorem RQ.zero {V:View}:RQ V (.agg #[.bool false,.slice none 0 0,.slice none 0 0]) ((0:Int):Rat):=⟨none,0,0,none,0,0,rfl,RD.nil,RD.nil⟩
theorem RP.zero {V:View}:RP V (.agg #[.bool false,.slice none 0 0,.slice none 0 0,.bool false,.slice none 0 0,.slice none 0 0]) ((0:Int):Rat) ((0:Int):Rat):=
 ⟨none,0,0,none,0,0,none,0,0,none,0,0,rfl,RQ.zero,RQ.zero⟩
theorem Fa {z:Int}(h:-40<=z/\z<=40):Sz 10 (z:Rat):=kZ (by omega) (by omega)
end Go.Proofs.Tryz
namespace Go.Proofs.Tryz
open Go.bz
set_option maxRecDepth 100000
end Go.Proofs.Tryz
namespace Go.Proofs.Tryz
open Go.bz Go.eM
theorem yS {V:View}{l p:Value}{im l_1 lW:Int}{dM dF:Rat}(hl:RL V l im l_1 lW)(hp:RP V p dM dF){k:Nat}(s0:Sz k ((im:Int):Rat))(s1:Sz k ((l_1:Int):Rat))(s2:Sz k ((lW:Int):Rat))(s3:Sz k dM)(s4:Sz k dF)(hk:16*k+16<274877906944) :
  ab prog 55 #[l,p] V fun r V'=>r=.int .i64 ((im:Rat)*dM+(l_1:Rat)*dF+(lW:Rat)).num.sign:=by
 have hl0:=hl
 have hp0:=hp
 obtain ⟨a0,a1,a2,a3,a4,a5,a6,a7,a8,rfl,-,-,-⟩:=hl
 obtain ⟨p0,p1,p2,p3,p4,p5,p6,p7,p8,p9,K3,NW,rfl,-,-⟩:=hp
 refine w_ _ a0 a1 a2 _ a3 a4 a5 _ a6 a7 a8 _ p0 p1 p2 p3 p4 p5 _ p6 p7 p8 p9 K3 NW V _ fun V1 l1=>(wk (hl0.le l1) (hp0.le l1) s0 s1 s2 s3 s4 (by omega)).mono ?_
 rintro r V2 l2 ⟨u0,u1,u2,u3,u4,u5,rfl,g1,g2⟩
 refine ⟨_,_,_,_,_,_,_,rfl,fun V3 l3=>(DP _ (g1.le l3)).mono ?_⟩
 rintro r V4 l4 rfl
 exact ⟨_,rfl,fun V5 l5=>rfl⟩
theorem AL {V:View}{l:Value}{a b c:Int}(hl:RL V l a b c):ab prog 158 #[l] V fun r V'=>RL V' r (-a) (-b) (-c):=by
 obtain ⟨a0,a1,a2,a3,a4,a5,a6,a7,a8,rfl,h1,h2,h3⟩:=hl
 refine Ae _ a0 a1 a2 _ a3 a4 a5 _ a6 a7 a8 V _ fun V1 l1=>(fV a (h1.le l1)).mono ?_
 rintro r V2 l2 ⟨p1,n1,c1,rfl,g1⟩
 refine ⟨_,_,_,_,rfl,fun V3 l3=>(fV b (h2.le (l1.trans (l2.trans l3)))).mono ?_⟩
 rintro r V4 l4 ⟨p2,n2,c2,rfl,g2⟩
 refine ⟨_,_,_,_,rfl,fun V5 l5=>(fV c (h3.le (l1.trans (l2.trans (l3.trans (l4.trans l5)))))).mono ?_⟩
 rintro r V6 l6 ⟨p3,n3,c3,rfl,g3⟩
 exact ⟨_,_,_,_,rfl,fun V7 l7=>⟨_,_,_,_,_,_,_,_,_,rfl,g1.le (l3.trans (l4.trans (l5.trans (l6.trans l7)))),g2.le (l5.trans (l6.trans l7)),g3.le l7⟩⟩
end Go.Proofs.Tryz
namespace Go.bz
open Go.eM
theorem RR.zero (V:View):RR V (.agg #[.int .i64 0,.int .i64 0,.pointer none]) 0:=.inl ⟨rfl,by unfold Wd;decide⟩
end Go.bz
namespace Go.Proofs.Tryz
open Go.bz Go.eM
structure Sp where
 lo:Rat
 hi:Rat
 a:Bool
 b:Bool
def Sp.can (s:Sp):Prop:=(s.a=true->s.lo=0)/\(s.b=true->s.hi=0)
def Sp.sz (k:Nat)(s:Sp):Prop:=Sz k s.lo/\Sz k s.hi
def Sp.zero:Sp:=⟨0,0,false,false⟩
def Fs (k:Nat)(l:L3):Prop:=Sz k (l.1:Rat)/\Sz k (l.2.1:Rat)/\Sz k (l.2.2:Rat)
def OJ (V:View)(v:Value)(s:Sp):Prop:=∃(x1 x2:Int)(p:OA)(y1 y2:Int)(q:OA),v=.agg #[.int .i64 x1,.int .i64 x2,.pointer p,.int .i64 y1,.int .i64 y2,.pointer q,.bool s.a,.bool s.b] /\
 RR V (.agg #[.int .i64 x1,.int .i64 x2,.pointer p]) s.lo/\RR V (.agg #[.int .i64 y1,.int .i64 y2,.pointer q]) s.hi
theorem OJ.le {V V':View}{v:Value}{s:Sp}(h:OJ V v s)(l:V.Le V'):OJ V' v s:=by
 obtain ⟨x1,x2,p,y1,y2,q,e,h1,h2⟩:=h
 exact ⟨x1,x2,p,y1,y2,q,e,h1.le l,h2.le l⟩
def LB (V:View)(v:Value)(l:L3):Prop:=Cd V v (l.1:Rat) (l.2.1:Rat) (l.2.2:Rat)
theorem LB.le {V V':View}{v:Value}{l:L3}(h:LB V v l)(e:V.Le V'):LB V' v l:=Cd.le h e
def LA (V:View)(v:Value)(l:L3)(s:Sp):Prop:=∃(x1 x2:Int)(p:OA)(y1 y2:Int)(q:OA)(z1 z2:Int)(r:OA)(u1 u2:Int)(t:OA)(w1 w2:Int)(o:OA),
 v=.agg #[.int .i64 x1,.int .i64 x2,.pointer p,.int .i64 y1,.int .i64 y2,.pointer q,.int .i64 z1,.int .i64 z2,.pointer r,.int .i64 u1,.int .i64 u2,.pointer t,.int .i64 w1,.int .i64 w2,.pointer o,.bool s.a,.bool s.b] /\
 LB V (.agg #[.int .i64 x1,.int .i64 x2,.pointer p,.int .i64 y1,.int .i64 y2,.pointer q,.int .i64 z1,.int .i64 z2,.pointer r]) l /\
 OJ V (.agg #[.int .i64 u1,.int .i64 u2,.pointer t,.int .i64 w1,.int .i64 w2,.pointer o,.bool s.a,.bool s.b]) s
theorem LA.le {V V':View}{v:Value}{l:L3}{s:Sp}(h:LA V v l s)(e:V.Le V'):LA V' v l s:=by
 obtain ⟨x1,x2,p,y1,y2,q,z1,z2,r,u1,u2,t,w1,w2,o,rfl,h1,h2⟩:=h
 exact ⟨x1,x2,p,y1,y2,q,z1,z2,r,u1,u2,t,w1,w2,o,rfl,h1.le e,h2.le e⟩
def Ci (V:View)(v:Value)(b:Bool)(xs ys:List Nat):Prop:=∃p n c p' n' c',v=.agg #[.bool b,.slice p n c,.slice p' n' c']/\RD V p n c xs/\RD V p' n' c' ys
theorem Ci.le {V V':View}{v:Value}{b:Bool}{xs ys:List Nat}(h:Ci V v b xs ys)(l:V.Le V'):Ci V' v b xs ys:=by
 obtain ⟨p,n,c,p',n',c',e,h1,h2⟩:=h;exact ⟨p,n,c,p',n',c',e,h1.le l,h2.le l⟩
theorem Ci.nil {V:View}:Ci V (.agg #[.bool false,.slice none 0 0,.slice none 0 0]) false [] []:=⟨_,_,_,_,_,_,rfl,RD.nil,RD.nil⟩
def RE (V:View)(v:Value)(q:Rat)(no:Bool):Prop:=(no=true->Ci V v false [] [])/\(no=false->RA V v q)
theorem RE.le {V V':View}{v:Value}{q:Rat}{no:Bool}(h:RE V v q no)(l:V.Le V'):RE V' v q no:=⟨fun e=>(h.1 e).le l,fun e=>(h.2 e).le l⟩
theorem RE.shape {V:View}{v:Value}{q:Rat}{no:Bool}(h:RE V v q no):∃b p n c p' n' c',v=.agg #[.bool b,.slice p n c,.slice p' n' c']:=by
 cases no with
 | true=>obtain ⟨_,_,_,_,_,_,e,-⟩:=h.1 rfl;exact ⟨_,_,_,_,_,_,_,e⟩
 | false=>exact (h.2 rfl).shape
def OK (V:View)(v:Value)(s:Sp):Prop:=∃b p n c p' n' c' d q m e q' m' e',v=.agg #[.bool b,.slice p n c,.slice p' n' c',.bool d,.slice q m e,.slice q' m' e',.bool s.a,.bool s.b] /\
 RE V (.agg #[.bool b,.slice p n c,.slice p' n' c']) s.lo s.a/\RE V (.agg #[.bool d,.slice q m e,.slice q' m' e']) s.hi s.b
theorem OK.le {V V':View}{v:Value}{s:Sp}(h:OK V v s)(l:V.Le V'):OK V' v s:=by
 obtain ⟨b,p,n,c,p',n',c',d,q,m,e,q',m',e',rfl,h1,h2⟩:=h
 exact ⟨_,_,_,_,_,_,_,_,_,_,_,_,_,_,rfl,h1.le l,h2.le l⟩
def Lz (V:View)(v:Value)(l:L3)(s:Sp):Prop:=∃b1 p1 n1 c1 b2 p2 n2 c2 b3 p3 n3 c3 b p n c p' n' c' d q m e q' m' e',
 v=.agg #[.bool b1,.slice p1 n1 c1,.bool b2,.slice p2 n2 c2,.bool b3,.slice p3 n3 c3,.bool b,.slice p n c,.slice p' n' c',.bool d,.slice q m e,.slice q' m' e',.bool s.a,.bool s.b] /\
 RL V (.agg #[.bool b1,.slice p1 n1 c1,.bool b2,.slice p2 n2 c2,.bool b3,.slice p3 n3 c3]) l.1 l.2.1 l.2.2/\OK V (.agg #[.bool b,.slice p n c,.slice p' n' c',.bool d,.slice q m e,.slice q' m' e',.bool s.a,.bool s.b]) s
theorem Lz.le {V V':View}{v:Value}{l:L3}{s:Sp}(h:Lz V v l s)(e:V.Le V'):Lz V' v l s:=by
 obtain ⟨b1,p1,n1,c1,b2,p2,n2,c2,b3,p3,n3,c3,b,p,n,c,p',n',c',d,q,m,f,q',m',f',rfl,h1,h2⟩:=h
 exact ⟨_,_,_,_,_,_,_,_,_,_,_,_,_,_,_,_,_,_,_,_,_,_,_,_,_,_,rfl,h1.le e,h2.le e⟩
def Ma (V:View)(v:Value)(s:Sp):Prop:=∃b p n c p' n' c' d q m e q' m' e',v=.agg #[.bool b,.slice p n c,.slice p' n' c',.bool d,.slice q m e,.slice q' m' e',.bool s.a,.bool s.b] /\
 RQ V (.agg #[.bool b,.slice p n c,.slice p' n' c']) s.lo/\RQ V (.agg #[.bool d,.slice q m e,.slice q' m' e']) s.hi
theorem Ma.le {V V':View}{v:Value}{s:Sp}(h:Ma V v s)(l:V.Le V'):Ma V' v s:=by
 obtain ⟨b,p,n,c,p',n',c',d,q,m,e,q',m',e',rfl,h1,h2⟩:=h
 exact ⟨_,_,_,_,_,_,_,_,_,_,_,_,_,_,rfl,h1.le l,h2.le l⟩
def RF (V:View)(v:Value)(l:L3)(s:Sp):Prop:=∃b1 p1 n1 c1 b2 p2 n2 c2 b3 p3 n3 c3 b p n c p' n' c' d q m e q' m' e',
 v=.agg #[.bool b1,.slice p1 n1 c1,.bool b2,.slice p2 n2 c2,.bool b3,.slice p3 n3 c3,.bool b,.slice p n c,.slice p' n' c',.bool d,.slice q m e,.slice q' m' e',.bool s.a,.bool s.b] /\
 RL V (.agg #[.bool b1,.slice p1 n1 c1,.bool b2,.slice p2 n2 c2,.bool b3,.slice p3 n3 c3]) l.1 l.2.1 l.2.2/\Ma V (.agg #[.bool b,.slice p n c,.slice p' n' c',.bool d,.slice q m e,.slice q' m' e',.bool s.a,.bool s.b]) s
theorem RF.le {V V':View}{v:Value}{l:L3}{s:Sp}(h:RF V v l s)(e:V.Le V'):RF V' v l s:=by
 obtain ⟨b1,p1,n1,c1,b2,p2,n2,c2,b3,p3,n3,c3,b,p,n,c,p',n',c',d,q,m,f,q',m',f',rfl,h1,h2⟩:=h
 exact ⟨_,_,_,_,_,_,_,_,_,_,_,_,_,_,_,_,_,_,_,_,_,_,_,_,_,_,rfl,h1.le e,h2.le e⟩
def cq (l:L3)(x y:Rat):Rat:=(l.1:Rat)*x+(l.2.1:Rat)*y+(l.2.2:Rat)
def zJ (l:L3):L3:=(-l.1,-l.2.1,-l.2.2)
def Sp.neg (s:Sp):Sp:=⟨if s.b then 0 else -s.hi,if s.a then 0 else -s.lo,s.b,s.a⟩
def Sp.emp (s:Sp):Bool:=!s.a&&!s.b&&decide (uf s.lo s.hi≥0)
theorem Gt {V:View}{l p:Value}{L:L3}{x y:Rat}(hl:LB V l L)(hp:lx V p x y){k:Nat}(sl:Fs k L)(s1:Sz k x)(s2:Sz k y)(hk:16*k+16<274877906944) :
  ab prog 125 #[l,p] V fun r V'=>r=.int .i64 (cq L x y).num.sign:=v_ hl hp sl.1 sl.2.1 sl.2.2 s1 s2 hk
theorem Fs.rev {k:Nat}{L:L3}(h:Fs k L):Fs k (zJ L):=by
 unfold Fs zJ
 simp only [Rat.intCast_neg]
 exact ⟨h.1.neg,h.2.1.neg,h.2.2.neg⟩
theorem Hk {V:View}{l p:Value}{L:L3}{x y:Rat}(hl:RL V l L.1 L.2.1 L.2.2)(hp:RP V p x y){k:Nat}(sl:Fs k L)(s1:Sz k x)(s2:Sz k y)(hk:16*k+16<274877906944) :
  ab prog 55 #[l,p] V fun r V'=>r=.int .i64 (cq L x y).num.sign:=yS hl hp sl.1 sl.2.1 sl.2.2 s1 s2 hk
structure Pp (V:View) (vs:List Value) (i:Int) (f a b c:Rat):Prop where
 h0:0<=i
 h3:i<=3
 row:∃(x1 x2:Int)(p:OA)(y1 y2:Int)(q:OA)(z1 z2:Int)(r:OA),vs=[.int .i64 x1,.int .i64 x2,.pointer p,.int .i64 y1,.int .i64 y2,.pointer q,.int .i64 z1,.int .i64 z2,.pointer r] /\
  RR V (.agg #[.int .i64 x1,.int .i64 x2,.pointer p]) (if 0<i then a*f else a)/\RR V (.agg #[.int .i64 y1,.int .i64 y2,.pointer q]) (if 1<i then b*f else b)/\RR V (.agg #[.int .i64 z1,.int .i64 z2,.pointer r]) (if 2<i then c*f else c)
theorem Pp.le {V V':View}{vs:List Value}{i:Int}{f a b c:Rat}(h:Pp V vs i f a b c)(l:V.Le V'):Pp V' vs i f a b c:=by
 obtain ⟨h0,h3,x1,x2,p,y1,y2,q,z1,z2,r,e,g1,g2,g3⟩:=h
 exact ⟨h0,h3,x1,x2,p,y1,y2,q,z1,z2,r,e,g1.le l,g2.le l,g3.le l⟩
def uZ (b:Bool)(xs ys:List Nat):Rat:=mkRat (ay b xs) (val ys)
def KV (b:Bool)(xs ys:List Nat):Bool:=eO b xs&&decide (ai (val ys)=ys)&&!decide (ys=[])&&decide (Nat.gcd (val xs) (val ys)=1)
def RM (b:Bool)(xs ys:List Nat):Bool:=!b&&decide (xs=[])&&decide (ys=[])
def Ks (b:Bool)(xs ys:List Nat)(no:Bool):Rat:=if no then 0 else uZ b xs ys
def F_ (b:Bool)(xs ys:List Nat)(no:Bool):Bool:=if no then RM b xs ys else KV b xs ys
theorem D1 {q:Rat}:KV (decide (q.num<0)) (ai q.num.natAbs) (ai q.den)=true/\uZ (decide (q.num<0)) (ai q.num.natAbs) (ai q.den)=q:=by
 constructor
 ·unfold KV
  have h1:eO (decide (q.num<0)) (ai q.num.natAbs)=true:=by
   unfold eO
   rw [af]
   by_cases h:q.num<0
   ·have:ai q.num.natAbs≠[]:=fun e=>by have:=aZ.1 e;omega
    simp [h,this]
   ·simp [h]
  have h2:ai q.den≠[]:=fun e=>q.den_nz (aZ.1 e)
  rw [h1,af,af]
  simp [h2,q.reduced]
 ·unfold uZ
  rw [az,af,Rat.mkRat_self]
def OL (V:View)(v:Value)(b1:Bool)(Fk Fm:List Nat)(b2:Bool)(Fl Fo:List Nat)(na nb:Bool):Prop:=∃p n c p' n' c' q m e q' m' e',v=.agg #[.bool b1,.slice p n c,.slice p' n' c',.bool b2,.slice q m e,.slice q' m' e',.bool na,.bool nb] /\
 Ci V (.agg #[.bool b1,.slice p n c,.slice p' n' c']) b1 Fk Fm/\Ci V (.agg #[.bool b2,.slice q m e,.slice q' m' e']) b2 Fl Fo
theorem OL.le {V V':View}{v:Value}{b1:Bool}{Fk Fm:List Nat}{b2:Bool}{Fl Fo:List Nat}{na nb:Bool}(h:OL V v b1 Fk Fm b2 Fl Fo na nb)(l:V.Le V'):OL V' v b1 Fk Fm b2 Fl Fo na nb:=by
 obtain ⟨p,n,c,p',n',c',q,m,e,q',m',e',rfl,h1,h2⟩:=h
 exact ⟨_,_,_,_,_,_,_,_,_,_,_,_,rfl,h1.le l,h2.le l⟩
def Ok (b1:Bool)(Fk Fm:List Nat)(b2:Bool)(Fl Fo:List Nat)(na nb:Bool):Sp:=⟨Ks b1 Fk Fm na,Ks b2 Fl Fo nb,na,nb⟩
def okW (b1:Bool)(Fk Fm:List Nat)(b2:Bool)(Fl Fo:List Nat)(na nb:Bool):Bool:=F_ b1 Fk Fm na&&F_ b2 Fl Fo nb&&!(Ok b1 Fk Fm b2 Fl Fo na nb).emp
def Tz (l:L3)(s:Sp):Prop:=gT l=true/\s.can/\s.emp=false
theorem RE.raw {V:View}{v:Value}{q:Rat}{no:Bool}(h:RE V v q no)(hc:no=true->q=0):∃b xs ys,Ci V v b xs ys/\F_ b xs ys no=true/\Ks b xs ys no=q/\(∀k,Sz k q->xs.length<=k/\ys.length<=k):=by
 cases no with
 | true=>
  exact ⟨false,[],[],h.1 rfl,rfl,by rw [hc rfl];rfl,fun k _=>⟨Nat.zero_le _,Nat.zero_le _⟩⟩
 | false=>
  obtain ⟨p,n,c,p',n',c',rfl,h1,h2⟩:=h.2 rfl
  exact ⟨_,_,_,⟨_,_,_,_,_,_,rfl,h1,h2⟩,D1.1,D1.2,fun k hk=>⟨ah hk.1,ah hk.2⟩⟩
theorem LB.Ua {V:View}{r:Value}{l:L3}(h:RL V r ((l.1:Rat)).num ((l.2.1:Rat)).num ((l.2.2:Rat)).num):RL V r l.1 l.2.1 l.2.2:=by
 simpa [Rat.num_intCast] using h
theorem Fs.ai {k:Nat}{l:L3}(h:Fs k l)(hk:k<=1099511627776):(ai l.1.natAbs).length<=1099511627776/\(ai l.2.1.natAbs).length<=1099511627776/\(ai l.2.2.natAbs).length<=1099511627776:=by
 have d1:=ah (show l.1.natAbs<2^k from h.1.1)
 have d2:=ah (show l.2.1.natAbs<2^k from h.2.1.1)
 have d3:=ah (show l.2.2.natAbs<2^k from h.2.2.1)
 exact ⟨by omega,by omega,by omega⟩
def OG (V:View)(ad:Addr)(l:L3)(s:Sp):Prop:=∃xs:List Value,Lz V (.agg xs.toArray) l s/\∀i x,xs[i]?=some x->V.at (ad.add i) x
theorem OG.le {V V':View}{ad:Addr}{l:L3}{s:Sp}(h:OG V ad l s)(e:V.Le V'):OG V' ad l s:=by
 obtain ⟨xs,h1,h2⟩:=h;exact ⟨xs,h1.le e,fun i x hx=>e.at (h2 i x hx)⟩
structure Kf (V:View) (p:OA) (n:Nat) (fs:List (L3×Sp)):Prop where
 len:n=fs.length
 at_:∀(i:Nat)(h:i<fs.length),∃ad,ag p (i*14)=some ad/\OG V ad fs[i].1 fs[i].2
theorem Kf.le {V V':View}{p:OA}{n:Nat}{fs:List (L3×Sp)}(h:Kf V p n fs)(e:V.Le V'):Kf V' p n fs:=⟨h.len,fun i hi=>by obtain ⟨ad,h1,h2⟩:=h.at_ i hi;exact ⟨ad,h1,h2.le e⟩⟩
theorem lV {p:OA}{j:Nat}{ad:Addr}(h:ag p j=some ad):p.isSome=true:=by
 cases p with
 | none=>cases h
 | some a=>rfl
def OM (V:View)(ad:Addr)(s:Sp):Prop:=∃xs:List Value,Ma V (.agg xs.toArray) s/\∀i x,xs[i]?=some x->V.at (ad.add i) x
theorem OM.le {V V':View}{ad:Addr}{s:Sp}(h:OM V ad s)(e:V.Le V'):OM V' ad s:=by
 obtain ⟨xs,h1,h2⟩:=h;exact ⟨xs,h1.le e,fun i x hx=>e.at (h2 i x hx)⟩
structure Pn (V:View) (p:OA) (n:Nat) (ss:List Sp):Prop where
 len:n=ss.length
 at_:∀(i:Nat)(h:i<ss.length),∃ad,ag p (i*8)=some ad/\OM V ad ss[i]
theorem Pn.le {V V':View}{p:OA}{n:Nat}{ss:List Sp}(h:Pn V p n ss)(e:V.Le V'):Pn V' p n ss:=⟨h.len,fun i hi=>by obtain ⟨ad,h1,h2⟩:=h.at_ i hi;exact ⟨ad,h1,h2.le e⟩⟩
def Sp.la (s:Sp)(t:Rat):Int:=if s.a then 1 else uf t s.lo
def Sp.lb (s:Sp)(t:Rat):Int:=if s.b then -1 else uf t s.hi
end Go.Proofs.Tryz
