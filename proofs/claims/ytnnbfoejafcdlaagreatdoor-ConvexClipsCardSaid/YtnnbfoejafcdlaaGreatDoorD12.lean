import Derived.Test.YtnnbfoejafcdlaaGreatDoorD11
import Derived.Test.YtnnbfoejafcdlaaGreatDoorD7
import Derived.Test.YtnnbfoejafcdlaaGreatDoorD5
import Derived.Test.YtnnbfoejafcdlaaGreatDoorD9
set_option linter.unusedVariables false
open Go.IntKind (i64 u64 u32)
namespace Go.eK
def fJ (x y:Rat):Int:=(x-y).num.sign
def jo (x y:Rat):Rat:=mkRat (Nat.gcd (x.num.natAbs*y.den) (y.num.natAbs*x.den):Nat) (x.den*y.den)
theorem BE {q:Rat}:q.num<0↔q<0:=by
 have:=@Rat.num_nonneg q
 rw [←Rat.not_le,←this];omega
theorem BF {q:Rat}:0<q.num↔0<q:=by
 have h1:=@Rat.num_nonneg q
 have h2:=@Rat.num_eq_zero q
 rw [Rat.lt_iff_le_and_ne,←h1]
 constructor
 ·intro h;exact ⟨by omega,fun e=>by rw [←e] at h;simp at h⟩
 ·rintro ⟨h,hne⟩
  have:q.num≠0:=fun e=>hne (h2.1 e).symm
  omega
theorem Ex {x y:Rat}:x<y↔fJ x y=-1:=by
 unfold fJ
 rw [Int.sign_eq_neg_one_iff_neg,BE,Rat.lt_iff_sub_pos x y,←Rat.neg_sub y x]
 constructor
 ·intro h;have:=Rat.neg_lt_neg h;simpa using this
 ·intro h;have:=Rat.neg_lt_neg h;rw [Rat.neg_neg] at this;simpa using this
theorem Ew {x y:Rat}:y<x↔fJ x y=1:=by
 unfold fJ
 rw [Int.sign_eq_one_iff_pos,BF,Rat.lt_iff_sub_pos y x]
theorem gO {x y:Rat}:x=y↔fJ x y=0:=by
 unfold fJ
 rw [Int.sign_eq_zero_iff_zero,Rat.num_eq_zero]
 constructor
 ·intro h;subst h;exact Rat.sub_self
 ·intro h
  have:=congrArg (·+ y) h
  simpa [Rat.sub_add_cancel,Rat.zero_add] using this
end Go.eK
namespace Go.Proofs.Tryz
open Go.bF Go.eK
theorem oA {V:View}{v w:Value}{x y:Rat}(hx:RR V v x)(hy:RR V w y){k m:Nat}(hk:Sz k x)(hm:Sz m y)(hkm:k+m<1099511627776) :
  ab prog 181 #[v,w] V fun r V'=>RR V' r (x-y):=by
 obtain ⟨r0,r1,r2,rfl⟩:=hx.shape
 obtain ⟨s0,s1,s2,rfl⟩:=hy.shape
 refine wF _ _ _ _ _ _ V _ fun V1 l1=>(ow (hy.le l1) hm (by omega)).mono ?_
 rintro r V2 l2 h2
 obtain ⟨n,d,p,rfl⟩:=h2.shape
 refine ⟨_,_,_,rfl,fun V3 l3=>(iT (hx.le (l1.trans (l2.trans l3))) (h2.le l3) hk hm.neg hkm).mono ?_⟩
 rintro r V4 l4 h4
 rw [←Rat.sub_eq_add_neg] at h4
 obtain ⟨n,d,p,rfl⟩:=h4.shape
 exact ⟨_,_,_,rfl,fun V5 l5=>h4.le l5⟩
theorem ka {V:View}{v w:Value}{x y:Rat}(hx:RR V v x)(hy:RR V w y){k m:Nat}(hk:Sz k x)(hm:Sz m y)(hkm:k+m<1099511627776) :
  ab prog 191 #[v,w] V fun r V'=>r=.int .i64 (fJ x y):=by
 obtain ⟨r0,r1,r2,rfl⟩:=hx.shape
 obtain ⟨s0,s1,s2,rfl⟩:=hy.shape
 have gen:∀pF:View,V.Le pF->ab prog 181 #[.agg #[.int .i64 r0,.int .i64 r1,.pointer r2],.agg #[.int .i64 s0,.int .i64 s1,.pointer s2]] pF fun RV n_=>∃Uo:Int,∃O8:Int,∃Ov:OA,RV=.agg #[.int .i64 Uo,.int .i64 O8,.pointer Ov]/\(∀oa:View,n_.Le oa->ab prog 137 #[.agg #[.int .i64 Uo,.int .i64 O8,.pointer Ov]] oa fun RW pH=>∃O9:Int,RW=.int .i64 O9/\(∀sE:View,pH.Le sE->Value.int .i64 O9=.int .i64 (fJ x y))):=by
  intro V1 l1
  refine (oA (hx.le l1) (hy.le l1) hk hm hkm).mono ?_
  rintro r V2 l2 h2
  obtain ⟨n,d,p,rfl⟩:=h2.shape
  refine ⟨_,_,_,rfl,fun V3 l3=>(eE (h2.le l3) (hk.sub hm) (by omega)).mono ?_⟩
  rintro r V4 l4 rfl
  exact ⟨_,rfl,fun _ _=>rfl⟩
 rcases hx with ⟨ex,wx⟩|⟨a,b,p,n,c,p',n',c',ex,-,-,-,-,-,wx⟩
 ·rcases hy with ⟨ey,wy⟩|⟨a,b,p,n,c,p',n',c',ey,-,-,-,-,-,wy⟩
  ·simp only [Value.agg.injEq,Array.mk.injEq,List.cons.injEq,Value.int.injEq,Value.pointer.injEq,true_and,and_true] at ex ey
   obtain ⟨rfl,rfl,rfl⟩:=ex
   obtain ⟨rfl,rfl,rfl⟩:=ey
   have hlt:x.den=y.den->((x<y↔x.num<y.num)/\(y<x↔y.num<x.num)/\(x=y↔x.num=y.num)):=by
    intro e
    have hd:(0:Int)<y.den:=by have:=y.den_nz;omega
    refine ⟨?_,?_,fun h=>by rw [h],fun h=>Rat.ext h e⟩
    ·rw [Rat.lt_iff,e];exact ⟨fun h=>Int.lt_of_mul_lt_mul_right h (by omega),fun h=>Int.mul_lt_mul_of_pos_right h hd⟩
    ·rw [Rat.lt_iff,e];exact ⟨fun h=>Int.lt_of_mul_lt_mul_right h (by omega),fun h=>Int.mul_lt_mul_of_pos_right h hd⟩
   refine jz _ _ _ _ _ _ V _ ⟨fun _=>⟨fun _=>⟨fun h1=>?_,fun _=>gen⟩,(fun h=>nomatch h)⟩,(fun h=>nomatch h)⟩
   have h1:x.den=y.den:=by rw [beq_iff_eq] at h1;omega
   obtain ⟨g1,g2,g3⟩:=hlt h1
   refine ⟨fun h V1 l1=>?_,fun h=>⟨fun h' V1 l1=>?_,fun h' V1 l1=>?_⟩⟩
   ·rw [Ex.1 (g1.2 (by simpa using h))]
   ·rw [Ew.1 (g2.2 (by simpa using h'))]
   ·rw [gO.1 (g3.2 (by rw [decide_eq_false_iff_not] at h h';omega))]
  ·simp only [Value.agg.injEq,Array.mk.injEq,List.cons.injEq,Value.int.injEq,Value.pointer.injEq,true_and,and_true] at ex ey
   obtain ⟨rfl,rfl,rfl⟩:=ex
   obtain ⟨rfl,rfl,rfl⟩:=ey
   exact jz _ _ _ _ _ _ V _ ⟨fun _=>⟨(fun h=>nomatch h),fun _=>gen⟩,(fun h=>nomatch h)⟩
 ·simp only [Value.agg.injEq,Array.mk.injEq,List.cons.injEq,Value.int.injEq,Value.pointer.injEq,true_and,and_true] at ex
  obtain ⟨rfl,rfl,rfl⟩:=ex
  exact jz _ _ _ _ _ _ V _ ⟨(fun h=>nomatch h),fun _=>gen⟩
theorem xB {V:View}{v w:Value}{x y:Rat}(hx:RR V v x)(hy:RR V w y){k m:Nat}(hk:Sz k x)(hm:Sz m y)(hkm:k+m<1099511627776) :
  ab prog 178 #[v,w] V fun r V'=>r=.bool (decide (x=y)):=by
 obtain ⟨r0,r1,r2,rfl⟩:=hx.shape
 obtain ⟨s0,s1,s2,rfl⟩:=hy.shape
 refine rO _ _ _ _ _ _ V _ fun V1 l1=>(ka (hx.le l1) (hy.le l1) hk hm hkm).mono ?_
 rintro r V2 l2 rfl
 refine ⟨_,rfl,fun V3 l3=>?_⟩
 congr 1
 rw [Bool.eq_iff_iff,beq_iff_eq,decide_eq_true_eq,gO]
theorem Be {x y:Rat}{k m:Nat}(hx:Sz k x)(hy:Sz m y):x.num.natAbs*y.den<2^(k+m)/\y.num.natAbs*x.den<2^(k+m)/\Nat.gcd (x.num.natAbs*y.den) (y.num.natAbs*x.den)<2^(k+m)/\x.den*y.den<2^(k+m):=by
 have h1:x.num.natAbs*y.den<2^(k+m):=bX hx.1 hy.2
 have h2:y.num.natAbs*x.den<2^(k+m):=by rw [Nat.add_comm];exact bX hy.1 hx.2
 refine ⟨h1,h2,?_,bX hx.2 hy.2⟩
 rcases Nat.eq_zero_or_pos (x.num.natAbs*y.den) with e|e
 ·rw [e,Nat.gcd_zero_left];exact h2
 ·exact Nat.lt_of_le_of_lt (Nat.le_of_dvd e (Nat.gcd_dvd_left _ _)) h1
theorem ma {x y:Rat}{k m:Nat}(hx:Sz k x)(hy:Sz m y):Sz (k+m+1) (jo x y):=by
 obtain ⟨-,-,h3,h4⟩:=Be hx hy
 have h5:2^(k+m)<=2^(k+m+1):=Nat.pow_le_pow_right (by omega) (by omega)
 exact Go.bF.Sz.mkRat (by rw [Int.natAbs_natCast];omega) (by omega) (by omega)
theorem kb {V:View}{v w:Value}{x y:Rat}(hx:RR V v x)(hy:RR V w y){k m:Nat}(hk:Sz k x)(hm:Sz m y)(hkm:k+m<1099511627776) :
  ab prog 177 #[v,w] V fun r V'=>RR V' r (jo x y):=by
 obtain ⟨r0,r1,r2,rfl⟩:=hx.shape
 obtain ⟨s0,s1,s2,rfl⟩:=hy.shape
 obtain ⟨b1,b2,b3,b4⟩:=Be hk hm
 have q1:=af hk.1
 have q2:=af hk.2
 have q3:=af hm.1
 have q4:=af hm.2
 have q5:=af b1
 have q6:=af b2
 have q7:=af b3
 have q8:=af b4
 have gen:(∀S1:View,V.Le S1->ab prog 141 #[.agg #[.int .i64 r0,.int .i64 r1,.pointer r2]] S1 fun R_ UA=>∃(Ow:OA)(Ob MY:Nat),R_=.slice Ow Ob MY/\(∀S2:View,UA.Le S2->ab prog 141 #[.agg #[.int .i64 s0,.int .i64 s1,.pointer s2]] S2 fun Sa UB=>∃(Ox:OA)(Oc MZ:Nat),Sa=.slice Ox Oc MZ/\(∀S3:View,UB.Le S3->ab prog 209 #[.slice Ow Ob MY,.slice Ox Oc MZ] S3 fun Sb UC=>∃(Ig:OA)(HW GV:Nat),Sb=.slice Ig HW GV/\(∀S4:View,UC.Le S4->ab prog 140 #[.agg #[.int .i64 r0,.int .i64 r1,.pointer r2]] S4 fun Sc UD=>∃Qb:Bool,∃(Oz:OA)(Oe M1:Nat),Sc=.agg #[.bool Qb,.slice Oz Oe M1]/\(∀S5:View,UD.Le S5->ab prog 141 #[.agg #[.int .i64 s0,.int .i64 s1,.pointer s2]] S5 fun Se UE=>∃(Ih:OA)(HX GW:Nat),Se=.slice Ih HX GW/\(∀S6:View,UE.Le S6->ab prog 209 #[.slice Oz Oe M1,.slice Ih HX GW] S6 fun Sf UF=>∃(OB:OA)(Of M3:Nat),Sf=.slice OB Of M3/\(∀S7:View,UF.Le S7->ab prog 140 #[.agg #[.int .i64 s0,.int .i64 s1,.pointer s2]] S7 fun Sg UG=>∃Qc:Bool,∃(Ii:OA)(HY GX:Nat),Sg=.agg #[.bool Qc,.slice Ii HY GX]/\(∀S8:View,UG.Le S8->ab prog 141 #[.agg #[.int .i64 r0,.int .i64 r1,.pointer r2]] S8 fun Si UH=>∃(OD:OA)(Oh M5:Nat),Si=.slice OD Oh M5/\(∀S9:View,UH.Le S9->ab prog 209 #[.slice Ii HY GX,.slice OD Oh M5] S9 fun Sj UI=>∃(Ij:OA)(HZ GY:Nat),Sj=.slice Ij HZ GY/\(∀S_:View,UI.Le S_->ab prog 210 #[.slice OB Of M3,.slice Ij HZ GY] S_ fun Sk UJ=>∃(OE:OA)(Oi M6:Nat),Sk=.slice OE Oi M6/\(∀Ta:View,UJ.Le Ta->ab prog 190 #[.agg #[.bool false,.slice OE Oi M6],.slice Ig HW GV] Ta fun Sl UK=>∃O_:Int,∃Pa:Int,∃Ik:OA,Sl=.agg #[.int .i64 O_,.int .i64 Pa,.pointer Ik]/\(∀MQ:View,UK.Le MQ->RR MQ (.agg #[.int .i64 O_,.int .i64 Pa,.pointer Ik]) (jo x y))))))))))))):=by
  intro V1 l1
  refine (dV (hx.le l1) hk (by omega)).mono ?_
  rintro r V2 l2 ⟨p1,n1,c1,rfl,g1⟩
  refine ⟨_,_,_,rfl,fun V3 l3=>(dV (hy.le (l1.trans (l2.trans l3))) hm (by omega)).mono ?_⟩
  rintro r V4 l4 ⟨p2,n2,c2,rfl,g2⟩
  refine ⟨_,_,_,rfl,fun V5 l5=>(fQ (g1.le (l3.trans (l4.trans l5))) (g2.le l5) (by omega)).mono ?_⟩
  rintro r V6 l6 ⟨p3,n3,c3,rfl,g3⟩
  rw [ae,ae] at g3
  have L6:=l1.trans (l2.trans (l3.trans (l4.trans (l5.trans l6))))
  refine ⟨_,_,_,rfl,fun V7 l7=>(eM (hx.le (L6.trans l7)) hk (by omega)).mono ?_⟩
  rintro r V8 l8 ⟨p4,n4,c4,rfl,g4⟩
  refine ⟨_,_,_,_,rfl,fun V9 l9=>(dV (hy.le (L6.trans (l7.trans (l8.trans l9)))) hm (by omega)).mono ?_⟩
  rintro r jm l10 ⟨p5,n5,c5,rfl,g5⟩
  refine ⟨_,_,_,rfl,fun kR bW=>(fQ (g4.le (l9.trans (l10.trans bW))) (g5.le bW) (by omega)).mono ?_⟩
  rintro r nZ dh ⟨p6,n6,c6,rfl,g6⟩
  rw [ae,ae] at g6
  have Gx:=L6.trans (l7.trans (l8.trans (l9.trans (l10.trans (bW.trans dh)))))
  refine ⟨_,_,_,rfl,fun sY dL=>(eM (hy.le (Gx.trans dL)) hm (by omega)).mono ?_⟩
  rintro r pF fk ⟨p7,n7,c7,rfl,g7⟩
  refine ⟨_,_,_,_,rfl,fun n_ eZ=>(dV (hx.le (Gx.trans (dL.trans (fk.trans eZ)))) hk (by omega)).mono ?_⟩
  rintro r oa eF ⟨p8,n8,c8,rfl,g8⟩
  refine ⟨_,_,_,rfl,fun pH ew=>(fQ (g7.le (eZ.trans (eF.trans ew))) (g8.le ew) (by omega)).mono ?_⟩
  rintro r sE fo ⟨p9,n9,c9,rfl,g9⟩
  rw [ae,ae] at g9
  have SL:=dL.trans (fk.trans (eZ.trans (eF.trans (ew.trans fo))))
  refine ⟨_,_,_,rfl,fun xh fl=>(xE (g6.le (SL.trans fl)) (g9.le fl) (by omega) (by omega)).mono ?_⟩
  rintro r CF jN ⟨J1,n10,c10,rfl,g10⟩
  rw [ae,ae] at g10
  refine ⟨_,_,_,rfl,fun xi gG=>(cf false (g10.le gG) (g3.le (l7.trans (l8.trans (l9.trans (l10.trans (bW.trans (dh.trans (SL.trans (fl.trans (jN.trans gG)))))))))) (by omega) (by omega)).mono ?_⟩
  rintro r vO kO h22
  rw [nC,ae,ae] at h22
  obtain ⟨n,d,p,rfl⟩:=h22.shape
  exact ⟨_,_,_,rfl,fun CG je=>h22.le je⟩
 rcases hx with ⟨ex,wx⟩|⟨a,b,p,n,c,p',n',c',ex,-,-,-,-,-,wx⟩
 ·rcases hy with ⟨ey,wy⟩|⟨a,b,p,n,c,p',n',c',ey,-,-,-,-,-,wy⟩
  ·simp only [Value.agg.injEq,Array.mk.injEq,List.cons.injEq,Value.int.injEq,Value.pointer.injEq,true_and,and_true] at ex ey
   obtain ⟨rfl,rfl,rfl⟩:=ex
   obtain ⟨rfl,rfl,rfl⟩:=ey
   obtain ⟨O6,Uk⟩:=wx
   obtain ⟨O7,Ul⟩:=wy
   refine lU _ _ _ _ _ _ V _ ⟨fun _=>⟨fun _=>⟨fun h1=>⟨fun _ _=>True,⟨fun h2 V1 l1=>?_,fun _=>⟨(),by and_intros<;>rfl,trivial⟩⟩,fun _ V1 l1 _=>⟨by trivial,fun V2 l2=>gen V2 (l1.trans l2)⟩⟩,fun _=>gen⟩,(fun h=>nomatch h)⟩,(fun h=>nomatch h)⟩
   have h1:x.den=1:=by rw [beq_iff_eq] at h1;omega
   have h2:y.den=1:=by rw [beq_iff_eq] at h2;omega
   refine (ig _ (by omega) (by omega)).mono ?_
   rintro r V2 l2 rfl
   refine ⟨_,rfl,fun V3 l3=>(ig _ (by omega) (by omega)).mono ?_⟩
   rintro r V4 l4 rfl
   refine ⟨_,rfl,fun V5 l5=>(tG _ _ (by omega) (by omega)).mono ?_⟩
   rintro r V6 l6 rfl
   refine ⟨_,rfl,fun V7 l7=>.inl ?_⟩
   have e:jo x y=((Nat.gcd x.num.natAbs y.num.natAbs:Nat):Int):=by
    unfold jo
    rw [h1,h2,Nat.mul_one,Nat.mul_one,Nat.mul_one]
    exact mkRat_one _
   have hl:Nat.gcd x.num.natAbs y.num.natAbs<4611686018427387904:=by
    rcases Nat.eq_zero_or_pos x.num.natAbs with e|e
    ·rw [e,Nat.gcd_zero_left];exact O7
    ·exact Nat.lt_of_le_of_lt (Nat.le_of_dvd e (Nat.gcd_dvd_left _ _)) O6
   rw [e,ay (by omega)]
   exact ⟨rfl,uh (by rw [Int.natAbs_natCast];exact hl)⟩
  ·simp only [Value.agg.injEq,Array.mk.injEq,List.cons.injEq,Value.int.injEq,Value.pointer.injEq,true_and,and_true] at ex ey
   obtain ⟨rfl,rfl,rfl⟩:=ex
   obtain ⟨rfl,rfl,rfl⟩:=ey
   exact lU _ _ _ _ _ _ V _ ⟨fun _=>⟨(fun h=>nomatch h),fun _=>gen⟩,(fun h=>nomatch h)⟩
 ·simp only [Value.agg.injEq,Array.mk.injEq,List.cons.injEq,Value.int.injEq,Value.pointer.injEq,true_and,and_true] at ex
  obtain ⟨rfl,rfl,rfl⟩:=ex
  exact lU _ _ _ _ _ _ V _ ⟨(fun h=>nomatch h),fun _=>gen⟩
theorem pR {V:View}{p:OA}{n c x:Nat}(h:RN V p n c x) :
  ab prog 61 #[.bool false,.slice p n c] V fun r V'=>RI V' r (x:Int):=by
 have:=eQ false h
 rwa [if_neg (by decide)] at this
theorem cg {x:Rat}{k:Nat}(h:Sz k x):(ag x.num.natAbs).length<=k/\(ag x.den).length<=k/\(ag (x.den:Int).natAbs).length<=k:=⟨af h.1,af h.2,af h.2⟩
theorem dj {V:View}{v w:Value}{x y:Rat}(hx:RQ V v x)(hy:RQ V w y){k m:Nat}(hk:Sz k x)(hm:Sz m y)(hkm:k+m<274877906944) :
  ab prog 44 #[v,w] V fun r V'=>RQ V' r (x+y):=by
 obtain ⟨p,n,c,p',n',c',rfl,hx1,hx2⟩:=hx
 obtain ⟨q,i,e,q',i',e',rfl,hy1,hy2⟩:=hy
 have hlx:=lr hx2
 have xV:=lr hy2
 obtain ⟨b1,b2,b3,b4⟩:=s_ hk hm
 obtain ⟨d1,d2,d3⟩:=cg hk
 obtain ⟨d4,d5,d6⟩:=cg hm
 have hxy:x+y=mkRat (x.num*y.den+y.num*x.den) (x.den*y.den):=Rat.add_def' x y
 refine (fun tail=>Cv _ p n c p' n' c' _ q i e q' i' e' V _ ⟨fun h0=>⟨fun h1 V1 l1=>?_,fun _=>tail⟩,fun _=>tail⟩) ?_
 ·clear tail
  have h0:x.den=1:=hlx.1 (by simp at h0;omega)
  have h1:y.den=1:=xV.1 (by simp at h1;omega)
  refine (xH x.num y.num (hx1.le l1) (hy1.le l1) (by omega) (by omega)).mono ?_
  rintro r V2 l2 ⟨p2,n2,c2,rfl,g⟩
  have e1:x+y=((x.num+y.num:Int):Rat):=by
   rw [hxy,h0,h1];simp [Rat.mkRat_one]
  rw [e1]
  exact ⟨_,_,_,_,rfl,fun V3 l3=>mX (z:=x.num+y.num) (d:=1) rfl rfl (g.le l3) RD.nil rfl⟩
 ·intro V1 l1
  refine (dD y _ (hy2.le l1)).mono ?_
  rintro r V2 l2 ⟨p1,n1,c1,rfl,g1⟩
  refine ⟨_,_,_,rfl,fun V3 l3=>(pR (g1.le l3)).mono ?_⟩
  rintro r V4 l4 ⟨p3,n3,c3,rfl,g3⟩
  have JO:=l1.trans (l2.trans (l3.trans l4))
  refine ⟨_,_,_,_,rfl,fun V5 l5=>(mb x.num y.den (hx1.le (JO.trans l5)) (g3.le l5) (by omega)).mono ?_⟩
  rintro r V6 l6 ⟨p5,n5,c5,rfl,g5⟩
  have NW:=JO.trans (l5.trans l6)
  refine ⟨_,_,_,_,rfl,fun V7 l7=>(dD x _ (hx2.le (NW.trans l7))).mono ?_⟩
  rintro r V8 l8 ⟨p7,n7,c7,rfl,g7⟩
  have PC:=NW.trans (l7.trans l8)
  refine ⟨_,_,_,rfl,fun V9 l9=>(pR (g7.le l9)).mono ?_⟩
  rintro r jm l10 ⟨p9,n9,c9,rfl,g9⟩
  have NX:=PC.trans (l9.trans l10)
  refine ⟨_,_,_,_,rfl,fun kR bW=>(mb y.num x.den (hy1.le (NX.trans bW)) (g9.le bW) (by omega)).mono ?_⟩
  rintro r nZ dh ⟨Ou,n11,c11,rfl,g11⟩
  have JN:=NX.trans (bW.trans dh)
  refine ⟨_,_,_,_,rfl,fun sY dL=>(xH _ _ (g5.le (l7.trans (l8.trans (l9.trans (l10.trans (bW.trans (dh.trans dL))))))) (g11.le dL) (Nat.le_trans (af b1) (by omega)) (Nat.le_trans (af b2) (by omega))).mono ?_⟩
  rintro r pF fk ⟨X5,n13,c13,rfl,g13⟩
  have NU:=JN.trans (dL.trans fk)
  refine ⟨_,_,_,_,rfl,fun n_ eZ=>(dD x _ (hx2.le (NU.trans eZ))).mono ?_⟩
  rintro r oa eF ⟨X6,n15,c15,rfl,g15⟩
  have Rl:=NU.trans (eZ.trans eF)
  refine ⟨_,_,_,rfl,fun pH ew=>(dD y _ (hy2.le (Rl.trans ew))).mono ?_⟩
  rintro r sE fo ⟨X9,n17,c17,rfl,g17⟩
  refine ⟨_,_,_,rfl,fun xh fl=>(cR (g15.le (ew.trans (fo.trans fl))) (g17.le fl) (by omega)).mono ?_⟩
  rintro r CF jN ⟨X_,n19,c19,rfl,g19⟩
  rw [ae,ae] at g19
  refine ⟨_,_,_,rfl,fun xi gG=>(ki _ (g13.le (eZ.trans (eF.trans (ew.trans (fo.trans (fl.trans (jN.trans gG))))))) (g19.le gG) (Nat.le_trans (af b3) (by omega)) (Nat.le_trans (af b4) (by omega)) (Nat.mul_ne_zero x.den_nz y.den_nz)).mono ?_⟩
  rw [hxy]
  rintro r vO kO ⟨WC,n21,c21,WD,n22,U6,rfl,g21,g22⟩
  exact ⟨_,_,_,_,_,_,_,rfl,fun CG je=>⟨_,_,_,_,_,_,rfl,g21.le je,g22.le je⟩⟩
theorem Fs {V:View}{v w:Value}{x y:Rat}(hx:RQ V v x)(hy:RQ V w y){k m:Nat}(hk:Sz k x)(hm:Sz m y)(hkm:k+m<274877906944) :
  ab prog 110 #[v,w] V fun r V'=>RQ V' r (x-y):=by
 have hx0:=hx
 obtain ⟨p,n,c,p',n',c',rfl,hx1,hx2⟩:=hx
 obtain ⟨q,i,e,q',i',e',rfl,hy1,hy2⟩:=hy
 refine Ee _ p n c p' n' c' _ q i e q' i' e' V _ fun V1 l1=>(pQ y (hy1.le l1) (hy2.le l1)).mono ?_
 rintro r V2 l2 h2
 obtain ⟨p1,n1,c1,p2,n2,c2,rfl,g1,g2⟩:=id h2
 refine ⟨_,_,_,_,_,_,_,rfl,fun V3 l3=>(dj (hx0.le (l1.trans (l2.trans l3))) (h2.le l3) hk hm.neg hkm).mono ?_⟩
 rw [←Rat.sub_eq_add_neg]
 rintro r V4 l4 ⟨p3,n3,c3,p4,n4,c4,rfl,g3,g4⟩
 exact ⟨_,_,_,_,_,_,_,rfl,fun V5 l5=>⟨_,_,_,_,_,_,rfl,g3.le l5,g4.le l5⟩⟩
theorem sG {V:View}{v w:Value}{x y:Rat}(hx:RQ V v x)(hy:RQ V w y){k m:Nat}(hk:Sz k x)(hm:Sz m y)(hkm:k+m<274877906944) :
  ab prog 45 #[v,w] V fun r V'=>r=.int .i64 (fJ x y):=by
 have hx0:=hx
 have hy0:=hy
 obtain ⟨p,n,c,p',n',c',rfl,hx1,hx2⟩:=hx
 obtain ⟨q,i,e,q',i',e',rfl,hy1,hy2⟩:=hy
 refine I3 _ p n c p' n' c' _ q i e q' i' e' V _ fun V1 l1=>(Fs (hx0.le l1) (hy0.le l1) hk hm hkm).mono ?_
 rintro r V2 l2 ⟨p1,n1,c1,p2,n2,c2,rfl,g1,g2⟩
 refine ⟨_,_,_,_,_,_,_,rfl,fun V3 l3=>(yW (x-y) (g1.le l3)).mono ?_⟩
 rintro r V4 l4 rfl
 exact ⟨_,rfl,fun V5 l5=>rfl⟩
theorem cG {V:View}{v w:Value}{x y:Rat}(hx:RQ V v x)(hy:RQ V w y){k m:Nat}(hk:Sz k x)(hm:Sz m y)(hkm:k+m<274877906944) :
  ab prog 58 #[v,w] V fun r V'=>RQ V' r (x*y):=by
 obtain ⟨p,n,c,p',n',c',rfl,hx1,hx2⟩:=hx
 obtain ⟨q,i,e,q',i',e',rfl,hy1,hy2⟩:=hy
 have hlx:=lr hx2
 have xV:=lr hy2
 obtain ⟨d1,d2,d3⟩:=cg hk
 obtain ⟨d4,d5,d6⟩:=cg hm
 have hxy:x*y=mkRat (x.num*y.num) (x.den*y.den):=Rat.mul_def' x y
 have b1:(x.num*y.num).natAbs<2^(k+m):=by rw [Int.natAbs_mul];exact bX hk.1 hm.1
 have b2:x.den*y.den<2^(k+m):=bX hk.2 hm.2
 refine (fun tail=>Ai _ p n c p' n' c' _ q i e q' i' e' V _ ⟨fun h0=>⟨fun h1 V1 l1=>?_,fun _=>tail⟩,fun _=>tail⟩) ?_
 ·clear tail
  have h0:x.den=1:=hlx.1 (by simp at h0;omega)
  have h1:y.den=1:=xV.1 (by simp at h1;omega)
  refine (mb x.num y.num (hx1.le l1) (hy1.le l1) (by omega)).mono ?_
  rintro r V2 l2 ⟨p2,n2,c2,rfl,g⟩
  have e1:x*y=((x.num*y.num:Int):Rat):=by
   rw [hxy,h0,h1];simp [Rat.mkRat_one]
  rw [e1]
  exact ⟨_,_,_,_,rfl,fun V3 l3=>mX (z:=x.num*y.num) (d:=1) rfl rfl (g.le l3) RD.nil rfl⟩
 ·intro V1 l1
  refine (mb x.num y.num (hx1.le l1) (hy1.le l1) (by omega)).mono ?_
  rintro r V2 l2 ⟨p2,n2,c2,rfl,g2⟩
  refine ⟨_,_,_,_,rfl,fun V3 l3=>(dD x _ (hx2.le (l1.trans (l2.trans l3)))).mono ?_⟩
  rintro r V4 l4 ⟨p4,n4,c4,rfl,g4⟩
  refine ⟨_,_,_,rfl,fun V5 l5=>(dD y _ (hy2.le (l1.trans (l2.trans (l3.trans (l4.trans l5)))))).mono ?_⟩
  rintro r V6 l6 ⟨p6,n6,c6,rfl,g6⟩
  refine ⟨_,_,_,rfl,fun V7 l7=>(cR (g4.le (l5.trans (l6.trans l7))) (g6.le l7) (by omega)).mono ?_⟩
  rintro r V8 l8 ⟨p8,n8,c8,rfl,g8⟩
  rw [ae,ae] at g8
  refine ⟨_,_,_,rfl,fun V9 l9=>(ki _ (g2.le (l3.trans (l4.trans (l5.trans (l6.trans (l7.trans (l8.trans l9))))))) (g8.le l9) (Nat.le_trans (af b1) (by omega)) (Nat.le_trans (af b2) (by omega)) (Nat.mul_ne_zero x.den_nz y.den_nz)).mono ?_⟩
  rw [hxy]
  rintro r vO kO ⟨WC,n21,c21,WD,n22,U6,rfl,g21,g22⟩
  exact ⟨_,_,_,_,_,_,_,rfl,fun CG je=>⟨_,_,_,_,_,_,rfl,g21.le je,g22.le je⟩⟩
end Go.Proofs.Tryz
namespace Go.bF
open Go.eK
def RP (V:View)(v:Value)(x y:Rat):Prop:=∃p n c p' n' c' q m e q' m' e',v=.agg #[.bool (decide (x.num<0)),.slice p n c,.slice p' n' c',.bool (decide (y.num<0)),.slice q m e,.slice q' m' e'] /\
 RQ V (.agg #[.bool (decide (x.num<0)),.slice p n c,.slice p' n' c']) x/\RQ V (.agg #[.bool (decide (y.num<0)),.slice q m e,.slice q' m' e']) y
theorem RP.le {V V':View}{v:Value}{x y:Rat}(h:RP V v x y)(l:V.Le V'):RP V' v x y:=by
 obtain ⟨p,n,c,p',n',c',q,m,e,q',m',e',rfl,h1,h2⟩:=h
 exact ⟨p,n,c,p',n',c',q,m,e,q',m',e',rfl,h1.le l,h2.le l⟩
theorem RQ.shape {V:View}{v:Value}{q:Rat}(h:RQ V v q):∃p n c p' n' c',v=.agg #[.bool (decide (q.num<0)),.slice p n c,.slice p' n' c']:=by
 obtain ⟨p,n,c,p',n',c',e,-⟩:=h;exact ⟨_,_,_,_,_,_,e⟩
end Go.bF
namespace Go.Proofs.Tryz
open Go.bF Go.eK
theorem qN {V:View}{p:OA}{n c:Nat}{ds:List Nat}(h:RD V p n c ds)(hm:ds.length<=1099511627776) :
  ab prog 96 #[.slice p n c] V fun r V'=>∃p1 n1 c1,r=.slice p1 n1 c1/\RD V' p1 n1 c1 ds:=by
 have hl:=h.len
 refine Ak p n c V _ ⟨aD ds,h.sl,by simp [hl],by omega,by omega,by simp,by simp [hl],?_,?_⟩
 ·intro v hv
  simp only [aD,List.mem_map] at hv
  obtain ⟨d,-,rfl⟩:=hv
  rfl
 ·intro bk J sp c' h1 h2 V1 l1 b hb
  refine ⟨_,_,_,rfl,?_⟩
  simp only [Nat.zero_add,Nat.zero_mul,List.take_zero,List.nil_append] at hb h1 ⊢
  exact copied h.eu hl h1 hb
theorem iW {V:View}{v:Value}{z:Int}(h:RI V v z)(hm:(ag z.natAbs).length<=1099511627776) :
  ab prog 64 #[v] V fun r V'=>RI V' r z:=by
 obtain ⟨p,n,c,rfl,h⟩:=h
 refine Aj _ p n c V _ fun V1 l1=>(qN (h.le l1) hm).mono ?_
 rintro r V2 l2 ⟨p1,n1,c1,rfl,g⟩
 exact ⟨_,_,_,rfl,fun V3 l3=>⟨_,_,_,rfl,g.le l3⟩⟩
theorem km {V:View}(x y:Int)(h0:-9223372036854775808<=x)(h1:x<=9223372036854775807)(h2:-9223372036854775808<=y)(h3:y<=9223372036854775807) :
  ab prog 12 #[.int .i64 x,.int .i64 y] V fun r V'=>RP V' r (x:Rat) (y:Rat):=by
 refine CC x y V _ fun V1 l1=>(jH x h0 h1).mono ?_
 rintro r V2 l2 hx
 obtain ⟨p,n,c,p',n',c',rfl⟩:=hx.shape
 refine ⟨_,_,_,_,_,_,_,rfl,fun V3 l3=>(jH y h2 h3).mono ?_⟩
 rintro r V4 l4 hy
 obtain ⟨q,m,e,q',m',e',rfl⟩:=hy.shape
 exact ⟨_,_,_,_,_,_,_,rfl,fun V5 l5=>⟨_,_,_,_,_,_,_,_,_,_,_,_,rfl,hx.le (l3.trans (l4.trans l5)),hy.le l5⟩⟩
theorem qP {V:View}{u v w:Value}{px py c qx qy:Rat}(hp:RP V u px py)(hc:RQ V v c)(hq:RP V w qx qy){k m:Nat}(s1:Sz k px)(s2:Sz k py)(s3:Sz m c)(s4:Sz m qx)(s5:Sz m qy)(hkm:k+(m+m+1)<274877906944) :
  ab prog 100 #[u,v,w] V fun r V'=>RP V' r (px+c*qx) (py+c*qy):=by
 obtain ⟨p1,n1,c1,p2,n2,c2,p3,n3,c3,p4,n4,c4,rfl,hp1,hp2⟩:=hp
 obtain ⟨p5,n5,c5,p6,n6,c6,rfl⟩:=hc.shape
 obtain ⟨q1,m1,e1,q2,m2,e2,q3,m3,e3,q4,m4,e4,rfl,hq1,hq2⟩:=hq
 refine Am _ p1 n1 c1 p2 n2 c2 _ p3 n3 c3 p4 n4 c4 _ p5 n5 c5 p6 n6 c6 _ q1 m1 e1 q2 m2 e2 _ q3 m3 e3 q4 m4 e4 V _ fun V1 l1=>(cG (hc.le l1) (hq1.le l1) s3 s4 (by omega)).mono ?_
 rintro r V2 l2 g1
 obtain ⟨a1,a2,a3,a4,a5,a6,rfl⟩:=g1.shape
 refine ⟨_,_,_,_,_,_,_,rfl,fun V3 l3=>(dj (hp1.le (l1.trans (l2.trans l3))) (g1.le l3) s1 (s3.mul s4) (by omega)).mono ?_⟩
 rintro r V4 l4 g2
 obtain ⟨b1,b2,b3,b4,b5,b6,rfl⟩:=g2.shape
 have JO:=l1.trans (l2.trans (l3.trans l4))
 refine ⟨_,_,_,_,_,_,_,rfl,fun V5 l5=>(cG (hc.le (JO.trans l5)) (hq2.le (JO.trans l5)) s3 s5 (by omega)).mono ?_⟩
 rintro r V6 l6 g3
 obtain ⟨d1,d2,d3,d4,d5,d6,rfl⟩:=g3.shape
 refine ⟨_,_,_,_,_,_,_,rfl,fun V7 l7=>(dj (hp2.le (JO.trans (l5.trans (l6.trans l7)))) (g3.le l7) s2 (s3.mul s5) (by omega)).mono ?_⟩
 rintro r V8 l8 g4
 obtain ⟨f1,f2,f3,f4,f5,f6,rfl⟩:=g4.shape
 exact ⟨_,_,_,_,_,_,_,rfl,fun V9 l9=>⟨_,_,_,_,_,_,_,_,_,_,_,_,rfl,g2.le (l5.trans (l6.trans (l7.trans (l8.trans l9)))),g4.le l9⟩⟩
theorem Ki:Sz 1 ((-1:Int):Rat):=by unfold Sz;decide
theorem AY {V:View}{u w:Value}{px py qx qy:Rat}(hp:RP V u px py)(hq:RP V w qx qy){k m:Nat}(s1:Sz k px)(s2:Sz k py)(s4:Sz m qx)(s5:Sz m qy)(hm:1<=m)(hkm:k+(m+m+1)<274877906944) :
  ab prog 56 #[u,w] V fun r V'=>RP V' r (px-qx) (py-qy):=by
 have hp0:=hp
 have hq0:=hq
 obtain ⟨p1,n1,c1,p2,n2,c2,p3,n3,c3,p4,n4,c4,rfl,-,-⟩:=hp
 obtain ⟨q1,m1,e1,q2,m2,e2,q3,m3,e3,q4,m4,e4,rfl,-,-⟩:=hq
 refine Ao _ p1 n1 c1 p2 n2 c2 _ p3 n3 c3 p4 n4 c4 _ q1 m1 e1 q2 m2 e2 _ q3 m3 e3 q4 m4 e4 V _ fun V1 l1=>(jH (-1) (by omega) (by omega)).mono ?_
 rintro r V2 l2 g1
 obtain ⟨a1,a2,a3,a4,a5,a6,rfl⟩:=g1.shape
 have NV:=l1.trans l2
 refine ⟨_,_,_,_,_,_,_,rfl,fun V3 l3=>(qP (hp0.le (NV.trans l3)) (g1.le l3) (hq0.le (NV.trans l3)) s1 s2 (Ki.mono hm) s4 s5 hkm).mono ?_⟩
 have e1:∀a b:Rat,a+((-1:Int):Rat)*b=a-b:=by
  intro a b
  have:((-1:Int):Rat)=-1:=rfl
  rw [this,Rat.neg_mul,Rat.one_mul,Rat.sub_eq_add_neg]
 rw [e1,e1]
 rintro r V4 l4 ⟨b1,b2,b3,b4,b5,b6,b7,b8,b9,b10,b11,b12,rfl,g2,g3⟩
 exact ⟨_,_,_,_,_,_,_,_,_,_,_,_,_,_,rfl,fun V5 l5=>⟨_,_,_,_,_,_,_,_,_,_,_,_,rfl,g2.le l5,g3.le l5⟩⟩
theorem yX {V:View}{u w:Value}{px py qx qy:Rat}(hp:RP V u px py)(hq:RP V w qx qy){k m:Nat}(s1:Sz k px)(s2:Sz k py)(s4:Sz m qx)(s5:Sz m qy)(hkm:k+m<274877906944) :
  ab prog 159 #[u,w] V fun r V'=>r=.bool (decide (px=qx/\py=qy)):=by
 obtain ⟨p1,n1,c1,p2,n2,c2,p3,n3,c3,p4,n4,c4,rfl,hp1,hp2⟩:=hp
 obtain ⟨q1,m1,e1,q2,m2,e2,q3,m3,e3,q4,m4,e4,rfl,hq1,hq2⟩:=hq
 refine wU _ p1 n1 c1 p2 n2 c2 _ p3 n3 c3 p4 n4 c4 _ q1 m1 e1 q2 m2 e2 _ q3 m3 e3 q4 m4 e4 V _ fun V1 l1=>(sG (hp1.le l1) (hq1.le l1) s1 s4 hkm).mono ?_
 rintro r V2 l2 rfl
 refine ⟨_,rfl,fun h0 V3 l3=>(sG (hp2.le (l1.trans (l2.trans l3))) (hq2.le (l1.trans (l2.trans l3))) s2 s5 hkm).mono ?_,fun h0 V3 l3=>?_⟩
 ·have h0:px=qx:=gO.2 (by simpa using h0)
  rintro r V4 l4 rfl
  refine ⟨_,rfl,fun V5 l5=>?_⟩
  congr 1
  rw [Bool.eq_iff_iff,decide_eq_true_eq,beq_iff_eq,←gO]
  exact ⟨fun h=>⟨h0,h⟩,fun h=>h.2⟩
 ·have h0:¬px=qx:=fun e=>by rw [gO.1 e] at h0;simp at h0
  rw [decide_eq_false fun h=>h0 h.1]
end Go.Proofs.Tryz
namespace Go.bF
open Go.eK
def RL (V:View)(v:Value)(a b c:Int):Prop:=∃p n s p' n' s' q m e,v=.agg #[.bool (decide (a<0)),.slice p n s,.bool (decide (b<0)),.slice p' n' s',.bool (decide (c<0)),.slice q m e] /\
 RD V p n s (ag a.natAbs)/\RD V p' n' s' (ag b.natAbs)/\RD V q m e (ag c.natAbs)
theorem RL.le {V V':View}{v:Value}{a b c:Int}(h:RL V v a b c)(l:V.Le V'):RL V' v a b c:=by
 obtain ⟨p,n,s,p',n',s',q,m,e,rfl,h1,h2,h3⟩:=h
 exact ⟨p,n,s,p',n',s',q,m,e,rfl,h1.le l,h2.le l,h3.le l⟩
end Go.bF
namespace Go.Proofs.Tryz
open Go.bF Go.eK
theorem mQ {V:View}{p q:OA}{n c m e:Nat}{xs ys:List Nat}(hx:RD V p n c xs)(hy:RD V q m e ys)(hm:xs.length<=1099511627776) :
  ab prog 95 #[.slice p n c,.slice q m e] V fun r V'=>r=.bool (decide (xs=ys)):=by
 have hlx:=hx.len
 have xV:=hy.len
 refine vF p n c q m e V _ ⟨fun h0 V1 l1=>?_,fun h0=>?_⟩
 ·have h0:n≠m:=by simp at h0;omega
  rw [decide_eq_false fun h=>h0 (by rw [hlx,xV,h])]
 ·have h0:n=m:=by simp at h0;omega
  refine ⟨fun z V'=>0<=z/\z<=n/\xs.take z.toNat=ys.take z.toNat,fun z=>n-z.toNat,⟨0,by (try dsimp only);and_intros<;>first|exact True.intro|rfl,by (try dsimp only);omega,by (try dsimp only);omega,rfl⟩,?_⟩
  rintro i V2 l2 ⟨hi0,hi1,ht⟩
  dsimp only at hi1 ht ⊢
  obtain ⟨i,rfl⟩:=Int.eq_ofNat_of_zero_le hi0
  simp only [Int.toNat_natCast] at ht
  refine ⟨by trivial,fun h3=>?_,fun h3 V4 l4=>?_⟩
  ·have h3:i<n:=by simpa using h3
   refine (hx.le l2).rd i rfl (by omega) ((hy.le l2).rd i rfl (by omega) ⟨fun h4 V8 l8=>?_,fun h4=>?_⟩)
   ·have h4:xs[i]≠ys[i]:=by simp at h4;omega
    rw [decide_eq_false fun h=>h4 (by subst h;rfl)]
   ·have h4:xs[i]=ys[i]:=by simp at h4;omega
    have w:i64.wrap ((i:Int)+1)=((i+1:Nat):Int):=by rw [ay (by omega)];omega
    simp only [w]
    refine ⟨((i+1:Nat):Int),?_,by (try dsimp only);and_intros<;>first|exact True.intro|rfl,by (try dsimp only);omega,by (try dsimp only);omega,?_⟩
    ·(try dsimp only);omega
    ·(try dsimp only)
     simp only [Int.toNat_natCast]
     rw [List.take_succ_eq_append_getElem (by omega),List.take_succ_eq_append_getElem (l:=ys) (by omega),ht,h4]
  ·have h3:i=n:=by simp at h3;omega
   rw [List.take_of_length_le (by omega),List.take_of_length_le (by omega)] at ht
   rw [decide_eq_true ht]
theorem IF {z w:Int}:(decide (z<0)==decide (w<0))=true->(decide (ag z.natAbs=ag w.natAbs)=decide (z=w)):=by
 intro h
 have h1:(z<0↔w<0):=by simpa using h
 rw [Bool.eq_iff_iff,decide_eq_true_eq,decide_eq_true_eq]
 constructor
 ·intro h2
  have:=oF h2
  omega
 ·intro h2;rw [h2]
theorem fY {V:View}{z w:Int}{p q:OA}{n c m e:Nat}(hx:RD V p n c (ag z.natAbs))(hy:RD V q m e (ag w.natAbs))(hm:(ag z.natAbs).length<=1099511627776) :
  ab prog 94 #[.agg #[.bool (decide (z<0)),.slice p n c],.agg #[.bool (decide (w<0)),.slice q m e]] V fun r V'=>r=.bool (decide (z=w)):=by
 refine vE _ p n c _ q m e V _ ⟨fun h0 V1 l1=>(mQ (hx.le l1) (hy.le l1) hm).mono ?_,fun h0 V1 l1=>?_⟩
 ·rintro r V2 l2 rfl
  refine ⟨_,rfl,fun V3 l3=>?_⟩
  rw [IF h0]
 ·rw [decide_eq_false fun h=>by subst h;simp at h0]
theorem vY {V:View}{v w:Value}{a b c a' b' c':Int}(hx:RL V v a b c)(hy:RL V w a' b' c')(h1:(ag a.natAbs).length<=1099511627776)(h2:(ag b.natAbs).length<=1099511627776)(h3:(ag c.natAbs).length<=1099511627776) :
  ab prog 168 #[v,w] V fun r V'=>r=.bool (decide (a=a'/\b=b'/\c=c')):=by
 obtain ⟨p,n,s,p',n',s',q,m,e,rfl,x1,x2,x3⟩:=hx
 obtain ⟨i,j,k,i',j',k',i2,j2,k2,rfl,y1,y2,y3⟩:=hy
 refine vI _ p n s _ p' n' s' _ q m e _ i j k _ i' j' k' _ i2 j2 k2 V _ fun V1 l1=>(fY (x1.le l1) (y1.le l1) h1).mono ?_
 rintro r V2 l2 rfl
 refine ⟨_,rfl,fun g1 V3 l3=>(fY (x2.le (l1.trans (l2.trans l3))) (y2.le (l1.trans (l2.trans l3))) h2).mono ?_,fun g1 V9 l9=>?_⟩
 ·rintro r V4 l4 rfl
  rw [decide_eq_true_eq] at g1
  refine ⟨_,rfl,fun g2 V5 l5=>(fY (x3.le (l1.trans (l2.trans (l3.trans (l4.trans l5))))) (y3.le (l1.trans (l2.trans (l3.trans (l4.trans l5))))) h3).mono ?_,fun g2 V8 l8=>?_⟩
  ·rintro r V6 l6 rfl
   rw [decide_eq_true_eq] at g2
   refine ⟨_,rfl,fun V7 l7=>?_⟩
   congr 1
   rw [Bool.eq_iff_iff,decide_eq_true_eq,decide_eq_true_eq]
   exact ⟨fun h=>⟨g1,g2,h⟩,fun h=>h.2.2⟩
  ·rw [decide_eq_false_iff_not] at g2
   rw [decide_eq_false fun h=>g2 h.2.1]
 ·rw [decide_eq_false_iff_not] at g1
  rw [decide_eq_false fun h=>g1 h.1]
theorem iX {V:View}{v:Value}{a b c:Int}(hx:RL V v a b c)(h1:(ag a.natAbs).length<=1099511627776)(h2:(ag b.natAbs).length<=1099511627776)(h3:(ag c.natAbs).length<=1099511627776) :
  ab prog 13 #[v] V fun r V'=>RL V' r a b c:=by
 obtain ⟨p,n,s,p',n',s',q,m,e,rfl,x1,x2,x3⟩:=hx
 refine Ap _ p n s _ p' n' s' _ q m e V _ fun V1 l1=>(iW ⟨_,_,_,rfl,x1.le l1⟩ h1).mono ?_
 rintro r V2 l2 ⟨p1,n1,c1,rfl,g1⟩
 refine ⟨_,_,_,_,rfl,fun V3 l3=>(iW ⟨_,_,_,rfl,x2.le (l1.trans (l2.trans l3))⟩ h2).mono ?_⟩
 rintro r V4 l4 ⟨p2,n2,c2,rfl,g2⟩
 refine ⟨_,_,_,_,rfl,fun V5 l5=>(iW ⟨_,_,_,rfl,x3.le (l1.trans (l2.trans (l3.trans (l4.trans l5))))⟩ h3).mono ?_⟩
 rintro r V6 l6 ⟨p3,n3,c3,rfl,g3⟩
 exact ⟨_,_,_,_,rfl,fun V7 l7=>⟨_,_,_,_,_,_,_,_,_,rfl,g1.le (l3.trans (l4.trans (l5.trans (l6.trans l7)))),g2.le (l5.trans (l6.trans l7)),g3.le l7⟩⟩
theorem tS {z:Int}{g:Nat}(hg:0<g)(hd:g∣z.natAbs):(if decide (z<0)=true then -((z.natAbs / g:Nat):Int) else ((z.natAbs / g:Nat):Int))=z / (g:Int):=by
 obtain ⟨k,hk⟩:=hd
 have hk1:z.natAbs / g=k:=by rw [hk,Nat.mul_div_cancel_left _ hg]
 rw [hk1]
 have hz:z=(g:Int)*(if decide (z<0)=true then -(k:Int) else k):=by
  split
  ·rename_i h
   rw [decide_eq_true_eq] at h
   rw [Int.mul_neg,←Int.natCast_mul,←hk];omega
  ·rename_i h
   rw [decide_eq_true_eq] at h
   rw [←Int.natCast_mul,←hk];omega
 generalize (if decide (z<0)=true then -(k:Int) else k)=t at *
 rw [hz,Int.mul_ediv_cancel_left _ (by omega)]
def gx (a b c:Int):Nat:=Nat.gcd (Nat.gcd a.natAbs b.natAbs) c.natAbs
theorem vW {V:View}{u v w:Value}{a b c:Int}(ha:RI V u a)(hb:RI V v b)(hc:RI V w c)(h1:(ag a.natAbs).length<=274877906944)(h2:(ag b.natAbs).length<=274877906944)(h3:(ag c.natAbs).length<=274877906944) :
  ab prog 62 #[u,v,w] V fun r V'=>(a=0/\b=0->∃l,r=.tuple #[l,.bool false]/\RL V' l 0 0 0) /\
   (¬(a=0/\b=0)->∃l,r=.tuple #[l,.bool true]/\RL V' l (a / (gx a b c:Int)) (b / (gx a b c:Int)) (c / (gx a b c:Int))):=by
 obtain ⟨p,n,s,rfl,ha⟩:=ha
 obtain ⟨p',n',s',rfl,hb⟩:=hb
 obtain ⟨q,m,e,rfl,hc⟩:=hc
 refine vH _ p n s _ p' n' s' _ q m e V _ fun V1 l1=>(kh (ha.le l1) (hb.le l1) h1 h2).mono ?_
 rintro r V2 l2 ⟨p1,n1,c1,rfl,g1⟩
 have hp:=fC g1.len
 have rG:Nat.gcd a.natAbs b.natAbs=0↔a=0/\b=0:=by rw [Nat.gcd_eq_zero_iff];omega
 refine ⟨_,_,_,rfl,fun h0 V3 l3=>⟨fun _=>⟨_,rfl,_,_,_,_,_,_,_,_,_,rfl,RD.nil,RD.nil,RD.nil⟩,fun h=>?_⟩,fun h0 V4 l4=>?_⟩
 ·exact absurd (rG.1 (by simp at h0;omega)) h
 have hne:¬(a=0/\b=0):=fun h=>by have:=rG.2 h;simp at h0;omega
 have hg0:0<Nat.gcd a.natAbs b.natAbs:=by have:=rG;omega
 have hgl:(ag (Nat.gcd a.natAbs b.natAbs)).length<=274877906944:=by
  rcases Nat.eq_zero_or_pos a.natAbs with h|h
  ·rw [h,Nat.gcd_zero_left];exact h2
  ·exact Nat.le_trans (aH (Nat.gcd_le_left _ h)) h1
 refine (kh (g1.le l4) (hc.le (l1.trans (l2.trans l4))) hgl h3).mono ?_
 rintro r V5 l5 ⟨p2,n2,c2,rfl,g2⟩
 have MI:=l1.trans (l2.trans (l4.trans l5))
 have e3:Nat.gcd (Nat.gcd a.natAbs b.natAbs) c.natAbs=gx a b c:=rfl
 have hG0:0<gx a b c:=Nat.gcd_pos_of_pos_left _ hg0
 have MD:(ag (gx a b c)).length<=274877906944:=Nat.le_trans (aH (Nat.gcd_le_left _ hg0)) hgl
 have da:gx a b c∣a.natAbs:=Nat.dvd_trans (Nat.gcd_dvd_left _ _) (Nat.gcd_dvd_left _ _)
 have db:gx a b c∣b.natAbs:=Nat.dvd_trans (Nat.gcd_dvd_left _ _) (Nat.gcd_dvd_right _ _)
 have dc:gx a b c∣c.natAbs:=Nat.gcd_dvd_right _ _
 have sa:=tS hG0 da
 have sb:=tS hG0 db
 have sc:=tS hG0 dc
 rw [e3] at g2
 generalize gx a b c=G at *
 refine ⟨_,_,_,rfl,fun V6 l6=>(dW (ha.le (MI.trans l6)) (g2.le l6) h1 MD hG0).mono ?_⟩
 rintro r V7 l7 ⟨p3,n3,c3,p4,n4,c4,rfl,g3,-⟩
 have Rm:=l6.trans l7
 refine ⟨_,_,_,_,_,_,rfl,fun V8 l8=>(dW (hb.le (MI.trans (Rm.trans l8))) (g2.le (Rm.trans l8)) h2 MD hG0).mono ?_⟩
 rintro r V9 l9 ⟨p5,n5,c5,p6,n6,c6,rfl,g5,-⟩
 have TY:=Rm.trans (l8.trans l9)
 refine ⟨_,_,_,_,_,_,rfl,fun jm l10=>(dW (hc.le (MI.trans (TY.trans l10))) (g2.le (TY.trans l10)) h3 MD hG0).mono ?_⟩
 rintro r kR bW ⟨p7,n7,c7,p8,n8,c8,rfl,g7,-⟩
 refine ⟨_,_,_,_,_,_,rfl,fun nZ dh=>(eQ _ (g3.le (l8.trans (l9.trans (l10.trans (bW.trans dh)))))).mono ?_⟩
 rw [sa]
 rintro r sY dL ⟨p9,n9,c9,rfl,g9⟩
 refine ⟨_,_,_,_,rfl,fun pF fk=>(eQ _ (g5.le (l10.trans (bW.trans (dh.trans (dL.trans fk)))))).mono ?_⟩
 rw [sb]
 rintro r n_ eZ ⟨J1,n10,c10,rfl,g10⟩
 refine ⟨_,_,_,_,rfl,fun oa eF=>(eQ _ (g7.le (dh.trans (dL.trans (fk.trans (eZ.trans eF)))))).mono ?_⟩
 rw [sc]
 rintro r pH ew ⟨Ou,n11,c11,rfl,g11⟩
 refine ⟨_,_,_,_,rfl,fun sE fo=>⟨fun h=>absurd h hne,fun _=>⟨_,rfl,_,_,_,_,_,_,_,_,_,rfl,?_,?_,?_⟩⟩⟩
 ·exact g9.le (fk.trans (eZ.trans (eF.trans (ew.trans fo))))
 ·exact g10.le (eF.trans (ew.trans fo))
 ·exact g11.le fo
abbrev L3:=Int×Int×Int
def cE (x:L3):Bool:=decide (¬(x.1=0/\x.2.1=0))&&decide (gx x.1 x.2.1 x.2.2=1)
def Bd (x:L3):Prop:=x.1.natAbs<2^1000/\x.2.1.natAbs<2^1000/\x.2.2.natAbs<2^1000
inductive Tr where
 | leaf (i:Bool)|node (l:L3) (a b:Tr)
 deriving DecidableEq
structure Nd where
 ln:L3
 left:Int
 right:Int
 deriving DecidableEq
def Tr.size:Tr->Nat
 | .leaf _=>0
 | .node _ a b=>a.size+b.size+1
def Tr.KZ (p:L3->Prop):Tr->Prop
 | .leaf _=>True
 | .node l a b=>p l/\a.KZ p/\b.KZ p
theorem Tr.KZ.imp {p q:L3->Prop}(h:∀x,p x->q x):∀{t:Tr},t.KZ p->t.KZ q
 | .leaf _,_=>trivial
 | .node _ _ _,⟨h1,h2,h3⟩=>⟨h _ h1,Tr.KZ.imp h h2,Tr.KZ.imp h h3⟩
structure RS where
 seen:List Bool
 XI:Nat
 bad:Bool
def Ww (n Qn i:Nat):Nat:=n-1-(i+Qn)%n
def mv (n Qn:Nat)(i:Int):Int:=if i<0 then i else (Ww n Qn i.toNat:Int)
end Go.Proofs.Tryz
namespace Go.bF
open Go.eK
def sC (V:View)(v:Value)(a b c:Rat):Prop:=∃(x1 x2:Int)(p:OA)(y1 y2:Int)(q:OA)(z1 z2:Int)(r:OA),v=.agg #[.int .i64 x1,.int .i64 x2,.pointer p,.int .i64 y1,.int .i64 y2,.pointer q,.int .i64 z1,.int .i64 z2,.pointer r] /\
 RR V (.agg #[.int .i64 x1,.int .i64 x2,.pointer p]) a/\RR V (.agg #[.int .i64 y1,.int .i64 y2,.pointer q]) b/\RR V (.agg #[.int .i64 z1,.int .i64 z2,.pointer r]) c
def Je (v:Value):Prop:=∃(x1 x2:Int)(x3:OA)(y1 y2:Int)(y3:OA)(z1 z2:Int)(z3:OA),v=.agg #[.int .i64 x1,.int .i64 x2,.pointer x3,.int .i64 y1,.int .i64 y2,.pointer y3,.int .i64 z1,.int .i64 z2,.pointer z3]
theorem sC.le {V V':View}{v:Value}{a b c:Rat}(h:sC V v a b c)(l:V.Le V'):sC V' v a b c:=by
 obtain ⟨x1,x2,p,y1,y2,q,z1,z2,r,rfl,h1,h2,h3⟩:=h
 exact ⟨x1,x2,p,y1,y2,q,z1,z2,r,rfl,h1.le l,h2.le l,h3.le l⟩
end Go.bF
namespace Go.Proofs.Tryz
open Go.bF Go.eK
theorem Fm {V:View}{v:Value}{a b c:Rat}(h:sC V v a b c){k:Nat}(s1:Sz k a)(s2:Sz k b)(s3:Sz k c)(hk:k<=1099511627776) :
  ab prog 128 #[v] V fun r V'=>RL V' r a.num b.num c.num:=by
 obtain ⟨x1,x2,p,y1,y2,q,z1,z2,r,rfl,h1,h2,h3⟩:=h
 refine wI _ _ _ _ _ _ _ _ _ V _ fun V1 l1=>(eM (h1.le l1) s1 hk).mono ?_
 rintro r V2 l2 ⟨p1,n1,c1,rfl,g1⟩
 refine ⟨_,_,_,_,rfl,fun V3 l3=>(eM (h2.le (l1.trans (l2.trans l3))) s2 hk).mono ?_⟩
 rintro r V4 l4 ⟨p2,n2,c2,rfl,g2⟩
 refine ⟨_,_,_,_,rfl,fun V5 l5=>(eM (h3.le (l1.trans (l2.trans (l3.trans (l4.trans l5))))) s3 hk).mono ?_⟩
 rintro r V6 l6 ⟨p3,n3,c3,rfl,g3⟩
 exact ⟨_,_,_,_,rfl,fun V7 l7=>⟨_,_,_,_,_,_,_,_,_,rfl,g1.le (l3.trans (l4.trans (l5.trans (l6.trans l7)))),g2.le (l5.trans (l6.trans l7)),g3.le l7⟩⟩
def uE (b1:Bool)(xs:List Nat)(b2:Bool)(ys:List Nat)(b3:Bool)(zs:List Nat):Bool:=
 kQ b1 xs&&kQ b2 ys&&kQ b3 zs&&!(decide ((aT b1 xs:Rat)=0)&&decide ((aT b2 ys:Rat)=0))&&decide (jo (jo (aT b1 xs) (aT b2 ys)) (aT b3 zs)=((1:Int):Rat))
theorem qh {V:View}{ok:Bool}{A B C:Rat}(h:ok=false):∃v,Value.tuple #[.agg #[.int .i64 0,.int .i64 0,.pointer none,.int .i64 0,.int .i64 0,.pointer none,.int .i64 0,.int .i64 0,.pointer none],.bool false]=.tuple #[v,.bool ok]/\Je v/\(ok=true->sC V v A B C):=by
 subst h;exact ⟨_,rfl,⟨_,_,_,_,_,_,_,_,_,rfl⟩,fun h=>nomatch h⟩
theorem IW:Sz 1 ((1:Int):Rat):=by unfold Sz;decide
theorem tH {V:View}(b1 b2 b3:Bool){p q s:OA}{n c m e i j:Nat}{xs ys zs:List Nat}(hx:RD V p n c xs)(hy:RD V q m e ys)(hz:RD V s i j zs)
  (h1:xs.length<=1099511627776)(h2:ys.length<=1099511627776)(h3:zs.length<=1099511627776){k:Nat}(s1:Sz k (aT b1 xs:Rat))(s2:Sz k (aT b2 ys:Rat))(s3:Sz k (aT b3 zs:Rat))(hk:4*k+4<1099511627776) :
  ab prog 127 #[.agg #[.bool b1,.slice p n c,.bool b2,.slice q m e,.bool b3,.slice s i j]] V fun r V'=>∃v,r=.tuple #[v,.bool (uE b1 xs b2 ys b3 zs)]/\Je v/\(uE b1 xs b2 ys b3 zs=true->sC V' v (aT b1 xs) (aT b2 ys) (aT b3 zs)):=by
 refine Cj _ p n c _ q m e _ s i j V _ fun V1 l1=>(fP b1 (hx.le l1) h1).mono ?_
 rintro r V2 l2 rfl
 refine ⟨_,rfl,fun h0 V3 l3=>qh ?_,fun h0 V4 l4=>(fP b2 (hy.le (l1.trans (l2.trans l4))) h2).mono ?_⟩
 ·have h0:kQ b1 xs=false:=by simpa using h0
  simp [uE,h0]
 have h0:kQ b1 xs=true:=by simpa using h0
 rintro r V5 l5 rfl
 refine ⟨_,rfl,fun g0 V6 l6=>qh ?_,fun g0 V7 l7=>(fP b3 (hz.le (l1.trans (l2.trans (l4.trans (l5.trans l7))))) h3).mono ?_⟩
 ·have g0:kQ b2 ys=false:=by simpa using g0
  simp [uE,g0]
 have g0:kQ b2 ys=true:=by simpa using g0
 rintro r V8 l8 rfl
 have PC:=l1.trans (l2.trans (l4.trans (l5.trans (l7.trans l8))))
 refine ⟨_,rfl,fun f0 V9 l9=>qh ?_,fun f0 jm l10=>(kc b1 (hx.le (PC.trans l10)) h1).mono ?_⟩
 ·have f0:kQ b3 zs=false:=by simpa using f0
  simp [uE,f0]
 have f0:kQ b3 zs=true:=by simpa using f0
 rintro r kR bW ra
 obtain ⟨x1,x2,x3,rfl⟩:=ra.shape
 have NT:=PC.trans (l10.trans bW)
 refine ⟨_,_,_,rfl,fun nZ dh=>(kc b2 (hy.le (NT.trans dh)) h2).mono ?_⟩
 rintro r sY dL rb
 obtain ⟨y1,y2,y3,rfl⟩:=rb.shape
 have Rk:=NT.trans (dh.trans dL)
 refine ⟨_,_,_,rfl,fun pF fk=>(kc b3 (hz.le (Rk.trans fk)) h3).mono ?_⟩
 rintro r n_ eZ rc
 obtain ⟨z1,z2,z3,rfl⟩:=rc.shape
 replace ra:=ra.le (dh.trans (dL.trans (fk.trans eZ)))
 replace rb:=rb.le (fk.trans eZ)
 have hok:uE b1 xs b2 ys b3 zs=(!(decide ((aT b1 xs:Rat)=0)&&decide ((aT b2 ys:Rat)=0))&&decide (jo (jo (aT b1 xs) (aT b2 ys)) (aT b3 zs)=((1:Int):Rat))):=by
  simp only [uE,h0,g0,f0,Bool.true_and]
 rw [hok]
 clear hok h0 g0 f0 hx hy hz
 generalize (aT b1 xs:Rat)=A at *
 generalize (aT b2 ys:Rat)=B at *
 generalize (aT b3 zs:Rat)=C at *
 refine ⟨_,_,_,rfl,fun oa eF=>(tD (ra.le eF)).mono ?_⟩
 rintro r pH ew rfl
 refine ⟨_,rfl,fun t0 sE fo=>(tD (rb.le (eF.trans (ew.trans fo)))).mono ?_,fun t0 xi gG=>?_⟩
 ·rintro r xh fl rfl
  refine ⟨_,rfl,fun u0 CF jN=>qh (by rw [t0,u0];rfl),fun u0 xi gG=>?_⟩
  have lb:n_.Le xi:=eF.trans (ew.trans (fo.trans (fl.trans gG)))
  have hn:(decide (A=0)&&decide (B=0))=false:=by rw [u0,Bool.and_false]
  rw [hn]
  refine (kb (ra.le lb) (rb.le lb) s1 s2 (by omega)).mono ?_
  rintro r vO kO rg
  obtain ⟨g1,g2,g3,rfl⟩:=rg.shape
  refine ⟨_,_,_,rfl,fun CG je=>(kb (rg.le je) (rc.le (lb.trans (kO.trans je))) (ma s1 s2) s3 (by omega)).mono ?_⟩
  rintro r Jf Dr rh
  obtain ⟨h1,h2,h3,rfl⟩:=rh.shape
  refine ⟨_,_,_,rfl,fun I9 sM=>(ie 1 (by omega) (by omega)).mono ?_⟩
  rintro r Kw Aw ri
  obtain ⟨i1,i2,i3,rfl⟩:=ri.shape
  refine ⟨_,_,_,rfl,fun Mw mV=>(xB (rh.le (sM.trans (Aw.trans mV))) (ri.le mV) (ma (ma s1 s2) s3) IW (by omega)).mono ?_⟩
  rintro r K7 Gv rfl
  have lz:n_.Le K7:=lb.trans (kO.trans (je.trans (Dr.trans (sM.trans (Aw.trans (mV.trans Gv))))))
  refine ⟨_,rfl,fun w0 Pr CI=>qh ?_,fun w0 Kx Dt=>?_⟩
  ·rw [Bool.not_eq_true'] at w0
   rw [w0];rfl
  ·have w0:decide (jo (jo A B) C=((1:Int):Rat))=true:=by
    cases h:decide (jo (jo A B) C=((1:Int):Rat))
    ·rw [h] at w0;cases w0
    ·rfl
   rw [w0]
   exact ⟨_,rfl,⟨_,_,_,_,_,_,_,_,_,rfl⟩,fun _=>⟨_,_,_,_,_,_,_,_,_,rfl,ra.le (lz.trans Dt),rb.le (lz.trans Dt),rc.le (lz.trans Dt)⟩⟩
 ·have lb:n_.Le xi:=eF.trans (ew.trans gG)
  have hn:(decide (A=0)&&decide (B=0))=false:=by rw [t0,Bool.false_and]
  rw [hn]
  refine (kb (ra.le lb) (rb.le lb) s1 s2 (by omega)).mono ?_
  rintro r vO kO rg
  obtain ⟨g1,g2,g3,rfl⟩:=rg.shape
  refine ⟨_,_,_,rfl,fun CG je=>(kb (rg.le je) (rc.le (lb.trans (kO.trans je))) (ma s1 s2) s3 (by omega)).mono ?_⟩
  rintro r Jf Dr rh
  obtain ⟨h1,h2,h3,rfl⟩:=rh.shape
  refine ⟨_,_,_,rfl,fun I9 sM=>(ie 1 (by omega) (by omega)).mono ?_⟩
  rintro r Kw Aw ri
  obtain ⟨i1,i2,i3,rfl⟩:=ri.shape
  refine ⟨_,_,_,rfl,fun Mw mV=>(xB (rh.le (sM.trans (Aw.trans mV))) (ri.le mV) (ma (ma s1 s2) s3) IW (by omega)).mono ?_⟩
  rintro r K7 Gv rfl
  have lz:n_.Le K7:=lb.trans (kO.trans (je.trans (Dr.trans (sM.trans (Aw.trans (mV.trans Gv))))))
  refine ⟨_,rfl,fun w0 Pr CI=>qh ?_,fun w0 Kx Dt=>?_⟩
  ·rw [Bool.not_eq_true'] at w0
   rw [w0];rfl
  ·have w0:decide (jo (jo A B) C=((1:Int):Rat))=true:=by
    cases h:decide (jo (jo A B) C=((1:Int):Rat))
    ·rw [h] at w0;cases w0
    ·rfl
   rw [w0]
   exact ⟨_,rfl,⟨_,_,_,_,_,_,_,_,_,rfl⟩,fun _=>⟨_,_,_,_,_,_,_,_,_,rfl,ra.le (lz.trans Dt),rb.le (lz.trans Dt),rc.le (lz.trans Dt)⟩⟩
def JZ:List Int->Int
 | []=>0
 | x::r=>if x=0 then JZ r else x
def LK (l:List Int):List Value:=l.map fun x=>Value.int .i64 x
theorem L7 {l:List Int}:JZ l=0↔∀x∈l,x=0:=by
 induction l with
 | nil=>simp [JZ]
 | cons x r ih=>
  simp only [JZ,List.mem_cons,forall_eq_or_imp]
  split
  ·rename_i h;simp [h,ih]
  ·rename_i h;simp [h]
theorem G0 {V:View}{p:OA}{n c:Nat}{l:List Int}(hl:n=l.length)(hs:V.sl p (LK l))(hm:l.length<=1099511627776) :
  ab prog 215 #[.slice p n c] V fun r V'=>r=.int .i64 (JZ l):=by
 refine Gj p n c V _ ⟨fun z V'=>0<=z/\z<=n/\JZ l=JZ (l.drop z.toNat),fun z=>n-z.toNat,⟨0,by (try dsimp only);and_intros<;>first|exact True.intro|rfl,by (try dsimp only);omega,by (try dsimp only);omega,rfl⟩,?_⟩
 rintro i V1 l1 ⟨hi0,hi1,he⟩
 dsimp only at hi1 he ⊢
 obtain ⟨i,rfl⟩:=Int.eq_ofNat_of_zero_le hi0
 simp only [Int.toNat_natCast] at he
 refine ⟨by trivial,fun h3=>?_,fun h3 V3 l3=>?_⟩
 ·have h3:i<n:=by simpa using h3
  have hil:i<l.length:=by omega
  obtain ⟨ad,e1,hat⟩:=(l1.sl hs) i (.int .i64 l[i]) (by simp [LK,hil])
  rw [List.drop_eq_getElem_cons hil,JZ] at he
  refine ⟨by rw [e1];rfl,⟨by omega,by omega⟩,l[i],⟨ad.add i,by rw [e1];simp [ai],hat⟩,fun h4 V2 l2=>?_,fun h4=>?_⟩
  ·have h4:l[i]≠0:=by simpa using h4
   rw [if_neg h4] at he
   rw [he]
  ·have h4:l[i]=0:=by simpa using h4
   rw [if_pos h4] at he
   have w:i64.wrap ((i:Int)+1)=((i+1:Nat):Int):=by rw [ay (by omega)];omega
   simp only [w]
   refine ⟨((i+1:Nat):Int),?_,by (try dsimp only);and_intros<;>first|exact True.intro|rfl,by (try dsimp only);omega,by (try dsimp only);omega,?_⟩
   ·(try dsimp only);omega
   ·exact he
 ·have h3:i=n:=by simp at h3;omega
  rw [List.drop_of_length_le (by omega)] at he
  rw [he];rfl
theorem Fo {V:View}{v w:Value}{a b c a' b' c':Rat}(hx:sC V v a b c)(hy:sC V w a' b' c'){k m:Nat}(s1:Sz k a)(s2:Sz k b)(s3:Sz k c)(t1:Sz m a')(t2:Sz m b')(t3:Sz m c')(hk:k+m<1099511627776) :
  ab prog 183 #[v,w] V fun r V'=>r=.int .i64 (JZ [fJ a a',fJ b b',fJ c c']):=by
 obtain ⟨x1,x2,p,y1,y2,q,z1,z2,r,rfl,h1,h2,h3⟩:=hx
 obtain ⟨x3,x4,p',y3,y4,q',z3,z4,r',rfl,g1,g2,g3⟩:=hy
 refine wJ _ _ _ _ _ _ _ _ _ _ _ _ _ _ _ _ _ _ V _ fun V1 l1=>(ka (h1.le l1) (g1.le l1) s1 t1 hk).mono ?_
 rintro r V2 l2 rfl
 refine ⟨_,rfl,fun V3 l3=>(ka (h2.le (l1.trans (l2.trans l3))) (g2.le (l1.trans (l2.trans l3))) s2 t2 hk).mono ?_⟩
 rintro r V4 l4 rfl
 have JO:=l1.trans (l2.trans (l3.trans l4))
 refine ⟨_,rfl,fun V5 l5=>(ka (h3.le (JO.trans l5)) (g3.le (JO.trans l5)) s3 t3 hk).mono ?_⟩
 rintro r V6 l6 rfl
 refine ⟨_,rfl,fun V7 l7 bk hb=>(G0 (l:=[fJ a a',fJ b b',fJ c c']) rfl (fun i v hv=>⟨_,rfl,by rw [add_zero'];exact fN (xs:=LK [fJ a a',fJ b b',fJ c c']) hb hv⟩) (by simp)).mono ?_⟩
 rintro r V8 l8 rfl
 exact ⟨_,rfl,fun _ V9 l9=>rfl⟩
theorem AU {V:View}{v w:Value}{a b c a' b' c':Rat}(hx:sC V v a b c)(hy:sC V w a' b' c'){k m:Nat}(s1:Sz k a)(s2:Sz k b)(s3:Sz k c)(t1:Sz m a')(t2:Sz m b')(t3:Sz m c')(hk:k+m<1099511627776) :
  ab prog 134 #[v,w] V fun r V'=>r=.bool (decide (a=a'/\b=b'/\c=c')):=by
 have hx0:=hx
 have hy0:=hy
 obtain ⟨x1,x2,p,y1,y2,q,z1,z2,r,rfl,-,-,-⟩:=hx
 obtain ⟨x3,x4,p',y3,y4,q',z3,z4,r',rfl,-,-,-⟩:=hy
 refine rR _ _ _ _ _ _ _ _ _ _ _ _ _ _ _ _ _ _ V _ fun V1 l1=>(Fo (hx0.le l1) (hy0.le l1) s1 s2 s3 t1 t2 t3 hk).mono ?_
 rintro r V2 l2 rfl
 refine ⟨_,rfl,fun V3 l3=>?_⟩
 congr 1
 rw [Bool.eq_iff_iff,decide_eq_true_eq,beq_iff_eq,L7]
 simp [←gO]
theorem K9 (a:Addr)(i j:Nat):(a.add i).add j=a.add (i+j):=by
 unfold Addr.add
 by_cases h1:i=0
 ·subst h1;simp
 ·by_cases h2:j=0
  ·subst h2;simp [h1]
  ·simp [h1,h2,Nat.add_assoc]
theorem BG {a b c:Int}:uE (decide (a<0)) (ag a.natAbs) (decide (b<0)) (ag b.natAbs) (decide (c<0)) (ag c.natAbs)=cE (a,b,c):=by
 have hn:∀z:Int,kQ (decide (z<0)) (ag z.natAbs)=true:=by
  intro z
  unfold kQ
  rw [ae]
  simp only [decide_true,Bool.true_and]
  by_cases h:z<0
  ·simp only [h,decide_true,Bool.not_true,Bool.false_or,decide_eq_true_eq]
   intro e
   have:=bq.1 e
   omega
  ·simp [h]
 have hg:jo (jo (a:Rat) (b:Rat)) (c:Rat)=((gx a b c:Nat):Int):=by
  have g2:∀x y:Int,jo (x:Rat) (y:Rat)=((Nat.gcd x.natAbs y.natAbs:Nat):Int):=by
   intro x y
   unfold jo
   have e1:((x:Rat)).num=x:=rfl
   have e2:((y:Rat)).num=y:=rfl
   have e3:((x:Rat)).den=1:=rfl
   have e4:((y:Rat)).den=1:=rfl
   rw [e1,e2,e3,e4]
   simp only [Nat.mul_one]
   exact Rat.mkRat_one _
  rw [g2,g2]
  rfl
 unfold uE cE
 rw [hn,hn,hn,aG,aG,aG,hg]
 have h0:∀z:Int,((z:Rat)=0)↔z=0:=fun z=>by exact Rat.intCast_eq_zero_iff
 simp only [Bool.true_and,h0]
 rw [Bool.eq_iff_iff]
 simp only [Bool.and_eq_true,Bool.not_eq_true',Bool.and_eq_false_iff,decide_eq_false_iff_not,decide_eq_true_eq]
 have h1:(((gx a b c:Nat):Int):Rat)=((1:Int):Rat)↔gx a b c=1:=by
  rw [Rat.intCast_inj];omega
 rw [h1]
 constructor
 ·rintro ⟨h,h'⟩;exact ⟨fun e=>by rcases h with h|h;exact h e.1;exact h e.2,h'⟩
 ·rintro ⟨h,h'⟩
  refine ⟨?_,h'⟩
  by_cases ha:a=0
  ·exact .inr fun hb=>h ⟨ha,hb⟩
  ·exact .inl ha
theorem zY {z:Int}{k:Nat}(h:z.natAbs<2^k)(hk:0<k):Sz k (z:Rat):=⟨h,Nat.one_lt_two_pow (by omega)⟩
theorem Bd.ag {x:L3}(h:Bd x):(ag x.1.natAbs).length<=1000/\(ag x.2.1.natAbs).length<=1000/\(ag x.2.2.natAbs).length<=1000:=⟨af h.1,af h.2.1,af h.2.2⟩
theorem Bd.sz {x:L3}(h:Bd x):Sz 1000 (x.1:Rat)/\Sz 1000 (x.2.1:Rat)/\Sz 1000 (x.2.2:Rat):=⟨zY h.1 (by omega),zY h.2.1 (by omega),zY h.2.2 (by omega)⟩
theorem qM {V:View}{v:Value}{x:L3}(h:RL V v x.1 x.2.1 x.2.2)(hb:Bd x) :
  ab prog 127 #[v] V fun r V'=>∃w,r=.tuple #[w,.bool (cE x)]/\Je w/\(cE x=true->sC V' w x.1 x.2.1 x.2.2):=by
 obtain ⟨p,n,s,p',n',s',q,m,e,rfl,h1,h2,h3⟩:=h
 obtain ⟨d1,d2,d3⟩:=hb.ag
 obtain ⟨s1,s2,s3⟩:=hb.sz
 have hc:=tH (V:=V) (decide (x.1<0)) (decide (x.2.1<0)) (decide (x.2.2<0)) h1 h2 h3 (by omega) (by omega) (by omega) (k:=1000) (by rw [aG];exact s1) (by rw [aG];exact s2) (by rw [aG];exact s3) (by omega)
 rw [BG,aG,aG,aG] at hc
 exact hc
def og (V:View)(v:Value)(l:L3):Prop:=RL V v l.1 l.2.1 l.2.2\/cE l=false/\∃b1 p n c xs b2 q m e ys b3 s i j zs,v=.agg #[.bool b1,.slice p n c,.bool b2,.slice q m e,.bool b3,.slice s i j]/\RD V p n c xs/\RD V q m e ys/\RD V s i j zs /\
 uE b1 xs b2 ys b3 zs=false/\(xs.length<=1000000/\ys.length<=1000000/\zs.length<=1000000)/\Sz 1000000 (aT b1 xs:Rat)/\Sz 1000000 (aT b2 ys:Rat)/\Sz 1000000 (aT b3 zs:Rat)
theorem og.le {V V':View}{v:Value}{l:L3}(h:og V v l)(e:V.Le V'):og V' v l:=by
 rcases h with h|⟨ho,b1,p,n,c,xs,b2,q,m,e',ys,b3,s,i,j,zs,hv,h1,h2,h3,h4⟩
 ·exact .inl (h.le e)
 ·exact .inr ⟨ho,b1,p,n,c,xs,b2,q,m,e',ys,b3,s,i,j,zs,hv,h1.le e,h2.le e,h3.le e,h4⟩
theorem og.ok {V:View}{v:Value}{l:L3}(h:og V v l)(ho:cE l=true):RL V v l.1 l.2.1 l.2.2:=by
 rcases h with h|⟨h,-⟩
 ·exact h
 ·rw [ho] at h;cases h
theorem yS {V:View}{v:Value}{x:L3}(h:og V v x)(hb:Bd x) :
  ab prog 127 #[v] V fun r V'=>∃w,r=.tuple #[w,.bool (cE x)]/\Je w/\(cE x=true->sC V' w x.1 x.2.1 x.2.2):=by
 rcases h with h|⟨ho,b1,p,n,c,xs,b2,q,m,e',ys,b3,s,i,j,zs,rfl,h1,h2,h3,h4,⟨m1,m2,m3⟩,s1,s2,s3⟩
 ·exact qM h hb
 ·refine (tH b1 b2 b3 h1 h2 h3 (by omega) (by omega) (by omega) s1 s2 s3 (by omega)).mono ?_
  rintro r V2 l2 ⟨w,rfl,g1,g2⟩
  rw [h4] at g2 ⊢
  rw [ho]
  exact ⟨w,rfl,g1,fun h=>by cases h⟩
def NR (V:View)(vs:List Value)(l:List Nd):Prop:=∀(i:Nat)(d:Nd),l[i]?=some d->∃(b1:Bool)(p1:OA)(n1 c1:Nat)(b2:Bool)(p2:OA)(n2 c2:Nat)(b3:Bool)(p3:OA)(n3 c3:Nat),
 (∀j v,([.bool b1,.slice p1 n1 c1,.bool b2,.slice p2 n2 c2,.bool b3,.slice p3 n3 c3,.int .i64 d.left,.int .i64 d.right]:List Value)[j]?=some v->vs[i*8+j]?=some v) /\
 og V (.agg #[.bool b1,.slice p1 n1 c1,.bool b2,.slice p2 n2 c2,.bool b3,.slice p3 n3 c3]) d.ln
theorem NR.le {V V':View}{vs:List Value}{l:List Nd}(h:NR V vs l)(hl:V.Le V'):NR V' vs l:=fun i d hd=>by
 obtain ⟨b1,p1,n1,c1,b2,p2,n2,c2,b3,p3,n3,c3,h1,h2⟩:=h i d hd
 exact ⟨b1,p1,n1,c1,b2,p2,n2,c2,b3,p3,n3,c3,h1,h2.le hl⟩
structure NS (V:View) (p:OA) (n c:Nat) (l:List Nd):Prop where
 len:n=l.length
 cap:n<=c
 row:∃vs,V.sl p vs/\NR V vs l
 H2:p.isNone=true->c=0
theorem NS.le {V V':View}{p:OA}{n c:Nat}{l:List Nd}(h:NS V p n c l)(hl:V.Le V'):NS V' p n c l:=by
 obtain ⟨h1,h2,⟨vs,h3,h4⟩,h5⟩:=h
 exact ⟨h1,h2,⟨vs,hl.sl h3,h4.le hl⟩,h5⟩
theorem NS.nil {V:View}:NS V none 0 0 []:=⟨rfl,Nat.le_refl _,⟨[],fun i v h=>by simp at h,fun i d h=>by simp at h⟩,fun _=>rfl⟩
theorem NS.rd {V:View}{p:OA}{n c:Nat}{l:List Nd}(h:NS V p n c l){k:Nat}{d:Nd}(hd:l[k]?=some d) :
  ∃(b1:Bool)(p1:OA)(n1 c1:Nat)(b2:Bool)(p2:OA)(n2 c2:Nat)(b3:Bool)(p3:OA)(n3 c3:Nat)(a:Addr),ai p (k*8)=some a /\
   V.at (a.add 0) (.bool b1)/\V.at (a.add 1) (.slice p1 n1 c1)/\V.at (a.add 2) (.bool b2)/\V.at (a.add 3) (.slice p2 n2 c2)/\V.at (a.add 4) (.bool b3)/\V.at (a.add 5) (.slice p3 n3 c3)/\V.at (a.add 6) (.int .i64 d.left)/\V.at (a.add 7) (.int .i64 d.right) /\
   og V (.agg #[.bool b1,.slice p1 n1 c1,.bool b2,.slice p2 n2 c2,.bool b3,.slice p3 n3 c3]) d.ln:=by
 obtain ⟨vs,hs,hr⟩:=h.row
 obtain ⟨b1,p1,n1,c1,b2,p2,n2,c2,b3,p3,n3,c3,h1,h2⟩:=hr k d hd
 obtain ⟨ad,rfl,-⟩:=hs _ _ (h1 0 _ rfl)
 have key:∀j v,([.bool b1,.slice p1 n1 c1,.bool b2,.slice p2 n2 c2,.bool b3,.slice p3 n3 c3,.int .i64 d.left,.int .i64 d.right]:List Value)[j]?=some v->V.at ((ad.add (k*8)).add j) v:=by
  intro j v hv
  obtain ⟨P_,e,ha⟩:=hs _ _ (h1 j v hv)
  cases e
  rw [K9]
  exact ha
 exact ⟨b1,p1,n1,c1,b2,p2,n2,c2,b3,p3,n3,c3,_,rfl,key 0 _ rfl,key 1 _ rfl,key 2 _ rfl,key 3 _ rfl,key 4 _ rfl,key 5 _ rfl,key 6 _ rfl,key 7 _ rfl,h2⟩
theorem KY {vs:List Value}{n b:Nat}(h:vs≠[]):vb vs n b=b:=by cases vs with|nil=>exact absurd rfl h|cons v r=>rfl
theorem NR.push {V:View}{vs sp:List Value}{l:List Nd}(h:NR V vs l)(hl:l.length*8<=vs.length){ln:L3}{x y:Int}{b1:Bool}{p1:OA}{n1 c1:Nat}{b2:Bool}{p2:OA}{n2 c2:Nat}{b3:Bool}{p3:OA}{n3 c3:Nat}
  (hL:RL V (.agg #[.bool b1,.slice p1 n1 c1,.bool b2,.slice p2 n2 c2,.bool b3,.slice p3 n3 c3]) ln.1 ln.2.1 ln.2.2) :
  NR V (vs.take (l.length*8)++[.bool b1,.slice p1 n1 c1,.bool b2,.slice p2 n2 c2,.bool b3,.slice p3 n3 c3,.int .i64 x,.int .i64 y]++sp) (l++[⟨ln,x,y⟩]):=by
 intro i d hd
 rcases Nat.lt_or_ge i l.length with hi|hi
 ·rw [List.getElem?_append_left hi] at hd
  obtain ⟨b1',Ot,n1',c1',b2',RT,RC,c2',b3',RU,RG,c3',h1,h2⟩:=h i d hd
  refine ⟨b1',Ot,n1',c1',b2',RT,RC,c2',b3',RU,RG,c3',fun j v hv=>?_,h2⟩
  have hj:j<8:=by
   rcases Nat.lt_or_ge j 8 with hj|hj
   ·exact hj
   ·rw [List.getElem?_eq_none (by simpa using hj)] at hv;cases hv
  have:=h1 j v hv
  rw [List.append_assoc,List.getElem?_append_left (by rw [List.length_take];omega),List.getElem?_take,if_pos (by omega)]
  exact this
 ·rw [List.getElem?_append_right hi] at hd
  have hi':i=l.length:=by
   rcases Nat.lt_or_ge (i-l.length) 1 with h'|h'
   ·omega
   ·rw [List.getElem?_eq_none (by simpa using h')] at hd;cases hd
  subst hi'
  simp only [Nat.sub_self,List.getElem?_cons_zero,Option.some.injEq] at hd
  subst hd
  refine ⟨b1,p1,n1,c1,b2,p2,n2,c2,b3,p3,n3,c3,fun j v hv=>?_,.inl hL⟩
  have hj:j<8:=by
   rcases Nat.lt_or_ge j 8 with hj|hj
   ·exact hj
   ·rw [List.getElem?_eq_none (by simpa using hj)] at hv;cases hv
  rw [List.append_assoc,List.getElem?_append_right (by rw [List.length_take];omega),List.length_take,Nat.min_eq_left hl,Nat.add_sub_cancel_left,List.getElem?_append_left (by simpa using hj)]
  exact hv
theorem NR.take {V:View}{vs:List Value}{l:List Nd}(h:NR V vs l):NR V (vs.take (l.length*8)) l:=by
 intro i d hd
 obtain ⟨b1,p1,n1,c1,b2,p2,n2,c2,b3,p3,n3,c3,h1,h2⟩:=h i d hd
 refine ⟨b1,p1,n1,c1,b2,p2,n2,c2,b3,p3,n3,c3,fun j v hv=>?_,h2⟩
 have hj:j<8:=by
  rcases Nat.lt_or_ge j 8 with hj|hj
  ·exact hj
  ·rw [List.getElem?_eq_none (by simpa using hj)] at hv;cases hv
 have hi:i<l.length:=by
  rcases Nat.lt_or_ge i l.length with h|h
  ·exact h
  ·rw [List.getElem?_eq_none h] at hd;cases hd
 rw [List.getElem?_take,if_pos (by omega)]
 exact h1 j v hv
def AT (V:View)(v:Value)(root:Int)(l:List Nd):Prop:=∃q n c,v=.agg #[.int .i64 root,.slice q n c]/\NS V q n c l
theorem AT.le {V V':View}{v:Value}{root:Int}{l:List Nd}(h:AT V v root l)(hl:V.Le V'):AT V' v root l:=by
 obtain ⟨q,n,c,e,h⟩:=h;exact ⟨q,n,c,e,h.le hl⟩
theorem AT.zero {V:View}:AT V (.agg #[.int .i64 0,.slice none 0 0]) 0 []:=⟨_,_,_,rfl,NS.nil⟩
theorem RQ.ofNat {V:View}{p:OA}{n c x:Nat}(h:RN V p n c x){b:Bool}(hb:b=decide ((x:Int)<0)):RQ V (.agg #[.bool b,.slice p n c,.slice none 0 0]) ((x:Int):Rat):=
 mX (z:=(x:Int)) (d:=1) rfl rfl h RD.nil hb
theorem RQ.int {V:View}{q:Rat}{b:Bool}{p:OA}{n c:Nat}{p':OA}{n' c':Nat}(h:RQ V (.agg #[.bool b,.slice p n c,.slice p' n' c']) q):RI V (.agg #[.bool b,.slice p n c]) q.num:=by
 obtain ⟨p1,n1,c1,p2,n2,c2,e,h1,h2⟩:=h
 cases e
 exact ⟨_,_,_,rfl,h1⟩
theorem RQ.den {V:View}{q:Rat}{b:Bool}{p:OA}{n c:Nat}{p':OA}{n' c':Nat}(h:RQ V (.agg #[.bool b,.slice p n c,.slice p' n' c']) q):RD V p' n' c' (rF q.den):=by
 obtain ⟨p1,n1,c1,p2,n2,c2,e,h1,h2⟩:=h
 cases e
 exact h2
def lR (px py qx qy:Rat):Rat×Rat×Rat:=
 let a:=-(qy-py);let b:=qx-px;let c:=-(a*px+b*py)
 let f:Rat:=(((a.den*b.den*c.den:Nat):Int):Rat)
 (a*f,b*f,c*f)
theorem Mp {n k:Nat}(h:n<2^k)(hk:0<k):Sz k (((n:Nat):Int):Rat):=by
 refine ⟨?_,?_⟩
 ·show ((n:Nat):Int).natAbs<_
  simpa using h
 ·show 1<2^k
  exact Nat.one_lt_two_pow (by omega)
theorem kM {V:View}{u w:Value}{px py qx qy:Rat}(hp:RP V u px py)(hq:RP V w qx qy){k:Nat}(s1:Sz k px)(s2:Sz k py)(s3:Sz k qx)(s4:Sz k qy)(hk1:1<=k)(hk:64*k+64<274877906944) :
  ab prog 11 #[u,w] V fun r V'=>((lR px py qx qy).1.num=0/\(lR px py qx qy).2.1.num=0->∃l,r=.tuple #[l,.bool false]/\RL V' l 0 0 0) /\
   (¬((lR px py qx qy).1.num=0/\(lR px py qx qy).2.1.num=0)->∃l,r=.tuple #[l,.bool true] /\
    RL V' l ((lR px py qx qy).1.num / (gx (lR px py qx qy).1.num (lR px py qx qy).2.1.num (lR px py qx qy).2.2.num:Int)) ((lR px py qx qy).2.1.num / (gx (lR px py qx qy).1.num (lR px py qx qy).2.1.num (lR px py qx qy).2.2.num:Int)) ((lR px py qx qy).2.2.num / (gx (lR px py qx qy).1.num (lR px py qx qy).2.1.num (lR px py qx qy).2.2.num:Int))):=by
 have hp0:=hp
 have hq0:=hq
 obtain ⟨p1,n1,c1,p2,n2,c2,p3,n3,c3,p4,n4,c4,rfl,hp1,hp2⟩:=hp
 obtain ⟨q1,m1,e1,q2,m2,e2,q3,m3,e3,q4,m4,e4,rfl,-,-⟩:=hq
 refine qE _ p1 n1 c1 p2 n2 c2 _ p3 n3 c3 p4 n4 c4 _ q1 m1 e1 q2 m2 e2 _ q3 m3 e3 q4 m4 e4 V _ fun V1 l1=>(AY (hq0.le l1) (hp0.le l1) s3 s4 s1 s2 hk1 (by omega)).mono ?_
 rintro r V2 l2 ⟨a1,a2,a3,a4,a5,a6,a7,a8,a9,XF,XG,a12,rfl,hb,hd⟩
 have tb:Sz (k+k+1) (qx-px):=s3.sub s1
 have td:Sz (k+k+1) (qy-py):=s4.sub s2
 have NV:=l1.trans l2
 refine ⟨_,_,_,_,_,_,_,_,_,_,_,_,_,_,rfl,fun V3 l3=>(pQ (qy-py) (by obtain ⟨_,_,_,_,_,_,e,h1,h2⟩:=hd.le l3;cases e;exact h1) (RQ.den (hd.le l3))).mono ?_⟩
 rintro r V4 l4 ha
 obtain ⟨b1,b2,b3,b4,b5,b6,rfl⟩:=ha.shape
 have ta:=td.neg
 have Q8:lR px py qx qy=(-(qy-py)*(((((-(qy-py)).den*(qx-px).den*(-(-(qy-py)*px+(qx-px)*py)).den:Nat):Int):Rat)),(qx-px)*(((((-(qy-py)).den*(qx-px).den*(-(-(qy-py)*px+(qx-px)*py)).den:Nat):Int):Rat)),(-(-(qy-py)*px+(qx-px)*py))*(((((-(qy-py)).den*(qx-px).den*(-(-(qy-py)*px+(qx-px)*py)).den:Nat):Int):Rat))):=rfl
 rw [Q8]
 generalize -(qy-py)=A at *
 generalize qx-px=B at *
 replace hb:=hb.le (l3.trans l4)
 replace hp1:=hp1.le (NV.trans (l3.trans l4))
 replace hp2:=hp2.le (NV.trans (l3.trans l4))
 refine ⟨_,_,_,_,_,_,_,rfl,fun V5 l5=>(cG (ha.le l5) (hp1.le l5) ta s1 (by omega)).mono ?_⟩
 rintro r V6 l6 g6
 obtain ⟨d1,d2,d3,d4,d5,d6,rfl⟩:=g6.shape
 refine ⟨_,_,_,_,_,_,_,rfl,fun V7 l7=>(cG (hb.le (l5.trans (l6.trans l7))) (hp2.le (l5.trans (l6.trans l7))) tb s2 (by omega)).mono ?_⟩
 rintro r V8 l8 g8
 obtain ⟨f1,f2,f3,f4,f5,f6,rfl⟩:=g8.shape
 refine ⟨_,_,_,_,_,_,_,rfl,fun V9 l9=>(dj (g6.le (l7.trans (l8.trans l9))) (g8.le l9) (ta.mul s1) (tb.mul s2) (by omega)).mono ?_⟩
 rintro r jm l10 g10
 have tc:=((ta.mul s1).add (tb.mul s2)).neg
 obtain ⟨i1,i2,i3,i4,i5,i6,rfl⟩:=g10.shape
 refine ⟨_,_,_,_,_,_,_,rfl,fun kR bW=>(pQ (A*px+B*py) (by obtain ⟨_,_,_,_,_,_,e,h1,h2⟩:=g10.le bW;cases e;exact h1) (RQ.den (g10.le bW))).mono ?_⟩
 rintro r nZ dh hc
 generalize -(A*px+B*py)=C at *
 obtain ⟨j1,j2,j3,j4,j5,j6,rfl⟩:=hc.shape
 have JN:=l5.trans (l6.trans (l7.trans (l8.trans (l9.trans (l10.trans (bW.trans dh))))))
 replace ha:=ha.le JN
 replace hb:=hb.le JN
 refine ⟨_,_,_,_,_,_,_,rfl,fun sY dL=>(dD A _ (RQ.den (ha.le dL))).mono ?_⟩
 rintro r pF fk ⟨k1,k2,k3,rfl,g14⟩
 refine ⟨_,_,_,rfl,fun n_ eZ=>(dD B _ (RQ.den (hb.le (dL.trans (fk.trans eZ))))).mono ?_⟩
 rintro r oa eF ⟨k4,k5,k6,rfl,g16⟩
 obtain ⟨-,da,-⟩:=cg ta
 obtain ⟨-,db,-⟩:=cg tb
 obtain ⟨-,dc,-⟩:=cg tc
 refine ⟨_,_,_,rfl,fun pH ew=>(cR (g14.le (eZ.trans (eF.trans ew))) (g16.le ew) (by omega)).mono ?_⟩
 rintro r sE fo ⟨k7,k8,k9,rfl,g18⟩
 rw [ae,ae] at g18
 refine ⟨_,_,_,rfl,fun xh fl=>(dD C _ (RQ.den (hc.le (dL.trans (fk.trans (eZ.trans (eF.trans (ew.trans (fo.trans fl))))))))).mono ?_⟩
 rintro r CF jN ⟨k10,k11,k12,rfl,g20⟩
 have XL:=gQ (a:=A.den) (b:=B.den)
 refine ⟨_,_,_,rfl,fun xi gG=>(cR (g18.le (fl.trans (jN.trans gG))) (g20.le gG) (by omega)).mono ?_⟩
 rintro r vO kO ⟨k13,k14,k15,rfl,g22⟩
 rw [ae,ae] at g22
 have tf:Sz (k+k+1+(k+k+1)+(k+k+1+k+1+(k+k+1+k+1)+1)) (((A.den*B.den*C.den:Nat):Int):Rat):=Mp (bX (bX ta.2 tb.2) tc.2) (by omega)
 generalize A.den*B.den*C.den=M at *
 refine ⟨_,_,_,rfl,fun CG je=>(pR (g22.le je)).mono ?_⟩
 rintro r Jf Dr ⟨k16,k17,k18,rfl,g24⟩
 have hf:=RQ.ofNat g24 rfl
 have LN:=dL.trans (fk.trans (eZ.trans (eF.trans (ew.trans (fo.trans (fl.trans (jN.trans (gG.trans (kO.trans (je.trans Dr))))))))))
 refine ⟨_,_,_,_,rfl,fun I9 sM=>(cG (ha.le (LN.trans sM)) (hf.le sM) ta tf (by omega)).mono ?_⟩
 rintro r Kw Aw Tp
 obtain ⟨o1,o2,o3,o4,o5,o6,rfl⟩:=Tp.shape
 refine ⟨_,_,_,_,_,_,_,rfl,fun Mw mV=>(cG (hb.le (LN.trans (sM.trans (Aw.trans mV)))) (hf.le (sM.trans (Aw.trans mV))) tb tf (by omega)).mono ?_⟩
 rintro r K7 Gv Tq
 obtain ⟨o7,o8,o9,XZ,X0,X1,rfl⟩:=Tq.shape
 refine ⟨_,_,_,_,_,_,_,rfl,fun Pr CI=>(cG (hc.le (LN.trans (sM.trans (Aw.trans (mV.trans (Gv.trans CI)))))) (hf.le (sM.trans (Aw.trans (mV.trans (Gv.trans CI))))) tc tf (by omega)).mono ?_⟩
 rintro r Kx Dt nw
 obtain ⟨t1,t2,t3,t4,t5,t6,rfl⟩:=nw.shape
 refine ⟨_,_,_,_,_,_,_,rfl,fun SN KO=>(vW (RQ.int (Tp.le (mV.trans (Gv.trans (CI.trans (Dt.trans KO)))))) (RQ.int (Tq.le (CI.trans (Dt.trans KO)))) (RQ.int (nw.le KO)) (Nat.le_trans (cg (ta.mul tf)).1 (by omega)) (Nat.le_trans (cg (tb.mul tf)).1 (by omega)) (Nat.le_trans (cg (tc.mul tf)).1 (by omega))).mono ?_⟩
 rintro r Us TZ ⟨z1,z2⟩
 by_cases hz:(A*((M:Int):Rat)).num=0/\(B*((M:Int):Rat)).num=0
 ·obtain ⟨l,rfl,y1,y2,y3,y4,y5,y6,y7,y8,y9,rfl,w1,w2,w3⟩:=z1 hz
  exact ⟨_,_,_,_,_,_,_,_,_,_,_,_,_,rfl,fun Ut LS=>⟨fun _=>⟨_,rfl,_,_,_,_,_,_,_,_,_,rfl,w1.le LS,w2.le LS,w3.le LS⟩,fun h=>absurd hz h⟩⟩
 ·obtain ⟨l,rfl,y1,y2,y3,y4,y5,y6,y7,y8,y9,rfl,w1,w2,w3⟩:=z2 hz
  exact ⟨_,_,_,_,_,_,_,_,_,_,_,_,_,rfl,fun Ut LS=>⟨fun h=>absurd h hz,fun _=>⟨_,rfl,_,_,_,_,_,_,_,_,_,rfl,w1.le LS,w2.le LS,w3.le LS⟩⟩⟩
theorem Kl (x y u w:Int):lR (x:Rat) (y:Rat) ((x:Rat)+((1:Int):Rat)*(u:Rat)) ((y:Rat)+((1:Int):Rat)*(w:Rat))=(((-w:Int):Rat),((u:Int):Rat),((w*x-u*y:Int):Rat)):=by
 have e1:(x:Rat)+((1:Int):Rat)*(u:Rat)=((x+u:Int):Rat):=by rw [←Rat.intCast_mul,←Rat.intCast_add,Int.one_mul]
 have e2:(y:Rat)+((1:Int):Rat)*(w:Rat)=((y+w:Int):Rat):=by rw [←Rat.intCast_mul,←Rat.intCast_add,Int.one_mul]
 rw [e1,e2]
 have ha:-(((y+w:Int):Rat)-(y:Rat))=((-w:Int):Rat):=by rw [←Rat.intCast_sub,←Rat.intCast_neg];congr 1;omega
 have hb:((x+u:Int):Rat)-(x:Rat)=((u:Int):Rat):=by rw [←Rat.intCast_sub];congr 1;omega
 have hc:-(((-w:Int):Rat)*(x:Rat)+((u:Int):Rat)*(y:Rat))=((w*x-u*y:Int):Rat):=by
  rw [←Rat.intCast_mul,←Rat.intCast_mul,←Rat.intCast_add,←Rat.intCast_neg];congr 1;rw [Int.neg_mul];omega
 have hf:(((((-w:Int):Rat).den*((u:Int):Rat).den*((w*x-u*y:Int):Rat).den:Nat):Int):Rat)=1:=rfl
 unfold lR
 dsimp only
 rw [ha,hb,hc,hf,Rat.mul_one,Rat.mul_one,Rat.mul_one]
def zC (a b c:Int):L3:=(a / (gx a b c:Int),b / (gx a b c:Int),c / (gx a b c:Int))
def small (z:Int)(k:Nat):Bool:=decide (z.natAbs<=k)
theorem HN:∀i:Fin 9,∀j:Fin 9,∀k:Fin 65,(i.1=4/\j.1=4)\/(cE (zC ((i.1:Int)-4) ((j.1:Int)-4) ((k.1:Int)-32))&&small (zC ((i.1:Int)-4) ((j.1:Int)-4) ((k.1:Int)-32)).1 32&&small (zC ((i.1:Int)-4) ((j.1:Int)-4) ((k.1:Int)-32)).2.1 32&&small (zC ((i.1:Int)-4) ((j.1:Int)-4) ((k.1:Int)-32)).2.2 32)=true:=by decide +kernel
theorem Ld (k:Nat)(hk:6<=k){z:Int}(h:z.natAbs<=32):z.natAbs<2^k:=Nat.lt_of_le_of_lt h (Nat.lt_of_lt_of_le (by decide:32<2^6) (Nat.pow_le_pow_right (by decide) hk))
theorem MW (k:Nat)(hk:6<=k){x:L3}(h1:x.1.natAbs<=32)(h2:x.2.1.natAbs<=32)(h3:x.2.2.natAbs<=32):x.1.natAbs<2^k/\x.2.1.natAbs<2^k/\x.2.2.natAbs<2^k:=⟨Ld k hk h1,Ld k hk h2,Ld k hk h3⟩
theorem JS {a b c:Int}(h1:-4<=a/\a<=4)(h2:-4<=b/\b<=4)(h3:-32<=c/\c<=32)(h:¬(a=0/\b=0)):cE (zC a b c)=true/\Bd (zC a b c):=by
 have:=HN ⟨(a+4).toNat,by omega⟩ ⟨(b+4).toNat,by omega⟩ ⟨(c+32).toNat,by omega⟩
 dsimp only at this
 rw [show (((a+4).toNat:Nat):Int)-4=a from by omega,show (((b+4).toNat:Nat):Int)-4=b from by omega,show (((c+32).toNat:Nat):Int)-32=c from by omega] at this
 rcases this with h'|h'
 ·omega
 ·simp only [Bool.and_eq_true,small,decide_eq_true_eq] at h'
  exact ⟨h'.1.1.1,MW 1000 (by decide) h'.1.1.2 h'.1.2 h'.2⟩
theorem HT {x y:Int}(h1:-4<=x/\x<=4)(h2:-4<=y/\y<=4):-16<=x*y/\x*y<=16:=by
 have:(x*y).natAbs<=4*4:=by rw [Int.natAbs_mul];exact Nat.mul_le_mul (by omega) (by omega)
 omega
theorem Fb {V:View}{v:Value}{a b c:Int}(h:RL V v a b c):∃(b1:Bool)(p1:OA)(n1 c1:Nat)(b2:Bool)(p2:OA)(n2 c2:Nat)(b3:Bool)(p3:OA)(n3 c3:Nat),v=.agg #[.bool b1,.slice p1 n1 c1,.bool b2,.slice p2 n2 c2,.bool b3,.slice p3 n3 c3]:=by
 obtain ⟨p,n,s,p',n',s',q,m,e,rfl,-⟩:=h
 exact ⟨_,_,_,_,_,_,_,_,_,_,_,_,rfl⟩
def Gn (V:View)(p:OA)(n:Nat):Prop:=∀i,i<n->∃(a:Addr)(x:Int),ai p (i*1)=some a/\V.at a (.int .i64 x)
theorem Gn.le {V V':View}{p:OA}{n:Nat}(h:Gn V p n)(l:V.Le V'):Gn V' p n:=fun i hi=>by
 obtain ⟨a,x,e,hx⟩:=h i hi;exact ⟨a,x,e,l.at hx⟩
def oh (V:View)(tb:Nat)(p:OA)(n c:Nat)(at_:Int):Prop:=V.w.heap[tb]?=some (.cells #[.slice p n c,.int .i64 at_] 136 (0,0))
theorem pO {V:View}{tb:Nat}{p:OA}{n c:Nat}{at_:Int}(k:Int)(hr:Gn V p n)(hn:n<=400)(hw:oh V tb p n c at_)(hx:V.X tb)(h0:0<=at_)(hk:0<k)(hk2:k<=1000) :
  ab prog 73 #[.pointer (some ⟨tb,0,none⟩),.int .i64 k] V fun r V'=>∃x at',r=.int .i64 x/\0<=x/\x<k/\0<=at'/\oh V' tb p n c at':=by
 refine nW tb p n c at_ k V _ hw hx ⟨fun g V1 l1 e=>⟨0,at_,rfl,by omega,hk,h0,e⟩,fun g=>?_⟩
 have g:at_<n:=by have:=of_decide_eq_false g;omega
 obtain ⟨i,rfl⟩:∃i:Nat,at_=i:=⟨at_.toNat,by omega⟩
 obtain ⟨a,x,e1,e2⟩:=hr i (by omega)
 have hs:p.isSome=true:=by
  cases p with
  | none=>simp [ai] at e1
  | some a=>rfl
 have m1:(x.tmod k).natAbs<k.natAbs:=by rw [Int.natAbs_tmod];exact Nat.mod_lt _ (by omega)
 have w1:i64.wrap ((i:Int)+1)=((i+1:Nat):Int):=by rw [ay (by omega)];omega
 rw [Int.toNat_natCast,w1]
 have w2:i64.wrap (x.tmod k+k)=x.tmod k+k:=ay (by omega)
 refine ⟨hs,⟨by omega,by omega⟩,x,⟨a,e1,e2⟩,by omega,fun g2 V2 l2 e=>⟨x.tmod k+k,_,by rw [w2],?_,?_,?_,e⟩,fun g2 V3 l3 e=>⟨_,_,rfl,?_,?_,?_,e⟩⟩
 ·omega
 ·have:=of_decide_eq_true g2;omega
 ·omega
 ·have:=of_decide_eq_false g2;omega
 ·omega
 ·omega
theorem Te {V:View}{tb:Nat}{p:OA}{n c:Nat}{at_:Int}(hr:Gn V p n)(hn:n<=400)(hw:oh V tb p n c at_)(hx:V.X tb)(h0:0<=at_) :
  ab prog 99 #[.pointer (some ⟨tb,0,none⟩)] V fun r V'=>∃(x y at':Int),RP V' r (x:Rat) (y:Rat)/\(-4<=x/\x<=4)/\(-4<=y/\y<=4)/\0<=at'/\oh V' tb p n c at':=by
 refine sk tb p n c at_ V _ hw hx fun V1 l1 bk1 e1 h1=>(pO (V:=V1.bg [bk1]) 9 (hr.le fun b o h=>l1 b o h) hn e1 ⟨by simp,h1⟩ h0 (by omega) (by omega)).mono ?_
 rintro r V2 l2 ⟨x,Gp,rfl,x0,x1,t1,hw1⟩
 refine ⟨_,rfl,_,_,_,_,hw1,fun V3 l3 Qk e3 h3=>(pO (V:=V3.bg [Qk]) 9 (hr.le fun b o h=>l3 b o (l2 b o (l1 b o h))) hn e3 ⟨by simp,h3⟩ t1 (by omega) (by omega)).mono ?_⟩
 rintro r V4 l4 ⟨y,at2,rfl,y0,y1,t2,hw2⟩
 refine ⟨_,rfl,_,_,_,_,hw2,fun V5 l5=>?_⟩
 rw [ay (x:=x-4) (by omega),ay (x:=y-4) (by omega)]
 refine (km (x-4) (y-4) (by omega) (by omega) (by omega) (by omega)).mono ?_
 rintro r V6 l6 hp
 have hp0:=hp
 obtain ⟨p1,n1,c1,p2,n2,c2,p3,n3,c3,p4,n4,c4,rfl,-⟩:=hp
 exact ⟨_,_,_,_,_,_,_,_,_,_,_,_,_,_,rfl,fun V7 l7 e7=>⟨x-4,y-4,at2,hp0.le l7,⟨by omega,by omega⟩,⟨by omega,by omega⟩,t2,e7⟩⟩
theorem RQ.zero {V:View}:RQ V (.agg #[.bool false,.slice none 0 0,.slice none 0 0]) ((0:Int):Rat):=⟨none,0,0,none,0,0,rfl,RD.nil,RD.nil⟩
theorem RP.zero {V:View}:RP V (.agg #[.bool false,.slice none 0 0,.slice none 0 0,.bool false,.slice none 0 0,.slice none 0 0]) ((0:Int):Rat) ((0:Int):Rat):=
 ⟨none,0,0,none,0,0,none,0,0,none,0,0,rfl,RQ.zero,RQ.zero⟩
theorem E5 {z:Int}(h:-40<=z/\z<=40):Sz 10 (z:Rat):=zY (by omega) (by omega)
theorem U8 {V:View}{tb:Nat}{p:OA}{n c:Nat}{at_:Int}(hr:Gn V p n)(hn:n<=400)(hw:oh V tb p n c at_)(hx:V.X tb)(h0:0<=at_) :
  ab prog 101 #[.pointer (some ⟨tb,0,none⟩)] V fun r V'=>∃(x y at':Int),RP V' r (x:Rat) (y:Rat)/\(-4<=x/\x<=4)/\(-4<=y/\y<=4)/\¬(x=0/\y=0)/\0<=at'/\oh V' tb p n c at':=by
 refine sr tb p n c at_ V _ hw hx fun V1 l1 bk1 e1 h1=>(Te (V:=V1.bg [bk1]) (hr.le fun b o h=>l1 b o h) hn e1 ⟨by simp,h1⟩ h0).mono ?_
 rintro r V2 l2 ⟨x,y,Gp,hp,hx1,hy1,t1,hw1⟩
 have hp0:=hp
 obtain ⟨p1,n1,c1,p2,n2,c2,p3,n3,c3,p4,n4,c4,rfl,-⟩:=hp
 refine ⟨_,_,_,_,_,_,_,_,_,_,_,_,_,_,rfl,_,_,_,_,hw1,fun V3 l3=>(yX (hp0.le fun b o h=>l3 b o h) RP.zero (E5 (by omega)) (E5 (by omega)) (E5 (by omega)) (E5 (by omega)) (by omega)).mono ?_⟩
 rintro r V4 l4 rfl
 refine ⟨_,rfl,fun g V5 l5=>(km 1 0 (by omega) (by omega) (by omega) (by omega)).mono ?_,fun g V8 l8 e8=>⟨x,y,Gp,hp0.le fun b o h=>l8 b o (l4 b o (l3 b o h)),hx1,hy1,?_,t1,e8⟩⟩
 ·rintro r V6 l6 hq
  have hq0:=hq
  obtain ⟨p1,n1,c1,p2,n2,c2,p3,n3,c3,p4,n4,c4,rfl,-⟩:=hq
  exact ⟨_,_,_,_,_,_,_,_,_,_,_,_,_,_,rfl,fun V7 l7 e7=>⟨1,0,Gp,hq0.le l7,⟨by omega,by omega⟩,⟨by omega,by omega⟩,by omega,t1,e7⟩⟩
 ·rintro ⟨rfl,rfl⟩
  simp at g
theorem Td {V:View}{tb:Nat}{p:OA}{n c:Nat}{at_:Int}(hr:Gn V p n)(hn:n<=400)(hw:oh V tb p n c at_)(hx:V.X tb)(h0:0<=at_) :
  ab prog 39 #[.pointer (some ⟨tb,0,none⟩)] V fun r V'=>∃(x:L3)(at':Int),RL V' r x.1 x.2.1 x.2.2/\cE x=true/\Bd x/\0<=at'/\oh V' tb p n c at':=by
 refine sf tb p n c at_ V _ hw hx fun V1 l1 bk1 e1 h1=>(Te (V:=V1.bg [bk1]) (hr.le fun b o h=>l1 b o h) hn e1 ⟨by simp,h1⟩ h0).mono ?_
 rintro r V2 l2 ⟨x,y,Gp,hp,hx1,hy1,t1,hw1⟩
 have hp0:=hp
 obtain ⟨p1,n1,c1,p2,n2,c2,p3,n3,c3,p4,n4,c4,rfl,-⟩:=hp
 refine ⟨_,_,_,_,_,_,_,_,_,_,_,_,_,_,rfl,_,_,_,_,hw1,fun V3 l3=>(jH 1 (by omega) (by omega)).mono ?_⟩
 rintro r V4 l4 hq
 have hq0:=hq
 obtain ⟨p5,n5,c5,p6,n6,c6,rfl⟩:=hq.shape
 refine ⟨_,_,_,_,_,_,_,rfl,fun V5 l5 Qg e5 h5=>(U8 (V:=V5.bg [Qg]) (hr.le fun b o h=>l5 b o (l4 b o (l3 b o (l2 b o (l1 b o h))))) hn e5 ⟨by simp,h5⟩ t1).mono ?_⟩
 rintro r V6 l6 ⟨u,w,at2,hv,hu1,Rb,hne,t2,hw2⟩
 have hv0:=hv
 obtain ⟨q1,m1,d1,q2,m2,d2,q3,m3,d3,q4,m4,d4,rfl,-⟩:=hv
 refine ⟨_,_,_,_,_,_,_,_,_,_,_,_,_,_,rfl,_,_,_,_,hw2,fun V7 l7=>?_⟩
 have mV:V2.Le V7:=fun b o h=>l7 b o (l6 b o (l5 b o (l4 b o (l3 b o h))))
 have Rr:V4.Le V7:=fun b o h=>l7 b o (l6 b o (l5 b o h))
 have Wr:V6.Le V7:=fun b o h=>l7 b o h
 refine (qP (hp0.le mV) (hq0.le Rr) (hv0.le Wr) (k:=10) (m:=10) (E5 (by omega)) (E5 (by omega)) (E5 (by omega)) (E5 (by omega)) (E5 (by omega)) (by omega)).mono ?_
 rintro r V8 l8 hs
 have hs0:=hs
 obtain ⟨s1,i1,j1,s2,i2,j2,s3,i3,j3,s4,i4,j4,rfl,-⟩:=hs
 have f1:(x:Rat)+((1:Int):Rat)*(u:Rat)=((x+u:Int):Rat):=by rw [←Rat.intCast_mul,←Rat.intCast_add,Int.one_mul]
 have f2:(y:Rat)+((1:Int):Rat)*(w:Rat)=((y+w:Int):Rat):=by rw [←Rat.intCast_mul,←Rat.intCast_add,Int.one_mul]
 refine ⟨_,_,_,_,_,_,_,_,_,_,_,_,_,_,rfl,fun V9 l9=>(kM (hp0.le (mV.trans (l8.trans l9))) (hs0.le l9) (k:=10) (E5 (by omega)) (E5 (by omega)) (by rw [f1];exact E5 (by omega)) (by rw [f2];exact E5 (by omega)) (by omega) (by omega)).mono ?_⟩
 rintro r jm l10 ⟨-,h⟩
 rw [Kl] at h
 have n1:((-w:Int):Rat).num=-w:=rfl
 have n2:((u:Int):Rat).num=u:=rfl
 have n3:((w*x-u*y:Int):Rat).num=w*x-u*y:=rfl
 dsimp only at h
 rw [n1,n2,n3] at h
 obtain ⟨l,rfl,hl⟩:=h (by omega)
 have m1:=HT Rb hx1
 have m2:=HT hu1 hy1
 obtain ⟨k1,k2⟩:=JS (a:=-w) (b:=u) (c:=w*x-u*y) (by omega) (by omega) (by omega) (by omega)
 have hl0:=hl
 obtain ⟨b1,u1,v1,w1,b2,u2,v2,w2,b3,u3,v3,w3,rfl⟩:=(Fb hl)
 exact ⟨_,_,_,_,_,_,_,_,_,_,_,_,_,rfl,fun kR bW e11=>⟨zC (-w) u (w*x-u*y),at2,hl0.le bW,k1,k2,t2,e11⟩⟩
def Tr.depth:Tr->Nat
 | .leaf _=>0
 | .node _ a b=>1+max a.depth b.depth
def Rx:Tr->Int
 | .leaf i=>if i then 0 else 1
 | .node ..=>0
end Go.Proofs.Tryz
namespace Go.bF
theorem AD (a:Addr)(m n:Nat):(a.add m).add n=a.add (m+n):=by
 unfold Addr.add
 by_cases h1:m=0
 ·subst h1;simp
 ·by_cases h2:n=0
  ·subst h2;simp [h1]
  ·rw [if_neg h1,if_neg h2,if_neg (by omega)]
   simp only [Nat.add_assoc]
variable {α:Type} {sz:Nat} {R:View->Value->α->Prop} {V V':View}
structure Row (sz:Nat) (R:View->Value->α->Prop) (V:View) (vs:List Value) (al:List α):Prop where
 at_:∀(i:Nat)(h:i<al.length),∃xs:List Value,xs.length=sz/\R V (.agg xs.toArray) al[i]/\∀j x,xs[j]?=some x->vs[i*sz+j]?=some x
structure cP (sz:Nat) (R:View->Value->α->Prop) (V:View) (p:OA) (n:Nat) (al:List α):Prop where
 len:n=al.length
 at_:∀(i:Nat)(h:i<al.length),∃ad,ai p (i*sz)=some ad/\∃xs:List Value,xs.length=sz/\R V (.agg xs.toArray) al[i]/\∀j x,xs[j]?=some x->V.at (ad.add j) x
theorem Row.nil {vs:List Value}:Row sz R V vs []:=⟨fun i h=>absurd h (Nat.not_lt_zero i)⟩
theorem cP.nil {p:OA}:cP sz R V p 0 []:=⟨rfl,fun i h=>absurd h (Nat.not_lt_zero i)⟩
theorem Row.le {vs:List Value}{al:List α}(h:Row sz R V vs al)(m:∀v a,R V v a->R V' v a):Row sz R V' vs al:=
 ⟨fun i hi=>by obtain ⟨xs,h1,h2,h3⟩:=h.at_ i hi;exact ⟨xs,h1,m _ _ h2,h3⟩⟩
theorem cP.le {p:OA}{n:Nat}{al:List α}(h:cP sz R V p n al)(l:V.Le V')(m:∀v a,R V v a->R V' v a):cP sz R V' p n al:=
 ⟨h.len,fun i hi=>by obtain ⟨ad,h0,xs,h1,h2,h3⟩:=h.at_ i hi;exact ⟨ad,h0,xs,h1,m _ _ h2,fun j x hx=>l.at (h3 j x hx)⟩⟩
theorem Row.jq {vs:List Value}{al:List α}(h:Row sz R V vs al)(hs:0<sz):al.length*sz<=vs.length:=by
 by_cases h0:al.length=0
 ·rw [h0];omega
 ·obtain ⟨xs,h1,-,h3⟩:=h.at_ (al.length-1) (by omega)
  have hx:sz-1<xs.length:=by omega
  have:=(List.getElem?_eq_some_iff.1 (h3 (sz-1) _ (List.getElem?_eq_getElem hx))).1
  have e:al.length*sz=(al.length-1)*sz+sz:=by
   obtain ⟨m,hm⟩:∃m,al.length=m+1:=⟨al.length-1,by omega⟩
   rw [hm,Nat.add_sub_cancel,Nat.succ_mul]
  omega
theorem Row.snoc {vs:List Value}{al:List α}(h:Row sz R V vs al){xs sp:List Value}{a:α}(hx:xs.length=sz)(ha:R V (.agg xs.toArray) a)(hs:0<sz) :
  Row sz R V (vs.take (al.length*sz)++xs++sp) (al++[a]):=by
 have hl:=h.jq hs
 have ht:(vs.take (al.length*sz)).length=al.length*sz:=by rw [List.length_take];omega
 refine ⟨fun i hi=>?_⟩
 rw [List.length_append,List.length_singleton] at hi
 by_cases e:i=al.length
 ·subst e
  refine ⟨xs,hx,by rw [List.getElem_append_right (Nat.le_refl _)];simpa using ha,fun j x hj=>?_⟩
  have hj':=(List.getElem?_eq_some_iff.1 hj).1
  rw [List.append_assoc,List.getElem?_append_right (by rw [ht];omega),ht,Nat.add_sub_cancel_left,List.getElem?_append_left hj']
  exact hj
 ·have hi':i<al.length:=by omega
  obtain ⟨ys,y1,y2,y3⟩:=h.at_ i hi'
  refine ⟨ys,y1,by rw [List.getElem_append_left hi'];exact y2,fun j x hj=>?_⟩
  have hj':=(List.getElem?_eq_some_iff.1 hj).1
  have hlt:i*sz+j<al.length*sz:=by
   have:(i+1)*sz<=al.length*sz:=Nat.mul_le_mul_right _ hi'
   rw [Nat.succ_mul] at this
   omega
  rw [List.append_assoc,List.getElem?_append_left (by rw [ht];exact hlt),List.getElem?_take,if_pos hlt]
  exact y3 j x hj
theorem cP.H8 {bk:Nat}{ty:TypeId}{m:Nat×Nat}{vs:List Value}{al:List α}(hb:V.bC bk (.cells vs.toArray ty m))(h:Row sz R V vs al):cP sz R V (some ⟨bk,0,none⟩) al.length al:=by
 refine ⟨rfl,fun i hi=>?_⟩
 obtain ⟨xs,h1,h2,h3⟩:=h.at_ i hi
 refine ⟨⟨bk,i*sz,none⟩,by simp [ai,add_zero'],xs,h1,h2,fun j x hj=>?_⟩
 have e:(⟨bk,i*sz,none⟩:Addr).add j=⟨bk,i*sz+j,none⟩:=by rw [←add_zero',AD,add_zero']
 rw [e]
 exact fN hb (h3 j x hj)
theorem cP.fE {bk c:Nat}{ty:TypeId}{m:Nat×Nat}{vs:List Value}{al:List α}(hb:vs≠[]->V.bC bk (.cells vs.toArray ty m))(h:Row sz R V vs al)(hs:0<sz)(hc:al.length<=c):cP sz R V (mA bk c) al.length al:=by
 cases al with
 | nil=>exact cP.nil
 | cons a r=>
  have hne:vs≠[]:=fun e=>by
   have:=h.jq hs
   rw [e,List.length_cons,Nat.succ_mul] at this
   simp at this;omega
  have:mA bk c=some ⟨bk,0,none⟩:=by unfold mA;rw [if_neg];rw [List.length_cons] at hc;omega
  rw [this]
  exact cP.H8 (hb hne) h
end Go.bF
namespace Go.bF
open Go.Proofs.Tryz
variable {α:Type} {sz:Nat} {R:View->Value->α->Prop} {V V':View} {d:α}
theorem Row.get {vs:List Value}{al:List α}(h:Row sz R V vs al){i:Nat}(hi:i<al.length)(hs:0<sz) :
  ∃xs:List Value,xs.length=sz/\R V (.agg xs.toArray) (al.getD i d)/\i*sz+sz<=vs.length/\(vs.drop (i*sz)).take sz=xs:=by
 obtain ⟨xs,h1,h2,h3⟩:=h.at_ i hi
 have hl:=h.jq hs
 have:(i+1)*sz<=al.length*sz:=Nat.mul_le_mul_right _ hi
 rw [Nat.succ_mul] at this
 refine ⟨xs,h1,by simpa [List.getD_eq_getElem?_getD,hi] using h2,by omega,?_⟩
 apply List.ext_getElem?
 intro j
 rw [List.getElem?_take]
 split
 ·rename_i hj
  rw [List.getElem?_drop]
  have hx:j<xs.length:=by omega
  rw [h3 j _ (List.getElem?_eq_getElem hx),List.getElem?_eq_getElem hx]
 ·rename_i hj
  rw [List.getElem?_eq_none (by omega)]
theorem Row.put {vs:List Value}{al:List α}(h:Row sz R V vs al){i:Nat}(hi:i<al.length)(hs:0<sz){xs:List Value}{a:α}(hx:xs.length=sz)(ha:R V (.agg xs.toArray) a) :
  Row sz R V (dp vs (i*sz) xs) (al.set i a):=by
 have hl:=h.jq hs
 have h9:∀k,k<al.length->k*sz+sz<=vs.length:=fun k hk=>by
  have:(k+1)*sz<=al.length*sz:=Nat.mul_le_mul_right _ hk
  rw [Nat.succ_mul] at this
  omega
 have hi9:=h9 i hi
 rw [kG (by omega)]
 have ht:(vs.take (i*sz)).length=i*sz:=by rw [List.length_take];omega
 refine ⟨fun k hk=>?_⟩
 rw [List.length_set] at hk
 by_cases e:k=i
 ·subst e
  refine ⟨xs,hx,by simpa using ha,fun j x hj=>?_⟩
  have hj':=(List.getElem?_eq_some_iff.1 hj).1
  rw [List.append_assoc,List.getElem?_append_right (by omega),ht,Nat.add_sub_cancel_left,List.getElem?_append_left hj']
  exact hj
 ·obtain ⟨ys,y1,y2,y3⟩:=h.at_ k hk
  refine ⟨ys,y1,by rw [List.getElem_set_ne (fun e'=>e e'.symm)];exact y2,fun j x hj=>?_⟩
  have hj':=(List.getElem?_eq_some_iff.1 hj).1
  by_cases lt:k<i
  ·have:(k+1)*sz<=i*sz:=Nat.mul_le_mul_right _ lt
   rw [Nat.succ_mul] at this
   rw [List.append_assoc,List.getElem?_append_left (by omega),List.getElem?_take,if_pos (by omega)]
   exact y3 j x hj
  ·have:(i+1)*sz<=k*sz:=Nat.mul_le_mul_right _ (by omega)
   rw [Nat.succ_mul] at this
   rw [List.getElem?_append_right (by rw [List.length_append];omega),List.length_append,ht,hx,List.getElem?_drop]
   rw [show i*sz+sz+(k*sz+j-(i*sz+sz))=k*sz+j by omega]
   exact y3 j x hj
theorem rf {vs xs:List Value}{o:Nat}(h:o+xs.length<=vs.length):(dp vs o xs).length=vs.length:=by
 rw [kG h];simp only [List.length_append,List.length_take,List.length_drop];omega
theorem Row.swap {vs:List Value}{al:List α}(h:Row sz R V vs al){i j:Nat}(hi:i<al.length)(hj:j<al.length)(hs:0<sz){xs ys:List Value}(hx:xs.length=sz)(hy:ys.length=sz)(h1:R V (.agg xs.toArray) (al.getD i d))(h2:R V (.agg ys.toArray) (al.getD j d)) :
  Row sz R V (dp (dp vs (i*sz) ys) (j*sz) xs) (rJ d al i j):=by
 have:=h.put hi hs hy h2
 exact this.put (by simpa using hj) hs hx h1
end Go.bF
namespace Go.Proofs.Tryz
open Go.bF Go.eK
section
variable {α:Type} (e:α->α->Bool)
variable {e}
end
end Go.Proofs.Tryz
namespace Go.bF
open Go.Proofs.Tryz
section
variable {α:Type} {sz:Nat} {R:View->Value->α->Prop} {V:View} {d:α}
end
end Go.bF
namespace Go.Proofs.Tryz
open Go.bF Go.eK
def RA (V:View)(v:Value)(q:Rat):Prop:=∃p n c p' n' c',v=.agg #[.bool (decide (q.num<0)),.slice p n c,.slice p' n' c']/\RD V p n c (ag q.num.natAbs)/\RD V p' n' c' (ag q.den)
theorem RA.le {V V':View}{v:Value}{q:Rat}(h:RA V v q)(l:V.Le V'):RA V' v q:=by
 obtain ⟨p,n,c,p',n',c',e,h1,h2⟩:=h
 exact ⟨p,n,c,p',n',c',e,h1.le l,h2.le l⟩
theorem nj {V:View}(b:Bool){p q:OA}{n c m e:Nat}{xs ys:List Nat}(hx:RD V p n c xs)(hy:RD V q m e ys)(hm:xs.length<=1099511627776)(hn:ys.length<=1099511627776) :
  ab prog 170 #[.agg #[.bool b,.slice p n c,.slice q m e]] V fun r V'=>RR V' r (mkRat (aT b xs) (val ys)):=by
 refine DZ b p n c q m e V _ fun V1 l1=>(cf b (hx.le l1) (hy.le l1) hm hn).mono ?_
 rintro r V2 l2 h
 obtain ⟨u,v,w,rfl⟩:=h.shape
 exact ⟨_,_,_,rfl,fun V3 l3=>h.le l3⟩
theorem xC {V:View}{v:Value}{q:Rat}(h:RA V v q){k:Nat}(hs:Sz k q)(hk:k<=1099511627776):ab prog 170 #[v] V fun r V'=>RR V' r q:=by
 obtain ⟨p,n,c,p',n',c',rfl,h1,h2⟩:=h
 have q1:=af hs.1
 have q2:=af hs.2
 refine (nj _ h1 h2 (by omega) (by omega)).mono ?_
 rintro r V' _ h
 rw [aG,ae,Rat.mkRat_self] at h
 exact h
theorem yQ {V:View}{v:Value}{q:Rat}(h:RR V v q){k:Nat}(hs:Sz k q)(hk:k<=1099511627776):ab prog 83 #[v] V fun r V'=>RA V' r q:=by
 have h0:=h
 obtain ⟨r0,r1,r2,rfl⟩:=h.shape
 refine wC r0 r1 r2 V _ fun V1 l1=>(eM (h0.le l1) hs hk).mono ?_
 rintro r V2 l2 ⟨p1,n1,c1,rfl,g1⟩
 refine ⟨_,_,_,_,rfl,fun V3 l3=>(dV (h0.le (l1.trans (l2.trans l3))) hs hk).mono ?_⟩
 rintro r V4 l4 ⟨p2,n2,c2,rfl,g2⟩
 exact ⟨_,_,_,rfl,fun V5 l5=>⟨_,_,_,_,_,_,rfl,g1.le (l3.trans (l4.trans l5)),g2.le l5⟩⟩
theorem eL {V:View}{v w:Value}{x y:Rat}(hx:RR V v x)(hy:RR V w y){k m:Nat}(hk:Sz k x)(hm:Sz m y)(hkm:k+m<1099511627776) :
  ab prog 184 #[v,w] V fun r V'=>RR V' r (x*y):=by
 obtain ⟨r0,r1,r2,rfl⟩:=hx.shape
 obtain ⟨s0,s1,s2,rfl⟩:=hy.shape
 have hxy:x*y=mkRat (x.num*y.num) (x.den*y.den):=Rat.mul_def' x y
 have b1:(x.num*y.num).natAbs<2^(k+m):=by rw [Int.natAbs_mul,Nat.pow_add];exact Nat.mul_lt_mul'' hk.1 hm.1
 have b2:x.den*y.den<2^(k+m):=by rw [Nat.pow_add];exact Nat.mul_lt_mul'' hk.2 hm.2
 have q1:=af hk.1
 have q2:=af hk.2
 have q3:=af hm.1
 have q4:=af hm.2
 have q5:=af b1
 have q6:=af b2
 refine wD r0 r1 r2 s0 s1 s2 V _ ⟨fun hr=>⟨fun _ _=>True,⟨fun hs=>?_,fun _=>⟨(),by (try dsimp only);and_intros<;>trivial,trivial⟩⟩,fun _ V8 l8 _=>⟨rfl,fun V9 Ws=>?_⟩⟩,fun _ V9 l9=>?_⟩
 ·rcases hx with ⟨ex,wx⟩|⟨a,b,p,n,c,p',n',c',ex,-,-,-,-,-,wx⟩
  ·rcases hy with ⟨ey,wy⟩|⟨a,b,p,n,c,p',n',c',ey,-,-,-,-,-,wy⟩
   ·simp only [Value.agg.injEq,Array.mk.injEq,List.cons.injEq,Value.int.injEq,Value.pointer.injEq,true_and,and_true] at ex ey
    obtain ⟨rfl,rfl,rfl⟩:=ex
    obtain ⟨rfl,rfl,rfl⟩:=ey
    obtain ⟨O6,Uk⟩:=wx
    obtain ⟨O7,Ul⟩:=wy
    have dx:=x.den_nz
    have dy:=y.den_nz
    have e1:i64.wrap ((x.den:Int)-1+1)=x.den:=by rw [ay (by omega)];omega
    have e2:i64.wrap ((y.den:Int)-1+1)=y.den:=by rw [ay (by omega)];omega
    rw [e1,e2]
    intro V1 l1
    refine (fr _ _ O6 O7).mono ?_
    rintro r V2 l2 ⟨z1,rfl,hz1⟩
    refine ⟨_,_,rfl,fun V3 l3=>(fr _ _ (by omega) (by omega)).mono ?_⟩
    rintro r V4 l4 ⟨z2,rfl,hz2⟩
    refine ⟨_,_,rfl,fun t1=>⟨fun t2 V5 l5=>?_,fun _=>⟨(),by (try dsimp only);and_intros<;>trivial,trivial⟩⟩,fun _=>⟨(),by (try dsimp only);and_intros<;>trivial,trivial⟩⟩
    have t1:=of_decide_eq_true t1
    have t2:=of_decide_eq_true t2
    rw [hz1 t1,hz2 t2]
    have hd:((x.den:Int)*(y.den:Int))=((x.den*y.den:Nat):Int):=(Int.natCast_mul ..).symm
    rw [hd] at t2 ⊢
    refine (mN _ _ t1 (by rwa [Int.natAbs_natCast] at t2) (Nat.mul_ne_zero dx dy)).mono ?_
    rintro r V6 l6 h6
    rw [←hxy] at h6
    obtain ⟨n,d,p,rfl⟩:=h6.shape
    exact ⟨_,_,_,rfl,fun V7 l7=>h6.le l7⟩
   ·simp only [Value.agg.injEq,Array.mk.injEq,List.cons.injEq,Value.int.injEq,Value.pointer.injEq,true_and,and_true] at ey
    obtain ⟨rfl,rfl,rfl⟩:=ey
    cases hs
  ·simp only [Value.agg.injEq,Array.mk.injEq,List.cons.injEq,Value.int.injEq,Value.pointer.injEq,true_and,and_true] at ex
   obtain ⟨rfl,rfl,rfl⟩:=ex
   cases hr
 ·have l9:=l8.trans Ws
  refine (eM (hx.le l9) hk (by omega)).mono ?_
  rintro r jm l10 ⟨p1,n1,c1,rfl,g1⟩
  refine ⟨_,_,_,_,rfl,fun kR bW=>(eM (hy.le (l9.trans (l10.trans bW))) hm (by omega)).mono ?_⟩
  rintro r nZ dh ⟨p2,n2,c2,rfl,g2⟩
  refine ⟨_,_,_,_,rfl,fun sY dL=>(fX _ _ (g1.le (bW.trans (dh.trans dL))) (g2.le dL) (by omega)).mono ?_⟩
  rintro r pF fk Gr
  rw [aG,aG] at Gr
  obtain ⟨p3,n3,c3,rfl,g3⟩:=Gr
  have yE:=l9.trans (l10.trans (bW.trans (dh.trans (dL.trans fk))))
  refine ⟨_,_,_,_,rfl,fun n_ eZ=>(dV (hx.le (yE.trans eZ)) hk (by omega)).mono ?_⟩
  rintro r oa eF ⟨p4,n4,c4,rfl,g4⟩
  refine ⟨_,_,_,rfl,fun pH ew=>(dV (hy.le (yE.trans (eZ.trans (eF.trans ew)))) hm (by omega)).mono ?_⟩
  rintro r sE fo ⟨p5,n5,c5,rfl,g5⟩
  refine ⟨_,_,_,rfl,fun xh fl=>(fQ (g4.le (ew.trans (fo.trans fl))) (g5.le fl) (by omega)).mono ?_⟩
  rintro r CF jN ⟨p6,n6,c6,rfl,g6⟩
  rw [ae,ae] at g6
  refine ⟨_,_,_,rfl,fun xi gG=>(cf _ (g3.le (eZ.trans (eF.trans (ew.trans (fo.trans (fl.trans (jN.trans gG))))))) (g6.le gG) (by omega) (by omega)).mono ?_⟩
  rintro r vO kO h22
  rw [aG,ae,←hxy] at h22
  obtain ⟨n,d,p,rfl⟩:=h22.shape
  exact ⟨_,_,_,rfl,fun CG je=>h22.le je⟩
 ·skip
  refine (eM (hx.le l9) hk (by omega)).mono ?_
  rintro r jm l10 ⟨p1,n1,c1,rfl,g1⟩
  refine ⟨_,_,_,_,rfl,fun kR bW=>(eM (hy.le (l9.trans (l10.trans bW))) hm (by omega)).mono ?_⟩
  rintro r nZ dh ⟨p2,n2,c2,rfl,g2⟩
  refine ⟨_,_,_,_,rfl,fun sY dL=>(fX _ _ (g1.le (bW.trans (dh.trans dL))) (g2.le dL) (by omega)).mono ?_⟩
  rintro r pF fk Gr
  rw [aG,aG] at Gr
  obtain ⟨p3,n3,c3,rfl,g3⟩:=Gr
  have yE:=l9.trans (l10.trans (bW.trans (dh.trans (dL.trans fk))))
  refine ⟨_,_,_,_,rfl,fun n_ eZ=>(dV (hx.le (yE.trans eZ)) hk (by omega)).mono ?_⟩
  rintro r oa eF ⟨p4,n4,c4,rfl,g4⟩
  refine ⟨_,_,_,rfl,fun pH ew=>(dV (hy.le (yE.trans (eZ.trans (eF.trans ew)))) hm (by omega)).mono ?_⟩
  rintro r sE fo ⟨p5,n5,c5,rfl,g5⟩
  refine ⟨_,_,_,rfl,fun xh fl=>(fQ (g4.le (ew.trans (fo.trans fl))) (g5.le fl) (by omega)).mono ?_⟩
  rintro r CF jN ⟨p6,n6,c6,rfl,g6⟩
  rw [ae,ae] at g6
  refine ⟨_,_,_,rfl,fun xi gG=>(cf _ (g3.le (eZ.trans (eF.trans (ew.trans (fo.trans (fl.trans (jN.trans gG))))))) (g6.le gG) (by omega) (by omega)).mono ?_⟩
  rintro r vO kO h22
  rw [aG,ae,←hxy] at h22
  obtain ⟨n,d,p,rfl⟩:=h22.shape
  exact ⟨_,_,_,rfl,fun CG je=>h22.le je⟩
theorem inv_neg {q:Rat}(h:q.num<0):(q⁻¹).num=-(q.den:Int)/\(q⁻¹).den=q.num.natAbs:=by
 show (Rat.inv q).num=_/\(Rat.inv q).den=_
 unfold Rat.inv
 rw [dif_pos h]
 exact ⟨rfl,rfl⟩
theorem inv_pos {q:Rat}(h:0<q.num):(q⁻¹).num=(q.den:Int)/\(q⁻¹).den=q.num.natAbs:=by
 show (Rat.inv q).num=_/\(Rat.inv q).den=_
 unfold Rat.inv
 rw [dif_neg (by omega),dif_pos h]
 exact ⟨rfl,rfl⟩
theorem inv_zero {q:Rat}(h:q.num=0):q⁻¹=0:=by
 have:q=0:=Rat.num_eq_zero.1 h
 subst this
 exact Rat.inv_zero
theorem gK {k:Nat}{q:Rat}(h:Sz k q):Sz k q⁻¹:=by
 rcases Int.lt_trichotomy q.num 0 with h0|h0|h0
 ·obtain ⟨e1,e2⟩:=inv_neg h0
  refine ⟨?_,?_⟩
  ·rw [e1,Int.natAbs_neg];exact h.2
  ·rw [e2];exact h.1
 ·rw [inv_zero h0]
  exact ⟨Nat.two_pow_pos _,Nat.lt_of_le_of_lt (Nat.pos_of_ne_zero q.den_nz) h.2⟩
 ·obtain ⟨e1,e2⟩:=inv_pos h0
  exact ⟨by rw [e1];exact h.2,by rw [e2];exact h.1⟩
theorem Jo {V:View}{v:Value}{q:Rat}(h:RR V v q){k:Nat}(hs:Sz k q)(hk:k<=1099511627776):ab prog 192 #[v] V fun r V'=>RR V' r q⁻¹:=by
 rcases h with ⟨rfl,hw⟩|⟨a,b,p,n,c,p',n',c',rfl,h1,h2,h3,h4,h5,hw⟩
 ·obtain ⟨w1,w2⟩:=hw
  have hd:=q.den_nz
  refine m_ _ _ _ V _ ⟨(fun h0=>nomatch h0),fun _=>⟨fun g V4 l4=>?_,fun g=>⟨fun g2 V5 l5=>?_,fun g2 V6 l6=>?_⟩⟩⟩
  ·have g:=of_decide_eq_true g
   obtain ⟨e1,e2⟩:=inv_neg g
   refine .inl ⟨?_,?_⟩
   ·rw [e1,e2,ay (x:=(q.den:Int)-1+1) (by omega),ay (x:=0-q.num) (by omega),ay (x:=0-((q.den:Int)-1+1)) (by omega),ay (by omega)]
    congr 4
    ·omega
    ·congr 1;omega
   ·unfold Wd;rw [e1,e2,Int.natAbs_neg];exact ⟨w2,w1⟩
  ·have g2:q.num=0:=by simpa using g2
   rw [inv_zero g2]
   exact .inl ⟨rfl,by decide,by decide⟩
  ·have g:¬q.num<0:=of_decide_eq_false g
   have g2:q.num≠0:=by simpa using g2
   obtain ⟨e1,e2⟩:=inv_pos (q:=q) (by omega)
   refine .inl ⟨?_,?_⟩
   ·rw [e1,e2,ay (x:=(q.den:Int)-1+1) (by omega),ay (by omega)]
    congr 4
    ·omega
    ·congr 1;omega
   ·unfold Wd;rw [e1,e2];exact ⟨w2,w1⟩
 ·obtain ⟨rfl,hn⟩:=h4.inv
  have q1:=af hs.1
  have q2:=af hs.2
  refine m_ _ _ _ V _ ⟨fun _=>⟨rfl,rfl,rfl,decide (q.num<0),⟨a.add 0,by simp [ai,Addr.add],h1⟩,rfl,rfl,p',n',c',⟨a.add 2,rfl,h3⟩,rfl,rfl,rfl,p,n,c,⟨a.add 1,by simp [ai,Addr.add],h2⟩,fun V1 l1=>(cf _ (h5.le l1) (hn.le l1) (by omega) (by omega)).mono ?_⟩,fun h0=>nomatch h0⟩
  rintro r V2 l2 h
  have e:mkRat (aT (decide (q.num<0)) (ag q.den)) (val (ag q.num.natAbs))=q⁻¹:=by
   rw [ae]
   have hv:aT (decide (q.num<0)) (ag q.den)=if q.num<0 then -(q.den:Int) else (q.den:Int):=by
    unfold aT
    rw [ae]
    by_cases g:q.num<0<;>simp [g]
   rw [hv]
   rcases Int.lt_trichotomy q.num 0 with h0|h0|h0
   ·obtain ⟨e1,e2⟩:=inv_neg h0
    rw [if_pos h0,←e1,←e2,Rat.mkRat_self]
   ·rw [inv_zero h0,h0];simp
   ·obtain ⟨e1,e2⟩:=inv_pos h0
    rw [if_neg (by omega),←e1,←e2,Rat.mkRat_self]
  rw [e] at h
  obtain ⟨u,v,w,rfl⟩:=h.shape
  exact ⟨_,_,_,rfl,fun V3 l3=>h.le l3⟩
theorem oz {V:View}{v w:Value}{x y:Rat}(hx:RR V v x)(hy:RR V w y){k m:Nat}(hk:Sz k x)(hm:Sz m y)(hkm:k+m<1099511627776) :
  ab prog 147 #[v,w] V fun r V'=>RR V' r (x*y⁻¹):=by
 have hx0:=hx
 have hy0:=hy
 obtain ⟨r0,r1,r2,rfl⟩:=hx.shape
 obtain ⟨s0,s1,s2,rfl⟩:=hy.shape
 refine wE r0 r1 r2 s0 s1 s2 V _ fun V1 l1=>(Jo (hy0.le l1) hm (by omega)).mono ?_
 rintro r V2 l2 h2
 have h20:=h2
 obtain ⟨u,v,w,rfl⟩:=h2.shape
 refine ⟨_,_,_,rfl,fun V3 l3=>(eL (hx0.le (l1.trans (l2.trans l3))) (h20.le l3) hk (gK hm) hkm).mono ?_⟩
 rintro r V4 l4 h4
 have Py:=h4
 obtain ⟨u,v,w,rfl⟩:=h4.shape
 exact ⟨_,_,_,rfl,fun V5 l5=>Py.le l5⟩
end Go.Proofs.Tryz
