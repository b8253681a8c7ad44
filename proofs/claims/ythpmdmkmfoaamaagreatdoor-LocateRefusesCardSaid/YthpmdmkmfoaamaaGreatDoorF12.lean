import Derived.Test.YthpmdmkmfoaamaaGreatDoorF11
import Derived.Test.YthpmdmkmfoaamaaGreatDoorF10
import Derived.Test.YthpmdmkmfoaamaaGreatDoorF7
set_option linter.unusedVariables false
open Go.IntKind (i64 u64 u32)
namespace Go.eM
def uf (x y:Rat):Int:=(x-y).num.sign
def gH (x y:Rat):Rat:=mkRat (Nat.gcd (x.num.natAbs*y.den) (y.num.natAbs*x.den):Nat) (x.den*y.den)
theorem GZ {q:Rat}:q.num<0↔q<0:=by
 have:=@Rat.num_nonneg q
 rw [←Rat.not_le,←this];omega
theorem G1 {q:Rat}:0<q.num↔0<q:=by
 have h1:=@Rat.num_nonneg q
 have h2:=@Rat.num_eq_zero q
 rw [Rat.lt_iff_le_and_ne,←h1]
 constructor
 ·intro h;exact ⟨by omega,fun e=>by rw [←e] at h;simp at h⟩
 ·rintro ⟨h,hne⟩
  have:q.num≠0:=fun e=>hne (h2.1 e).symm
  omega
theorem Ir {x y:Rat}:x<y↔uf x y=-1:=by
 unfold uf
 rw [Int.sign_eq_neg_one_iff_neg,GZ,Rat.lt_iff_sub_pos x y,←Rat.neg_sub y x]
 constructor
 ·intro h;have:=Rat.neg_lt_neg h;simpa using this
 ·intro h;have:=Rat.neg_lt_neg h;rw [Rat.neg_neg] at this;simpa using this
theorem Iq {x y:Rat}:y<x↔uf x y=1:=by
 unfold uf
 rw [Int.sign_eq_one_iff_pos,G1,Rat.lt_iff_sub_pos y x]
theorem DR {x y:Rat}:x=y↔uf x y=0:=by
 unfold uf
 rw [Int.sign_eq_zero_iff_zero,Rat.num_eq_zero]
 constructor
 ·intro h;subst h;exact Rat.sub_self
 ·intro h
  have:=congrArg (·+ y) h
  simpa [Rat.sub_add_cancel,Rat.zero_add] using this
end Go.eM
namespace Go.Proofs.Tryz
open Go.bz Go.eM
theorem DO {V:View}{v w:Value}{x y:Rat}(hx:RR V v x)(hy:RR V w y){k m:Nat}(hk:Sz k x)(hm:Sz m y)(hkm:k+m<1099511627776) :
  ab prog 185 #[v,w] V fun r V'=>RR V' r (x-y):=by
 obtain ⟨r0,r1,r2,rfl⟩:=hx.shape
 obtain ⟨s0,s1,s2,rfl⟩:=hy.shape
 refine wP _ _ _ _ _ _ V _ fun V1 l1=>(oW (hy.le l1) hm (by omega)).mono ?_
 rintro r V2 l2 h2
 obtain ⟨n,d,p,rfl⟩:=h2.shape
 refine ⟨_,_,_,rfl,fun V3 l3=>(oV (hx.le (l1.trans (l2.trans l3))) (h2.le l3) hk hm.neg hkm).mono ?_⟩
 rintro r V4 l4 h4
 rw [←Rat.sub_eq_add_neg] at h4
 obtain ⟨n,d,p,rfl⟩:=h4.shape
 exact ⟨_,_,_,rfl,fun V5 l5=>h4.le l5⟩
theorem Ii {V:View}{v w:Value}{x y:Rat}(hx:RR V v x)(hy:RR V w y){k m:Nat}(hk:Sz k x)(hm:Sz m y)(hkm:k+m<1099511627776) :
  ab prog 181 #[v,w] V fun r V'=>r=.int .i64 (uf x y):=by
 obtain ⟨r0,r1,r2,rfl⟩:=hx.shape
 obtain ⟨s0,s1,s2,rfl⟩:=hy.shape
 have gen:∀qk:View,V.Le qk->ab prog 185 #[.agg #[.int .i64 r0,.int .i64 r1,.pointer r2],.agg #[.int .i64 s0,.int .i64 s1,.pointer s2]] qk fun QV oM=>∃Ty:Int,∃Ou:Int,∃NX:OA,QV=.agg #[.int .i64 Ty,.int .i64 Ou,.pointer NX]/\(∀oN:View,oM.Le oN->ab prog 128 #[.agg #[.int .i64 Ty,.int .i64 Ou,.pointer NX]] oN fun QW qi=>∃Ov:Int,QW=.int .i64 Ov/\(∀tE:View,qi.Le tE->Value.int .i64 Ov=.int .i64 (uf x y))):=by
  intro V1 l1
  refine (DO (hx.le l1) (hy.le l1) hk hm hkm).mono ?_
  rintro r V2 l2 h2
  obtain ⟨n,d,p,rfl⟩:=h2.shape
  refine ⟨_,_,_,rfl,fun V3 l3=>(eT (h2.le l3) (hk.sub hm) (by omega)).mono ?_⟩
  rintro r V4 l4 rfl
  exact ⟨_,rfl,fun _ _=>rfl⟩
 rcases hx with ⟨ex,wx⟩|⟨a,b,p,n,c,p',n',c',ex,-,-,-,-,-,wx⟩
 ·rcases hy with ⟨ey,wy⟩|⟨a,b,p,n,c,p',n',c',ey,-,-,-,-,-,wy⟩
  ·simp only [Value.agg.injEq,Array.mk.injEq,List.cons.injEq,Value.int.injEq,Value.pointer.injEq,true_and,and_true] at ex ey
   obtain ⟨rfl,rfl,rfl⟩:=ex
   obtain ⟨rfl,rfl,rfl⟩:=ey
   have hlt:x.den=y.den->((x<y↔x.num<y.num)/\(y<x↔y.num<x.num)/\(x=y↔x.num=y.num)):=by
    intro e
    have hd:(0:Int)<y.den:=by have:=y.den_nz;omega
    refine ⟨?_,?_,fun h=>by rw [h],fun h=>Rat.ext h e⟩
    ·rw [Rat.lt_iff,e];exact ⟨fun h=>Int.lt_of_mul_lt_mul_right h (by omega),fun h=>Int.mul_lt_mul_of_pos_right h hd⟩
    ·rw [Rat.lt_iff,e];exact ⟨fun h=>Int.lt_of_mul_lt_mul_right h (by omega),fun h=>Int.mul_lt_mul_of_pos_right h hd⟩
   refine jN _ _ _ _ _ _ V _ ⟨fun _=>⟨fun _=>⟨fun h1=>?_,fun _=>gen⟩,(fun h=>nomatch h)⟩,(fun h=>nomatch h)⟩
   have h1:x.den=y.den:=by rw [beq_iff_eq] at h1;omega
   obtain ⟨g1,g2,g3⟩:=hlt h1
   refine ⟨fun h V1 l1=>?_,fun h=>⟨fun h' V1 l1=>?_,fun h' V1 l1=>?_⟩⟩
   ·rw [Ir.1 (g1.2 (by simpa using h))]
   ·rw [Iq.1 (g2.2 (by simpa using h'))]
   ·rw [DR.1 (g3.2 (by rw [decide_eq_false_iff_not] at h h';omega))]
  ·simp only [Value.agg.injEq,Array.mk.injEq,List.cons.injEq,Value.int.injEq,Value.pointer.injEq,true_and,and_true] at ex ey
   obtain ⟨rfl,rfl,rfl⟩:=ex
   obtain ⟨rfl,rfl,rfl⟩:=ey
   exact jN _ _ _ _ _ _ V _ ⟨fun _=>⟨(fun h=>nomatch h),fun _=>gen⟩,(fun h=>nomatch h)⟩
 ·simp only [Value.agg.injEq,Array.mk.injEq,List.cons.injEq,Value.int.injEq,Value.pointer.injEq,true_and,and_true] at ex
  obtain ⟨rfl,rfl,rfl⟩:=ex
  exact jN _ _ _ _ _ _ V _ ⟨(fun h=>nomatch h),fun _=>gen⟩
theorem xB {V:View}{v w:Value}{x y:Rat}(hx:RR V v x)(hy:RR V w y){k m:Nat}(hk:Sz k x)(hm:Sz m y)(hkm:k+m<1099511627776) :
  ab prog 175 #[v,w] V fun r V'=>r=.bool (decide (x=y)):=by
 obtain ⟨r0,r1,r2,rfl⟩:=hx.shape
 obtain ⟨s0,s1,s2,rfl⟩:=hy.shape
 refine sD _ _ _ _ _ _ V _ fun V1 l1=>(Ii (hx.le l1) (hy.le l1) hk hm hkm).mono ?_
 rintro r V2 l2 rfl
 refine ⟨_,rfl,fun V3 l3=>?_⟩
 congr 1
 rw [Bool.eq_iff_iff,beq_iff_eq,decide_eq_true_eq,DR]
theorem A3 {x y:Rat}{k m:Nat}(hx:Sz k x)(hy:Sz m y):x.num.natAbs*y.den<2^(k+m)/\y.num.natAbs*x.den<2^(k+m)/\Nat.gcd (x.num.natAbs*y.den) (y.num.natAbs*x.den)<2^(k+m)/\x.den*y.den<2^(k+m):=by
 have h1:x.num.natAbs*y.den<2^(k+m):=bA hx.1 hy.2
 have h2:y.num.natAbs*x.den<2^(k+m):=by rw [Nat.add_comm];exact bA hy.1 hx.2
 refine ⟨h1,h2,?_,bA hx.2 hy.2⟩
 rcases Nat.eq_zero_or_pos (x.num.natAbs*y.den) with e|e
 ·rw [e,Nat.gcd_zero_left];exact h2
 ·exact Nat.lt_of_le_of_lt (Nat.le_of_dvd e (Nat.gcd_dvd_left _ _)) h1
theorem fO {x y:Rat}{k m:Nat}(hx:Sz k x)(hy:Sz m y):Sz (k+m+1) (gH x y):=by
 obtain ⟨-,-,h3,h4⟩:=A3 hx hy
 have h5:2^(k+m)<=2^(k+m+1):=Nat.pow_le_pow_right (by omega) (by omega)
 exact Go.bz.Sz.mkRat (by rw [Int.natAbs_natCast];omega) (by omega) (by omega)
theorem iA {V:View}{v w:Value}{x y:Rat}(hx:RR V v x)(hy:RR V w y){k m:Nat}(hk:Sz k x)(hm:Sz m y)(hkm:k+m<1099511627776) :
  ab prog 174 #[v,w] V fun r V'=>RR V' r (gH x y):=by
 obtain ⟨r0,r1,r2,rfl⟩:=hx.shape
 obtain ⟨s0,s1,s2,rfl⟩:=hy.shape
 obtain ⟨b1,b2,b3,b4⟩:=A3 hk hm
 have q1:=ah hk.1
 have q2:=ah hk.2
 have q3:=ah hm.1
 have q4:=ah hm.2
 have q5:=ah b1
 have q6:=ah b2
 have q7:=ah b3
 have q8:=ah b4
 have gen:(∀Sa:View,V.Le Sa->ab prog 204 #[.agg #[.int .i64 r0,.int .i64 r1,.pointer r2]] Sa fun Q9 TR=>∃(NY:OA)(NF Mn:Nat),Q9=.slice NY NF Mn/\(∀Sb:View,TR.Le Sb->ab prog 204 #[.agg #[.int .i64 s0,.int .i64 s1,.pointer s2]] Sb fun Q_ TS=>∃(NZ:OA)(NG Mo:Nat),Q_=.slice NZ NG Mo/\(∀Sc:View,TS.Le Sc->ab prog 203 #[.slice NY NF Mn,.slice NZ NG Mo] Sc fun Ra TT=>∃(G7:OA)(GQ FQ:Nat),Ra=.slice G7 GQ FQ/\(∀Sd:View,TT.Le Sd->ab prog 143 #[.agg #[.int .i64 r0,.int .i64 r1,.pointer r2]] Sd fun Rb TU=>∃PJ:Bool,∃(N1:OA)(NI Mq:Nat),Rb=.agg #[.bool PJ,.slice N1 NI Mq]/\(∀Se:View,TU.Le Se->ab prog 204 #[.agg #[.int .i64 s0,.int .i64 s1,.pointer s2]] Se fun Rc TV=>∃(G8:OA)(GS FR:Nat),Rc=.slice G8 GS FR/\(∀Sf:View,TV.Le Sf->ab prog 203 #[.slice N1 NI Mq,.slice G8 GS FR] Sf fun Rd TW=>∃(N2:OA)(NJ Mr:Nat),Rd=.slice N2 NJ Mr/\(∀Sg:View,TW.Le Sg->ab prog 143 #[.agg #[.int .i64 s0,.int .i64 s1,.pointer s2]] Sg fun Re TX=>∃PK:Bool,∃(G9:OA)(GU FT:Nat),Re=.agg #[.bool PK,.slice G9 GU FT]/\(∀Si:View,TX.Le Si->ab prog 204 #[.agg #[.int .i64 r0,.int .i64 r1,.pointer r2]] Si fun Rf TY=>∃(N4:OA)(NL Mt:Nat),Rf=.slice N4 NL Mt/\(∀Sj:View,TY.Le Sj->ab prog 203 #[.slice G9 GU FT,.slice N4 NL Mt] Sj fun Rg TZ=>∃(G_:OA)(GV FU:Nat),Rg=.slice G_ GV FU/\(∀Sk:View,TZ.Le Sk->ab prog 192 #[.slice N2 NJ Mr,.slice G_ GV FU] Sk fun Rh T0=>∃(N5:OA)(NM Mu:Nat),Rh=.slice N5 NM Mu/\(∀Sl:View,T0.Le Sl->ab prog 157 #[.agg #[.bool false,.slice N5 NM Mu],.slice G7 GQ FQ] Sl fun Ri T1=>∃Ow:Int,∃Ox:Int,∃Ha:OA,Ri=.agg #[.int .i64 Ow,.int .i64 Ox,.pointer Ha]/\(∀Mc:View,T1.Le Mc->RR Mc (.agg #[.int .i64 Ow,.int .i64 Ox,.pointer Ha]) (gH x y))))))))))))):=by
  intro V1 l1
  refine (dX (hx.le l1) hk (by omega)).mono ?_
  rintro r V2 l2 ⟨p1,n1,c1,rfl,g1⟩
  refine ⟨_,_,_,rfl,fun V3 l3=>(dX (hy.le (l1.trans (l2.trans l3))) hm (by omega)).mono ?_⟩
  rintro r V4 l4 ⟨p2,n2,c2,rfl,g2⟩
  refine ⟨_,_,_,rfl,fun V5 l5=>(fD (g1.le (l3.trans (l4.trans l5))) (g2.le l5) (by omega)).mono ?_⟩
  rintro r V6 l6 ⟨p3,n3,c3,rfl,g3⟩
  rw [af,af] at g3
  have L6:=l1.trans (l2.trans (l3.trans (l4.trans (l5.trans l6))))
  refine ⟨_,_,_,rfl,fun V7 l7=>(i_ (hx.le (L6.trans l7)) hk (by omega)).mono ?_⟩
  rintro r V8 l8 ⟨p4,n4,c4,rfl,g4⟩
  refine ⟨_,_,_,_,rfl,fun V9 l9=>(dX (hy.le (L6.trans (l7.trans (l8.trans l9)))) hm (by omega)).mono ?_⟩
  rintro r gQ l10 ⟨p5,n5,c5,rfl,g5⟩
  refine ⟨_,_,_,rfl,fun jw bQ=>(fD (g4.le (l9.trans (l10.trans bQ))) (g5.le bQ) (by omega)).mono ?_⟩
  rintro r kv cp ⟨p6,n6,c6,rfl,g6⟩
  rw [af,af] at g6
  have Ly:=L6.trans (l7.trans (l8.trans (l9.trans (l10.trans (bQ.trans cp)))))
  refine ⟨_,_,_,rfl,fun lA bW=>(i_ (hy.le (Ly.trans bW)) hm (by omega)).mono ?_⟩
  rintro r qk dK ⟨p7,n7,c7,rfl,g7⟩
  refine ⟨_,_,_,_,rfl,fun oM dZ=>(dX (hx.le (Ly.trans (bW.trans (dK.trans dZ)))) hk (by omega)).mono ?_⟩
  rintro r oN c_ ⟨p8,n8,c8,rfl,g8⟩
  refine ⟨_,_,_,rfl,fun qi cQ=>(fD (g7.le (dZ.trans (c_.trans cQ))) (g8.le cQ) (by omega)).mono ?_⟩
  rintro r tE eI ⟨p9,n9,c9,rfl,g9⟩
  rw [af,af] at g9
  have RU:=bW.trans (dK.trans (dZ.trans (c_.trans (cQ.trans eI))))
  refine ⟨_,_,_,rfl,fun xk eA=>(xF (g6.le (RU.trans eA)) (g9.le eA) (by omega) (by omega)).mono ?_⟩
  rintro r Ak jC ⟨K3,n10,c10,rfl,g10⟩
  rw [af,af] at g10
  refine ⟨_,_,_,rfl,fun sR dL=>(bZ false (g10.le dL) (g3.le (l7.trans (l8.trans (l9.trans (l10.trans (bQ.trans (cp.trans (RU.trans (eA.trans (jC.trans dL)))))))))) (by omega) (by omega)).mono ?_⟩
  rintro r vY kr h22
  rw [oe,af,af] at h22
  obtain ⟨n,d,p,rfl⟩:=h22.shape
  exact ⟨_,_,_,rfl,fun vZ il=>h22.le il⟩
 rcases hx with ⟨ex,wx⟩|⟨a,b,p,n,c,p',n',c',ex,-,-,-,-,-,wx⟩
 ·rcases hy with ⟨ey,wy⟩|⟨a,b,p,n,c,p',n',c',ey,-,-,-,-,-,wy⟩
  ·simp only [Value.agg.injEq,Array.mk.injEq,List.cons.injEq,Value.int.injEq,Value.pointer.injEq,true_and,and_true] at ex ey
   obtain ⟨rfl,rfl,rfl⟩:=ex
   obtain ⟨rfl,rfl,rfl⟩:=ey
   obtain ⟨Oq,Tu⟩:=wx
   obtain ⟨Ot,Tv⟩:=wy
   refine my _ _ _ _ _ _ V _ ⟨fun _=>⟨fun _=>⟨fun h1=>⟨fun _ _=>True,⟨fun h2 V1 l1=>?_,fun _=>⟨(),by and_intros<;>rfl,trivial⟩⟩,fun _ V1 l1 _=>⟨by trivial,fun V2 l2=>gen V2 (l1.trans l2)⟩⟩,fun _=>gen⟩,(fun h=>nomatch h)⟩,(fun h=>nomatch h)⟩
   have h1:x.den=1:=by rw [beq_iff_eq] at h1;omega
   have h2:y.den=1:=by rw [beq_iff_eq] at h2;omega
   refine (iB _ (by omega) (by omega)).mono ?_
   rintro r V2 l2 rfl
   refine ⟨_,rfl,fun V3 l3=>(iB _ (by omega) (by omega)).mono ?_⟩
   rintro r V4 l4 rfl
   refine ⟨_,rfl,fun V5 l5=>(tV _ _ (by omega) (by omega)).mono ?_⟩
   rintro r V6 l6 rfl
   refine ⟨_,rfl,fun V7 l7=>.inl ?_⟩
   have e:gH x y=((Nat.gcd x.num.natAbs y.num.natAbs:Nat):Int):=by
    unfold gH
    rw [h1,h2,Nat.mul_one,Nat.mul_one,Nat.mul_one]
    exact mkRat_one _
   have hl:Nat.gcd x.num.natAbs y.num.natAbs<4611686018427387904:=by
    rcases Nat.eq_zero_or_pos x.num.natAbs with e|e
    ·rw [e,Nat.gcd_zero_left];exact Ot
    ·exact Nat.lt_of_le_of_lt (Nat.le_of_dvd e (Nat.gcd_dvd_left _ _)) Oq
   rw [e,ar (by omega)]
   exact ⟨rfl,uA (by rw [Int.natAbs_natCast];exact hl)⟩
  ·simp only [Value.agg.injEq,Array.mk.injEq,List.cons.injEq,Value.int.injEq,Value.pointer.injEq,true_and,and_true] at ex ey
   obtain ⟨rfl,rfl,rfl⟩:=ex
   obtain ⟨rfl,rfl,rfl⟩:=ey
   exact my _ _ _ _ _ _ V _ ⟨fun _=>⟨(fun h=>nomatch h),fun _=>gen⟩,(fun h=>nomatch h)⟩
 ·simp only [Value.agg.injEq,Array.mk.injEq,List.cons.injEq,Value.int.injEq,Value.pointer.injEq,true_and,and_true] at ex
  obtain ⟨rfl,rfl,rfl⟩:=ex
  exact my _ _ _ _ _ _ V _ ⟨(fun h=>nomatch h),fun _=>gen⟩
def RA (V:View)(v:Value)(q:Rat):Prop:=∃p n c p' n' c',v=.agg #[.bool (decide (q.num<0)),.slice p n c,.slice p' n' c']/\RD V p n c (ai q.num.natAbs)/\RD V p' n' c' (ai q.den)
theorem RA.le {V V':View}{v:Value}{q:Rat}(h:RA V v q)(l:V.Le V'):RA V' v q:=by
 obtain ⟨p,n,c,p',n',c',e,h1,h2⟩:=h
 exact ⟨p,n,c,p',n',c',e,h1.le l,h2.le l⟩
theorem nT {V:View}(b:Bool){p q:OA}{n c m e:Nat}{xs ys:List Nat}(hx:RD V p n c xs)(hy:RD V q m e ys)(hm:xs.length<=1099511627776)(hn:ys.length<=1099511627776) :
  ab prog 103 #[.agg #[.bool b,.slice p n c,.slice q m e]] V fun r V'=>RR V' r (mkRat (ay b xs) (val ys)):=by
 refine Dj b p n c q m e V _ fun V1 l1=>(bZ b (hx.le l1) (hy.le l1) hm hn).mono ?_
 rintro r V2 l2 h
 obtain ⟨u,v,w,rfl⟩:=h.shape
 exact ⟨_,_,_,rfl,fun V3 l3=>h.le l3⟩
theorem xD {V:View}{v:Value}{q:Rat}(h:RA V v q){k:Nat}(hs:Sz k q)(hk:k<=1099511627776):ab prog 103 #[v] V fun r V'=>RR V' r q:=by
 obtain ⟨p,n,c,p',n',c',rfl,h1,h2⟩:=h
 have q1:=ah hs.1
 have q2:=ah hs.2
 refine (nT _ h1 h2 (by omega) (by omega)).mono ?_
 rintro r V' _ h
 rw [az,af,Rat.mkRat_self] at h
 exact h
theorem mF {V:View}{v w:Value}{x y:Rat}(hx:RR V v x)(hy:RR V w y){k m:Nat}(hk:Sz k x)(hm:Sz m y)(hkm:k+m<1099511627776) :
  ab prog 167 #[v,w] V fun r V'=>RR V' r (x*y):=by
 obtain ⟨r0,r1,r2,rfl⟩:=hx.shape
 obtain ⟨s0,s1,s2,rfl⟩:=hy.shape
 have hxy:x*y=mkRat (x.num*y.num) (x.den*y.den):=Rat.mul_def' x y
 have b1:(x.num*y.num).natAbs<2^(k+m):=by rw [Int.natAbs_mul,Nat.pow_add];exact Nat.mul_lt_mul'' hk.1 hm.1
 have b2:x.den*y.den<2^(k+m):=by rw [Nat.pow_add];exact Nat.mul_lt_mul'' hk.2 hm.2
 have q1:=ah hk.1
 have q2:=ah hk.2
 have q3:=ah hm.1
 have q4:=ah hm.2
 have q5:=ah b1
 have q6:=ah b2
 refine wO r0 r1 r2 s0 s1 s2 V _ ⟨fun hr=>⟨fun _ _=>True,⟨fun hs=>?_,fun _=>⟨(),by (try dsimp only);and_intros<;>trivial,trivial⟩⟩,fun _ V8 l8 _=>⟨rfl,fun V9 Vh=>?_⟩⟩,fun _ V9 l9=>?_⟩
 ·rcases hx with ⟨ex,wx⟩|⟨a,b,p,n,c,p',n',c',ex,-,-,-,-,-,wx⟩
  ·rcases hy with ⟨ey,wy⟩|⟨a,b,p,n,c,p',n',c',ey,-,-,-,-,-,wy⟩
   ·simp only [Value.agg.injEq,Array.mk.injEq,List.cons.injEq,Value.int.injEq,Value.pointer.injEq,true_and,and_true] at ex ey
    obtain ⟨rfl,rfl,rfl⟩:=ex
    obtain ⟨rfl,rfl,rfl⟩:=ey
    obtain ⟨Oq,Tu⟩:=wx
    obtain ⟨Ot,Tv⟩:=wy
    have dx:=x.den_nz
    have dy:=y.den_nz
    have e1:i64.wrap ((x.den:Int)-1+1)=x.den:=by rw [ar (by omega)];omega
    have e2:i64.wrap ((y.den:Int)-1+1)=y.den:=by rw [ar (by omega)];omega
    rw [e1,e2]
    intro V1 l1
    refine (eU _ _ Oq Ot).mono ?_
    rintro r V2 l2 ⟨z1,rfl,hz1⟩
    refine ⟨_,_,rfl,fun V3 l3=>(eU _ _ (by omega) (by omega)).mono ?_⟩
    rintro r V4 l4 ⟨z2,rfl,hz2⟩
    refine ⟨_,_,rfl,fun t1=>⟨fun t2 V5 l5=>?_,fun _=>⟨(),by (try dsimp only);and_intros<;>trivial,trivial⟩⟩,fun _=>⟨(),by (try dsimp only);and_intros<;>trivial,trivial⟩⟩
    have t1:=of_decide_eq_true t1
    have t2:=of_decide_eq_true t2
    rw [hz1 t1,hz2 t2]
    have hd:((x.den:Int)*(y.den:Int))=((x.den*y.den:Nat):Int):=(Int.natCast_mul ..).symm
    rw [hd] at t2 ⊢
    refine (nD _ _ t1 (by rwa [Int.natAbs_natCast] at t2) (Nat.mul_ne_zero dx dy)).mono ?_
    rintro r V6 l6 h6
    rw [←hxy] at h6
    obtain ⟨n,d,p,rfl⟩:=h6.shape
    exact ⟨_,_,_,rfl,fun V7 l7=>h6.le l7⟩
   ·simp only [Value.agg.injEq,Array.mk.injEq,List.cons.injEq,Value.int.injEq,Value.pointer.injEq,true_and,and_true] at ey
    obtain ⟨rfl,rfl,rfl⟩:=ey
    cases hs
  ·simp only [Value.agg.injEq,Array.mk.injEq,List.cons.injEq,Value.int.injEq,Value.pointer.injEq,true_and,and_true] at ex
   obtain ⟨rfl,rfl,rfl⟩:=ex
   cases hr
 ·have l9:=l8.trans Vh
  refine (i_ (hx.le l9) hk (by omega)).mono ?_
  rintro r gQ l10 ⟨p1,n1,c1,rfl,g1⟩
  refine ⟨_,_,_,_,rfl,fun jw bQ=>(i_ (hy.le (l9.trans (l10.trans bQ))) hm (by omega)).mono ?_⟩
  rintro r kv cp ⟨p2,n2,c2,rfl,g2⟩
  refine ⟨_,_,_,_,rfl,fun lA bW=>(fQ _ _ (g1.le (bQ.trans (cp.trans bW))) (g2.le bW) (by omega)).mono ?_⟩
  rintro r qk dK JL
  rw [az,az] at JL
  obtain ⟨p3,n3,c3,rfl,g3⟩:=JL
  have JA:=l9.trans (l10.trans (bQ.trans (cp.trans (bW.trans dK))))
  refine ⟨_,_,_,_,rfl,fun oM dZ=>(dX (hx.le (JA.trans dZ)) hk (by omega)).mono ?_⟩
  rintro r oN c_ ⟨p4,n4,c4,rfl,g4⟩
  refine ⟨_,_,_,rfl,fun qi cQ=>(dX (hy.le (JA.trans (dZ.trans (c_.trans cQ)))) hm (by omega)).mono ?_⟩
  rintro r tE eI ⟨p5,n5,c5,rfl,g5⟩
  refine ⟨_,_,_,rfl,fun xk eA=>(fD (g4.le (cQ.trans (eI.trans eA))) (g5.le eA) (by omega)).mono ?_⟩
  rintro r Ak jC ⟨p6,n6,c6,rfl,g6⟩
  rw [af,af] at g6
  refine ⟨_,_,_,rfl,fun sR dL=>(bZ _ (g3.le (dZ.trans (c_.trans (cQ.trans (eI.trans (eA.trans (jC.trans dL))))))) (g6.le dL) (by omega) (by omega)).mono ?_⟩
  rintro r vY kr h22
  rw [az,af,←hxy] at h22
  obtain ⟨n,d,p,rfl⟩:=h22.shape
  exact ⟨_,_,_,rfl,fun vZ il=>h22.le il⟩
 ·skip
  refine (i_ (hx.le l9) hk (by omega)).mono ?_
  rintro r gQ l10 ⟨p1,n1,c1,rfl,g1⟩
  refine ⟨_,_,_,_,rfl,fun jw bQ=>(i_ (hy.le (l9.trans (l10.trans bQ))) hm (by omega)).mono ?_⟩
  rintro r kv cp ⟨p2,n2,c2,rfl,g2⟩
  refine ⟨_,_,_,_,rfl,fun lA bW=>(fQ _ _ (g1.le (bQ.trans (cp.trans bW))) (g2.le bW) (by omega)).mono ?_⟩
  rintro r qk dK JL
  rw [az,az] at JL
  obtain ⟨p3,n3,c3,rfl,g3⟩:=JL
  have JA:=l9.trans (l10.trans (bQ.trans (cp.trans (bW.trans dK))))
  refine ⟨_,_,_,_,rfl,fun oM dZ=>(dX (hx.le (JA.trans dZ)) hk (by omega)).mono ?_⟩
  rintro r oN c_ ⟨p4,n4,c4,rfl,g4⟩
  refine ⟨_,_,_,rfl,fun qi cQ=>(dX (hy.le (JA.trans (dZ.trans (c_.trans cQ)))) hm (by omega)).mono ?_⟩
  rintro r tE eI ⟨p5,n5,c5,rfl,g5⟩
  refine ⟨_,_,_,rfl,fun xk eA=>(fD (g4.le (cQ.trans (eI.trans eA))) (g5.le eA) (by omega)).mono ?_⟩
  rintro r Ak jC ⟨p6,n6,c6,rfl,g6⟩
  rw [af,af] at g6
  refine ⟨_,_,_,rfl,fun sR dL=>(bZ _ (g3.le (dZ.trans (c_.trans (cQ.trans (eI.trans (eA.trans (jC.trans dL))))))) (g6.le dL) (by omega) (by omega)).mono ?_⟩
  rintro r vY kr h22
  rw [az,af,←hxy] at h22
  obtain ⟨n,d,p,rfl⟩:=h22.shape
  exact ⟨_,_,_,rfl,fun vZ il=>h22.le il⟩
theorem inv_neg {q:Rat}(h:q.num<0):(q⁻¹).num=-(q.den:Int)/\(q⁻¹).den=q.num.natAbs:=by
 show (Rat.inv q).num=_/\(Rat.inv q).den=_
 unfold Rat.inv
 rw [dif_pos h]
 exact ⟨rfl,rfl⟩
theorem inv_pos {q:Rat}(h:0<q.num):(q⁻¹).num=(q.den:Int)/\(q⁻¹).den=q.num.natAbs:=by
 show (Rat.inv q).num=_/\(Rat.inv q).den=_
 unfold Rat.inv
 rw [dif_neg (by omega),dif_pos h]
 exact ⟨rfl,rfl⟩
theorem inv_zero {q:Rat}(h:q.num=0):q⁻¹=0:=by
 have:q=0:=Rat.num_eq_zero.1 h
 subst this
 exact Rat.inv_zero
theorem De {k:Nat}{q:Rat}(h:Sz k q):Sz k q⁻¹:=by
 rcases Int.lt_trichotomy q.num 0 with h0|h0|h0
 ·obtain ⟨e1,e2⟩:=inv_neg h0
  refine ⟨?_,?_⟩
  ·rw [e1,Int.natAbs_neg];exact h.2
  ·rw [e2];exact h.1
 ·rw [inv_zero h0]
  exact ⟨Nat.two_pow_pos _,Nat.lt_of_le_of_lt (Nat.pos_of_ne_zero q.den_nz) h.2⟩
 ·obtain ⟨e1,e2⟩:=inv_pos h0
  exact ⟨by rw [e1];exact h.2,by rw [e2];exact h.1⟩
theorem Ij {V:View}{v:Value}{q:Rat}(h:RR V v q){k:Nat}(hs:Sz k q)(hk:k<=1099511627776):ab prog 190 #[v] V fun r V'=>RR V' r q⁻¹:=by
 rcases h with ⟨rfl,hw⟩|⟨a,b,p,n,c,p',n',c',rfl,h1,h2,h3,h4,h5,hw⟩
 ·obtain ⟨w1,w2⟩:=hw
  have hd:=q.den_nz
  refine nM _ _ _ V _ ⟨(fun h0=>nomatch h0),fun _=>⟨fun g V4 l4=>?_,fun g=>⟨fun g2 V5 l5=>?_,fun g2 V6 l6=>?_⟩⟩⟩
  ·have g:=of_decide_eq_true g
   obtain ⟨e1,e2⟩:=inv_neg g
   refine .inl ⟨?_,?_⟩
   ·rw [e1,e2,ar (x:=(q.den:Int)-1+1) (by omega),ar (x:=0-q.num) (by omega),ar (x:=0-((q.den:Int)-1+1)) (by omega),ar (by omega)]
    congr 4
    ·omega
    ·congr 1;omega
   ·unfold Wd;rw [e1,e2,Int.natAbs_neg];exact ⟨w2,w1⟩
  ·have g2:q.num=0:=by simpa using g2
   rw [inv_zero g2]
   exact .inl ⟨rfl,by decide,by decide⟩
  ·have g:¬q.num<0:=of_decide_eq_false g
   have g2:q.num≠0:=by simpa using g2
   obtain ⟨e1,e2⟩:=inv_pos (q:=q) (by omega)
   refine .inl ⟨?_,?_⟩
   ·rw [e1,e2,ar (x:=(q.den:Int)-1+1) (by omega),ar (by omega)]
    congr 4
    ·omega
    ·congr 1;omega
   ·unfold Wd;rw [e1,e2];exact ⟨w2,w1⟩
 ·obtain ⟨rfl,hn⟩:=h4.inv
  have q1:=ah hs.1
  have q2:=ah hs.2
  refine nM _ _ _ V _ ⟨fun _=>⟨rfl,rfl,rfl,decide (q.num<0),⟨a.add 0,by simp [ag,Addr.add],h1⟩,rfl,rfl,p',n',c',⟨a.add 2,rfl,h3⟩,rfl,rfl,rfl,p,n,c,⟨a.add 1,by simp [ag,Addr.add],h2⟩,fun V1 l1=>(bZ _ (h5.le l1) (hn.le l1) (by omega) (by omega)).mono ?_⟩,fun h0=>nomatch h0⟩
  rintro r V2 l2 h
  have e:mkRat (ay (decide (q.num<0)) (ai q.den)) (val (ai q.num.natAbs))=q⁻¹:=by
   rw [af]
   have hv:ay (decide (q.num<0)) (ai q.den)=if q.num<0 then -(q.den:Int) else (q.den:Int):=by
    unfold ay
    rw [af]
    by_cases g:q.num<0<;>simp [g]
   rw [hv]
   rcases Int.lt_trichotomy q.num 0 with h0|h0|h0
   ·obtain ⟨e1,e2⟩:=inv_neg h0
    rw [if_pos h0,←e1,←e2,Rat.mkRat_self]
   ·rw [inv_zero h0,h0];simp
   ·obtain ⟨e1,e2⟩:=inv_pos h0
    rw [if_neg (by omega),←e1,←e2,Rat.mkRat_self]
  rw [e] at h
  obtain ⟨u,v,w,rfl⟩:=h.shape
  exact ⟨_,_,_,rfl,fun V3 l3=>h.le l3⟩
theorem JE (a b:Nat)(ha:a<4294967296)(hb:b<4294967296):aR .and .u32 (a:Int) (b:Int)=((a &&& b:Nat):Int):=by
 have h2:(BitVec.ofInt IntKind.u32.bits ((a:Nat):Int) &&& BitVec.ofInt IntKind.u32.bits ((b:Nat):Int)).toNat=a &&& b:=by
  show (BitVec.ofInt 32 ((a:Nat):Int) &&& BitVec.ofInt 32 ((b:Nat):Int)).toNat=_
  rw [BitVec.ofInt_natCast,BitVec.ofInt_natCast,BitVec.toNat_and,BitVec.toNat_ofNat,BitVec.toNat_ofNat,Nat.mod_eq_of_lt (by omega),Nat.mod_eq_of_lt (by omega)]
 have h3:a &&& b<2^32:=Nat.and_lt_two_pow a (by omega)
 rw [aR,g_,h2]
 omega
theorem QS (a b:Nat)(ha:a<4294967296)(hb:b<4294967296):aR .or .u32 (a:Int) (b:Int)=((a ||| b:Nat):Int):=by
 have h2:(BitVec.ofInt IntKind.u32.bits ((a:Nat):Int) ||| BitVec.ofInt IntKind.u32.bits ((b:Nat):Int)).toNat=a ||| b:=by
  show (BitVec.ofInt 32 ((a:Nat):Int) ||| BitVec.ofInt 32 ((b:Nat):Int)).toNat=_
  rw [BitVec.ofInt_natCast,BitVec.ofInt_natCast,BitVec.toNat_or,BitVec.toNat_ofNat,BitVec.toNat_ofNat,Nat.mod_eq_of_lt (by omega),Nat.mod_eq_of_lt (by omega)]
 have h3:a ||| b<2^32:=Nat.or_lt_two_pow (by omega) (by omega)
 rw [aR,g_,h2]
 omega
theorem HS (a b:Nat)(ha:a<4294967296)(hb:b<4294967296):aR .xor .u32 (a:Int) (b:Int)=((a ^^^ b:Nat):Int):=by
 have h2:(BitVec.ofInt IntKind.u32.bits ((a:Nat):Int) ^^^ BitVec.ofInt IntKind.u32.bits ((b:Nat):Int)).toNat=a ^^^ b:=by
  show (BitVec.ofInt 32 ((a:Nat):Int) ^^^ BitVec.ofInt 32 ((b:Nat):Int)).toNat=_
  rw [BitVec.ofInt_natCast,BitVec.ofInt_natCast,BitVec.toNat_xor,BitVec.toNat_ofNat,BitVec.toNat_ofNat,Nat.mod_eq_of_lt (by omega),Nat.mod_eq_of_lt (by omega)]
 have h3:a ^^^ b<2^32:=Nat.xor_lt_two_pow (by omega) (by omega)
 rw [aR,g_,h2]
 omega
theorem Om {n:Nat}(h:n<4294967296):n / 2147483648=if n.testBit 31 then 1 else 0:=by
 rw [Nat.testBit_eq_decide_div_mod_eq]
 have:(2:Nat)^31=2147483648:=by decide
 rw [this]
 split
 ·rename_i h1;simp at h1;omega
 ·rename_i h1;simp at h1;omega
theorem DN {n:Nat}(h:n<4294967296):n.testBit 31=decide (2147483648<=n):=by
 rw [Nat.testBit_eq_decide_div_mod_eq]
 have:(2:Nat)^31=2147483648:=by decide
 rw [this]
 congr 1
 simp;omega
theorem FO (x y c:Nat)(hx:x<4294967296)(hy:y<4294967296)(hc:c<=1){d:Nat}(hd:(d:Int)=((x:Int)-y-c)%4294967296) :
  (((4294967295 ^^^ x) &&& y) ||| ((4294967295 ^^^ (x ^^^ y)) &&& d)) / 2147483648=if x<y+c then 1 else 0:=by
 have h1:(4294967295 ^^^ x)<2^32:=Nat.xor_lt_two_pow (by omega) (by omega)
 have h2:x ^^^ y<2^32:=Nat.xor_lt_two_pow (by omega) (by omega)
 have h3:(4294967295 ^^^ (x ^^^ y))<2^32:=Nat.xor_lt_two_pow (by omega) h2
 have h4:(4294967295 ^^^ x) &&& y<2^32:=Nat.and_lt_two_pow _ (by omega)
 have h5:(4294967295 ^^^ (x ^^^ y)) &&& d<2^32:=Nat.and_lt_two_pow _ (by omega)
 have h6:=Nat.or_lt_two_pow h4 h5
 rw [Om h6]
 have hd':d<4294967296:=by omega
 rw [Nat.testBit_or,Nat.testBit_and,Nat.testBit_and,Nat.testBit_xor,Nat.testBit_xor,Nat.testBit_xor,DN hx,DN hy,DN hd',DN (n:=4294967295) (by omega)]
 by_cases a1:2147483648<=x<;>by_cases a2:2147483648<=y<;>by_cases a3:2147483648<=d<;>simp [a1,a2,a3]<;>omega
theorem Il {V:View}(x y c:Nat)(hx:x<4294967296)(hy:y<4294967296)(hc:c<=1) :
  ab prog 165 #[.int .u32 (x:Int),.int .u32 (y:Int),.int .u32 (c:Int)] V fun r V'=>∃d b:Nat,r=.tuple #[.int .u32 (d:Int),.int .u32 (b:Int)]/\d<4294967296/\b<=1/\d+(y+c)=x+4294967296*b:=by
 refine oK _ _ _ V _ ⟨by omega,fun V1 l1=>?_⟩
 obtain ⟨d,hd⟩:∃d:Nat,(d:Int)=((x:Int)-y-c)%4294967296:=⟨(((x:Int)-y-c)%4294967296).toNat,by omega⟩
 have hd':d<4294967296:=by omega
 have w1:u32.wrap (u32.wrap ((x:Int)-y)-c)=(d:Int):=by rw [g_,g_];omega
 have w2:IntKind.u32.max=((4294967295:Nat):Int):=rfl
 have h1:(4294967295 ^^^ x)<2^32:=Nat.xor_lt_two_pow (by omega) (by omega)
 have h2:x ^^^ y<2^32:=Nat.xor_lt_two_pow (by omega) (by omega)
 have h3:(4294967295 ^^^ (x ^^^ y))<2^32:=Nat.xor_lt_two_pow (by omega) h2
 have h4:(4294967295 ^^^ x) &&& y<2^32:=Nat.and_lt_two_pow _ (by omega)
 have h5:(4294967295 ^^^ (x ^^^ y)) &&& d<2^32:=Nat.and_lt_two_pow _ (by omega)
 rw [w1,w2,HS _ _ (by omega) hx,JE _ _ h1 hy,HS _ _ hx hy,HS _ _ (by omega) h2,JE _ _ h3 hd',QS _ _ h4 h5,eX]
 have e:(2:Nat)^31=2147483648:=by decide
 rw [e,FO x y c hx hy hc hd]
 refine ⟨d,_,rfl,hd',?_,?_⟩
 ·split<;>omega
 ·split<;>omega
theorem Ic {V:View}(hi lo y:Nat)(hh:hi<y)(hl:lo<4294967296)(hy:y<4294967296) :
  ab prog 161 #[.int .u32 (hi:Int),.int .u32 (lo:Int),.int .u32 (y:Int)] V fun r V'=>r=.tuple #[.int .u32 (((hi*4294967296+lo) / y:Nat):Int),.int .u32 (((hi*4294967296+lo)%y:Nat):Int)]:=by
 have key:∀V1:View,Value.tuple #[.int .u32 (u32.wrap (u64.wrap ((aR .or .u64 (u64.wrap ((u64.wrap (hi:Int))*2^32)) (u64.wrap (lo:Int))).tdiv (u64.wrap (y:Int))))),.int .u32 (u32.wrap ((aR .or .u64 (u64.wrap ((u64.wrap (hi:Int))*2^32)) (u64.wrap (lo:Int))).tmod (u64.wrap (y:Int))))]=.tuple #[.int .u32 (((hi*4294967296+lo) / y:Nat):Int),.int .u32 (((hi*4294967296+lo)%y:Nat):Int)]:=by
  intro _
  have e3:((2:Int)^32)=4294967296:=by decide
  have e1:u64.wrap (hi:Int)=hi:=aM (by omega)
  have e2:u64.wrap (lo:Int)=lo:=aM (by omega)
  have e4:u64.wrap (y:Int)=y:=aM (by omega)
  have e5:u64.wrap ((hi:Int)*4294967296)=(hi:Int)*4294967296:=aM (by omega)
  rw [e1,e3,e5,e2,e4,Bp _ _ (by omega) hl]
  have e6:(hi:Int)*4294967296+lo=((hi*4294967296+lo:Nat):Int):=by omega
  rw [e6,←Int.ofNat_tdiv,←Int.ofNat_tmod]
  have hq:(hi*4294967296+lo) / y<4294967296:=by
   rw [Nat.div_lt_iff_lt_mul (by omega)]
   have:(hi+1)*4294967296<=y*4294967296:=Nat.mul_le_mul_right _ hh
   omega
  have hr:(hi*4294967296+lo)%y<y:=Nat.mod_lt _ (by omega)
  generalize (hi*4294967296+lo) / y=q at *
  generalize (hi*4294967296+lo)%y=r at *
  have e7:u64.wrap (q:Int)=q:=aM (by omega)
  have e8:u32.wrap (q:Int)=q:=pY (by omega)
  have e9:u32.wrap (r:Int)=r:=pY (by omega)
  rw [e7,e8,e9]
 have e4:u64.wrap (y:Int)=y:=aM (by omega)
 refine oG _ _ _ V _ ⟨fun _=>⟨fun h=>?_,fun _=>⟨by omega,by rw [e4];omega,by rw [e4];omega,fun V1 l1=>key V1⟩⟩,fun _=>⟨by omega,by rw [e4];omega,by rw [e4];omega,fun V1 l1=>key V1⟩⟩
 simp at h;omega
theorem cF {V:View}{p:OA}{n c:Nat}{ds:List Nat}(h:RD V p n c ds)(hm:ds.length<=4611686018427387904) :
  ab prog 123 #[.slice p n c] V fun r V'=>∃k,r=.slice p k c/\RD V' p k c (bN ds):=by
 have hl:=h.len
 have hcp:=h.cap
 refine B5 p n c V _ ?_
 refine ⟨fun z V'=>0<=z/\z<=n/\bN (ds.take z.toNat)=bN ds,fun z=>z.toNat,⟨n,by (try dsimp only);and_intros<;>first|exact True.intro|rfl,by (try dsimp only);omega,by (try dsimp only);omega,?_⟩,?_⟩
 ·simp [hl]
 ·rintro k V1 l1 ⟨hk0,hk,ht⟩
  obtain ⟨k,rfl⟩:=Int.eq_ofNat_of_zero_le hk0
  dsimp only at hk ht ⊢
  simp only [Int.toNat_natCast] at ht
  refine ⟨rfl,fun h0=>?_,fun h0=>?_⟩
  ·have h0:0<k:=by simpa using h0
   have w:i64.wrap ((k:Int)-1)=((k-1:Nat):Int):=by rw [ar (by omega)];omega
   simp only [w]
   have hs:ds.take k=ds.take (k-1)++[ds[k-1]]:=by rw [←List.take_succ_eq_append_getElem (by omega),Nat.sub_add_cancel h0]
   refine (h.le l1).rd (k-1) rfl (by omega) ⟨fun hz=>?_,fun hz=>?_⟩
   ·have hz:ds[k-1]=0:=by simpa using hz
    refine ⟨_,?_,by (try dsimp only);and_intros<;>first|exact True.intro|rfl,?_,?_,?_⟩
    ·(try dsimp only);omega
    ·(try dsimp only);omega
    ·(try dsimp only);omega
    ·(try dsimp only)
     rw [←ht,hs,hz,gL];rfl
   ·have hz:ds[k-1]≠0:=by simpa using hz
    refine ⟨⟨by omega,by omega⟩,fun V2 l2=>⟨k,rfl,?_⟩⟩
    rw [←ht,hs,oC _ _ hz,←hs]
    exact ((h.le l1).le l2).take (by omega)
  ·have h0:k=0:=by simpa using h0
   subst h0
   refine ⟨⟨by omega,by omega⟩,fun V2 l2=>⟨0,rfl,?_⟩⟩
   rw [←ht]
   exact ((h.le l1).le l2).take (by omega)
theorem dp {V:View}(u:Nat)(h1:u<18446744073709551616) :
  ab prog 122 #[.int .u64 (u:Int)] V fun r V'=>∃q k c',r=.slice q k c'/\RN V' q k c' u:=by
 refine B6 _ V _ ⟨by omega,fun V1 l1 bk hb=>?_⟩
 rw [lq,g_,pY (by omega)] at hb
 have hb:V1.bu bk (.cells (aH [u%4294967296,u / 4294967296]).toArray 186 (0,0)):=by
  simpa [aH] using hb
 have hd:bD [u%4294967296,u / 4294967296]:=by simp [bD];omega
 refine (cF (RD.bu hb hd (n:=2) (c:=2) rfl (Nat.le_refl _)) (by simp)).mono ?_
 rintro r V2 l2 ⟨k,rfl,h2⟩
 refine ⟨_,_,_,rfl,fun _ V3 l3=>⟨_,_,_,rfl,?_⟩⟩
 rw [aO hd] at h2
 have:val [u%4294967296,u / 4294967296]=u:=by simp;omega
 rw [this] at h2
 exact h2.le l3
theorem jY {V:View} :
  ab prog 121 #[] V fun r V'=>∃q k c',r=.slice q k c'/\RN V' q k c' 1:=by
 refine Dx V _ fun V1 l1 bk hb=>⟨_,_,_,rfl,?_⟩
 have hd:ai 1=[1]:=Iu (by omega) (by omega)
 unfold RN
 rw [hd]
 have hb:V1.bu bk (.cells (aH [1]).toArray 186 (0,0)):=by
  simpa [aH] using hb
 exact RD.bu hb (by simp [bD]) rfl (Nat.le_refl _)
def E_ (x:Int):Int:=if 0<x then 1 else if x<0 then -1 else 0
theorem Cu {V:View}(x:Int) :
  ab prog 164 #[.int .i64 x] V fun r V'=>r=.int .i64 (E_ x):=by
 refine B8 x V _ ⟨fun h V1 l1=>?_,fun h=>⟨fun h2 V1 l1=>?_,fun h2 V1 l1=>?_⟩⟩
 ·have h:0<x:=by simpa using h
  rw [E_,if_pos h]
 ·have h:x<0:=by simpa using h2
  rw [E_,if_neg (by omega),if_pos h]
 ·have h:¬0<x:=by simpa using h
  have h2:¬x<0:=by simpa using h2
  rw [E_,if_neg h,if_neg h2]
theorem fE {V:View}{p q:OA}{n c m e:Nat}{x y:Nat}(ha:RN V p n c x)(hb:RN V q m e y)(hm:(ai x).length<=1099511627776)(hn:(ai y).length<=1099511627776) :
  ab prog 119 #[.slice p n c,.slice q m e] V fun r V'=>r=.int .i64 (jB x y):=by
 have hl1:=ha.len
 have hl2:=hb.len
 refine Dt p n c q m e V _ ⟨fun h0 V1 l1=>?_,fun h0=>?_⟩
 ·have w:i64.wrap ((n:Int)-m)=(n:Int)-m:=ar (by omega)
  simp only [w]
  refine (Cu _).mono ?_
  rintro r V2 l2 rfl
  refine ⟨_,rfl,fun V3 l3=>?_⟩
  have h0:n≠m:=by simp at h0;omega
  congr 1
  rcases Nat.lt_or_ge n m with h|h
  ·have:=ka (a:=x) (b:=y) (by omega)
   rw [jB,if_pos this,E_,if_neg (by omega),if_pos (by omega)]
  ·have:=ka (a:=y) (b:=x) (by omega)
   rw [jB,if_neg (by omega),if_pos this,E_,if_pos (by omega)]
 ·have h0:n=m:=by simp at h0;omega
  subst h0
  have w:i64.wrap ((n:Int)-1)=(n:Int)-1:=ar (by omega)
  simp only [w]
  refine ⟨fun z V'=>-1<=z/\z<n/\(ai x).drop (z+1).toNat=(ai y).drop (z+1).toNat,fun z=>(z+1).toNat,⟨_,by (try dsimp only);and_intros<;>first|exact True.intro|rfl,by (try dsimp only);omega,by (try dsimp only);omega,?_⟩,?_⟩
  ·(try dsimp only)
   rw [List.drop_of_length_le (by omega),List.drop_of_length_le (by omega)]
  ·rintro i V7 l7 ⟨hi0,hi1,hd⟩
   dsimp only at hi0 hi1 hd ⊢
   refine ⟨by trivial,fun h3=>?_,fun h3 V5 l5=>?_⟩
   ·have h3:0<=i:=by simpa using h3
    obtain ⟨i,rfl⟩:=Int.eq_ofNat_of_zero_le h3
    have w:i64.wrap ((i:Int)-1)=(i:Int)-1:=ar (by omega)
    simp only [w]
    have hd':(ai x).drop (i+1)=(ai y).drop (i+1):=hd
    refine (ha.le l7).rd i rfl (by omega) ((hb.le l7).rd i rfl (by omega) ⟨fun h4 V8 l8=>?_,fun h4=>?_⟩)
    ·have:=jk (aI y) (by omega) (by omega) hd'.symm (by simpa using h4)
     rw [af,af] at this
     rw [jB,if_neg (by omega),if_pos this]
    ·refine (ha.le l7).rd i rfl (by omega) ((hb.le l7).rd i rfl (by omega) ⟨fun h5 V8 l8=>?_,fun h5=>?_⟩)
     ·have:=jk (aI x) (by omega) (by omega) hd' (by simpa using h5)
      rw [af,af] at this
      rw [jB,if_pos this]
     ·refine ⟨_,?_,by (try dsimp only);and_intros<;>first|exact True.intro|rfl,?_,?_,?_⟩
      ·(try dsimp only);omega
      ·(try dsimp only);omega
      ·(try dsimp only);omega
      ·(try dsimp only)
       have:((i:Int)-1+1).toNat=i:=by omega
       rw [this,List.drop_eq_getElem_cons (by omega),List.drop_eq_getElem_cons (l:=ai y) (by omega),hd']
       congr 1
       simp at h4 h5
       omega
   ·have h3:i=-1:=by simp at h3;omega
    subst h3
    have:ai x=ai y:=by simpa using hd
    have:=uj this
    subst this
    simp [jB]
theorem GL (a b:Nat):bF (a:Int) (b:Int)=((max a b:Nat):Int):=by
 unfold bF
 split<;>omega
theorem Ex {V:View}{p q:OA}{n c m e:Nat}{xs ys:List Nat}(hx:RD V p n c xs)(hy:RD V q m e ys)(hm:xs.length<=1099511627776)(hn:ys.length<=1099511627776) :
  ab prog 118 #[.slice p n c,.slice q m e] V fun r V'=>∃p' n' c',r=.slice p' n' c'/\RN V' p' n' c' (val xs+val ys):=by
 have hlx:=hx.len
 have Am:=hy.len
 have vc:=DA p n c q m e V
 have w:i64.wrap (((max n m:Nat):Int)+1)=((max n m+1:Nat):Int):=by rw [ar (by omega)];omega
 simp only [GL,w,Int.toNat_natCast] at vc
 obtain ⟨k,hk⟩:∃k,k=max n m:=⟨_,rfl⟩
 rw [←hk] at vc
 refine vc _ ⟨by omega,by omega,by omega,fun z V'=>0<=z.1/\z.1<=1/\0<=z.2.1/\z.2.1<=k/\∃es:List Nat,z.2.2=aH es/\es.length=k+1/\bD es /\
   val (es.take z.2.1.toNat)+4294967296^z.2.1.toNat*z.1.toNat=val (xs.take z.2.1.toNat)+val (ys.take z.2.1.toNat),fun z=>k-z.2.1.toNat,⟨(0,0,aH (List.replicate (k+1) 0)),by (try dsimp only);and_intros<;>first|exact True.intro|rfl|exact cC _,by (try dsimp only);omega,by (try dsimp only);omega,by (try dsimp only);omega,by (try dsimp only);omega,_,rfl,by simp,bD.rep _,by simp⟩,?_⟩
 rintro ⟨cy,i,vs⟩ V2 l2 ⟨hc0,hc1,hi0,hi1,es,rfl,hes,hde,hv⟩
 dsimp only at hc0 hc1 hi0 hi1 hv ⊢
 obtain ⟨i,rfl⟩:=Int.eq_ofNat_of_zero_le hi0
 obtain ⟨cy,rfl⟩:=Int.eq_ofNat_of_zero_le hc0
 simp only [Int.toNat_natCast] at hv
 refine ⟨by trivial,fun h3=>?_,fun h3=>?_⟩
 ·have h3:i<k:=by simpa using h3
  refine ⟨fun z V'=>∃x:Nat,z=x/\x<4294967296/\val (xs.take (i+1))=val (xs.take i)+4294967296^i*x,⟨fun h4=>?_,fun h4=>?_⟩,?_⟩
  ·have h4:i<n:=by simpa using h4
   refine (hx.le l2).rd i rfl (by omega) ?_
   exact ⟨_,by (try dsimp only);and_intros<;>first|exact True.intro|rfl,xs[i],rfl,hx.cN.get (by omega),ax _ _ (by omega)⟩
  ·have h4:n<=i:=by simpa using h4
   exact ⟨_,by (try dsimp only);and_intros<;>first|exact True.intro|rfl,0,rfl,by omega,by rw [aq (by omega),aq (by omega)];simp⟩
  rintro _ V3 l3 ⟨x,rfl,hx1,hx2⟩
  refine ⟨by trivial,fun z V'=>∃y:Nat,z=y/\y<4294967296/\val (ys.take (i+1))=val (ys.take i)+4294967296^i*y,⟨fun h4=>?_,fun h4=>?_⟩,?_⟩
  ·have h4:i<m:=by simpa using h4
   refine ((hy.le l2).le l3).rd i rfl (by omega) ?_
   exact ⟨_,by (try dsimp only);and_intros<;>first|exact True.intro|rfl,ys[i],rfl,hy.cN.get (by omega),ax _ _ (by omega)⟩
  ·have h4:m<=i:=by simpa using h4
   exact ⟨_,by (try dsimp only);and_intros<;>first|exact True.intro|rfl,0,rfl,by omega,by rw [aq (by omega),aq (by omega)];simp⟩
  rintro _ V4 l4 ⟨y,rfl,hy1,hy2⟩
  refine ⟨by trivial,fun V5 l5=>(Ib x y cy hx1 hy1 (by omega)).mono ?_⟩
  rintro r V6 l6 rfl
  have w:i64.wrap ((i:Int)+1)=((i+1:Nat):Int):=by rw [ar (by omega)];omega
  simp only [w,Int.toNat_natCast]
  refine ⟨_,_,rfl,⟨by omega,by omega⟩,by simp;omega,(((x+y+cy) / 4294967296:Nat),((i+1:Nat):Int),aH (es.set i ((x+y+cy)%4294967296))),?_,by (try dsimp only);and_intros<;>first|exact True.intro|rfl|(rw [←bl];simp),?_⟩
  ·(try dsimp only);omega
  ·(try dsimp only)
   refine ⟨by omega,by omega,by omega,by omega,_,rfl,by simpa using hes,hde.set _ _ (by omega),?_⟩
   simp only [Int.toNat_natCast]
   rw [aL _ _ _ (by omega),Nat.pow_succ,hx2,hy2]
   exact tG hv (by omega)
 ·have h3:i=k:=by simp at h3;omega
  subst h3
  refine ⟨⟨by omega,by omega⟩,by simp;omega,fun V3 l3 bk hb=>?_⟩
  have e1:(aH es).set (0+((i:Int).toNat)*1) (.int .u32 (cy:Int))=aH (es.set i cy):=by rw [←bl];simp
  simp only [Int.toNat_natCast] at e1
  try simp only [Int.toNat_natCast] at hb
  rw [e1] at hb
  have hd2:=hde.set i cy (by omega)
  refine (cF (RD.bu hb hd2 (n:=i+1) (c:=i+1) (by simp;omega) (Nat.le_refl _)) (by simp;omega)).mono ?_
  rintro r V4 l4 ⟨k,rfl,h4⟩
  refine ⟨_,_,_,rfl,fun _ V5 l5=>⟨_,_,_,rfl,?_⟩⟩
  rw [aO hd2] at h4
  have e2:val (es.set i cy)=val xs+val ys:=by
   have:=aL es i cy (by omega)
   rw [aq (by simp;omega)] at this
   rw [this,hv,aq (by omega),aq (by omega)]
  rw [e2] at h4
  exact h4.le l5
theorem Dd {E A B c x y W d b:Nat}(h:E+B=A+W*c)(hv:d+(y+c)=x+4294967296*b) :
  E+W*d+(B+W*y)=A+W*x+W*4294967296*b:=by
 have:=congrArg (W*·) hv
 simp only [Nat.mul_add,←Nat.mul_assoc] at this
 omega
theorem nV {V:View}{p q:OA}{n c m e:Nat}{xs ys:List Nat}(hx:RD V p n c xs)(hy:RD V q m e ys)(hm:xs.length<=1099511627776)(hl:ys.length<=xs.length)(hle:val ys<=val xs) :
  ab prog 120 #[.slice p n c,.slice q m e] V fun r V'=>∃p' n' c',r=.slice p' n' c'/\RN V' p' n' c' (val xs-val ys):=by
 have hlx:=hx.len
 have Am:=hy.len
 refine B1 p n c q m e V _ ⟨by omega,by omega,by omega,fun z V'=>0<=z.1/\z.1<=1/\0<=z.2.1/\z.2.1<=n/\∃es:List Nat,z.2.2=aH es/\es.length=n/\bD es /\
   val (es.take z.2.1.toNat)+val (ys.take z.2.1.toNat)=val (xs.take z.2.1.toNat)+4294967296^z.2.1.toNat*z.1.toNat,fun z=>n-z.2.1.toNat,
   ⟨(0,0,List.replicate n (.int .u32 0)),by (try dsimp only);and_intros<;>first|exact True.intro|rfl,by (try dsimp only);omega,by (try dsimp only);omega,by (try dsimp only);omega,by (try dsimp only);omega,List.replicate n 0,cC n,by simp,bD.rep _,by simp⟩,?_⟩
 rintro ⟨cy,i,vs⟩ V2 l2 ⟨hc0,hc1,hi0,hi1,es,rfl,hes,hde,hv⟩
 dsimp only at hc0 hc1 hi0 hi1 hv ⊢
 obtain ⟨i,rfl⟩:=Int.eq_ofNat_of_zero_le hi0
 obtain ⟨cy,rfl⟩:=Int.eq_ofNat_of_zero_le hc0
 simp only [Int.toNat_natCast] at hv
 refine ⟨by trivial,fun h3=>?_,fun h3=>?_⟩
 ·have h3:i<n:=by simpa using h3
  refine ⟨fun z V'=>∃y:Nat,z=y/\y<4294967296/\val (ys.take (i+1))=val (ys.take i)+4294967296^i*y,⟨fun h4=>?_,fun h4=>?_⟩,?_⟩
  ·have h4:i<m:=by simpa using h4
   refine (hy.le l2).rd i rfl (by omega) ?_
   exact ⟨_,by (try dsimp only);and_intros<;>first|exact True.intro|rfl,ys[i],rfl,hy.cN.get (by omega),ax _ _ (by omega)⟩
  ·have h4:m<=i:=by simpa using h4
   exact ⟨_,by (try dsimp only);and_intros<;>first|exact True.intro|rfl,0,rfl,by omega,by rw [aq (by omega),aq (by omega)];simp⟩
  rintro _ V3 l3 ⟨y,rfl,hy1,hy2⟩
  refine ⟨by trivial,?_⟩
  refine ((hx.le l2).le l3).rd i rfl (by omega) fun V4 l4=>(Il _ y cy (hx.cN.get (by omega)) hy1 (by omega)).mono ?_
  rintro r V5 l5 ⟨d,b,rfl,hd,hb,hdb⟩
  have w:i64.wrap ((i:Int)+1)=((i+1:Nat):Int):=by rw [ar (by omega)];omega
  simp only [w,Int.toNat_natCast]
  refine ⟨_,_,rfl,⟨by omega,by omega⟩,by simp;omega,((b:Int),((i+1:Nat):Int),aH (es.set i d)),?_,by (try dsimp only);and_intros<;>first|exact True.intro|rfl|(rw [←bl];simp),?_⟩
  ·(try dsimp only);omega
  ·(try dsimp only)
   refine ⟨by omega,by omega,by omega,by omega,_,rfl,by simpa using hes,hde.set _ _ (by omega),?_⟩
   simp only [Int.toNat_natCast]
   rw [aL _ _ _ (by omega),Nat.pow_succ,ax xs i (by omega),hy2]
   exact Dd hv hdb
 ·have h3:i=n:=by simp at h3;omega
  subst h3
  simp only [Int.toNat_natCast]
  intro V3 l3 bk hb
  refine (cF (RD.bu hb hde (n:=i) (c:=i) hes.symm (Nat.le_refl _)) (by omega)).mono ?_
  rintro r V4 l4 ⟨k,rfl,h4⟩
  refine ⟨_,_,_,rfl,fun _ V5 l5=>⟨_,_,_,rfl,?_⟩⟩
  rw [aO hde] at h4
  rw [aq (by omega),aq (by omega),aq (by omega)] at hv
  have e1:=dQ hde
  rw [hes] at e1
  have e2:cy=0:=by
   rcases Nat.eq_zero_or_pos cy with h|h
   ·exact h
   ·have:4294967296^i*1<=4294967296^i*cy:=Nat.mul_le_mul_left _ h
    omega
  subst e2
  rw [show val es=val xs-val ys from by omega] at h4
  exact h4.le l5
theorem Bw {V:View}{p:OA}{n c:Nat}{ds:List Nat}(h:RD V p n c ds){K:Int->Prop}(hn:0<ds.length)
  (hK:K ((ds[0]:Nat):Int)):(p.isSome=true)/\(0<=(0:Int)/\(0:Int)<(n:Int))/\∃x:Int,(∃a,ag p 0=some a/\V.at a (.int .u32 x))/\K x:=by
 have:=h.rd (i:=0) (K:=K) 0 rfl hn hK
 simpa using this
theorem Jh {V:View}{p:OA}{n c:Nat}{ds:List Nat}(h:RD V p n c ds){K:Int->Prop}(j:Nat)(hn:j<ds.length)
  (hK:K ((ds[j]:Nat):Int)):(p.isSome=true)/\(0<=(j:Int)/\(j:Int)<(n:Int))/\∃x:Int,(∃a,ag p j=some a/\V.at a (.int .u32 x))/\K x:=by
 have:=h.rd (i:=j) (K:=K) j rfl hn hK
 simpa using this
theorem kO {ds:List Nat}(h:ds.length=1):∃a,ds=[a]:=by
 match ds,h with
 | [a],_=>exact ⟨a,rfl⟩
theorem Dg {ds:List Nat}(h:ds.length=2):∃a b,ds=[a,b]:=by
 match ds,h with
 | [a,b],_=>exact ⟨a,b,rfl⟩
theorem cE {V:View}{p q:OA}{n c m e:Nat}{xs ys:List Nat}(hx:RD V p n c xs)(hy:RD V q m e ys)(hm:xs.length+ys.length<=1099511627776) :
  ab prog 78 #[.slice p n c,.slice q m e] V fun r V'=>∃p' n' c',r=.slice p' n' c'/\RN V' p' n' c' (val xs*val ys):=by
 have hlx:=hx.len
 have Am:=hy.len
 have hnm':((n:Int)+m).toNat=n+m:=by omega
 have w:i64.wrap ((n:Int)+m)=(n:Int)+m:=ar (by omega)
 have vc:=vJ p n c q m e V
 simp only [w,hnm',cC] at vc
 refine (fun tail=>vc _ ⟨fun h0=>⟨fun h1=>?_,fun _=>tail⟩,fun _=>tail⟩) ?_
 ·have h0:n=1:=by simp at h0;omega
  have h1:m=1:=by simp at h1;omega
  clear tail vc
  obtain ⟨a,rfl⟩:=kO (ds:=xs) (by omega)
  obtain ⟨b,rfl⟩:=kO (ds:=ys) (by omega)
  have xW:=hx.cN.get (i:=0) (by simp)
  have hdy:=hy.cN.get (i:=0) (by simp)
  refine Bw hx (by simp) (Bw hy (by simp) fun V1 l1=>?_)
  simp only [List.getElem_cons_zero] at xW hdy ⊢
  have lF:a*b<=4294967295*4294967295:=Nat.mul_le_mul (by omega) (by omega)
  have e1:u64.wrap (a:Int)=a:=aM (by omega)
  have e2:u64.wrap (b:Int)=b:=aM (by omega)
  have e3:(a:Int)*(b:Int)=((a*b:Nat):Int):=by simp
  have e4:u64.wrap ((a*b:Nat):Int)=((a*b:Nat):Int):=aM (by omega)
  rw [e1,e2,e3,e4]
  refine (dp (a*b) (by omega)).mono ?_
  rintro r V2 l2 ⟨p',n',c',rfl,h⟩
  refine ⟨_,_,_,rfl,fun V3 l3=>⟨_,_,_,rfl,?_⟩⟩
  simp only [bg,dH,Nat.mul_zero,Nat.add_zero]
  exact h.le l3
 refine ⟨by omega,by omega,by omega,fun z V'=>0<=z.1/\z.1<=n/\∃es:List Nat,z.2=aH es/\es.length=n+m/\bD es /\
  val (es.take (z.1.toNat+m))=val (xs.take z.1.toNat)*val ys,fun z=>n-z.1.toNat,⟨(0,aH (List.replicate (n+m) 0)),by (try dsimp only);and_intros<;>first|exact True.intro|rfl,by (try dsimp only);omega,by (try dsimp only);omega,_,rfl,by simp,bD.rep _,by simp [tA,List.take_replicate]⟩,?_⟩
 rintro ⟨i,vs⟩ V5 l5 ⟨hi0,hi1,es,rfl,hes,hde,hv⟩
 dsimp only at hi0 hi1 hv ⊢
 obtain ⟨i,rfl⟩:=Int.eq_ofNat_of_zero_le hi0
 simp only [Int.toNat_natCast] at hv
 refine ⟨by trivial,fun h3=>?_,fun h3=>?_⟩
 ·have h3:i<n:=by simpa using h3
  refine (hx.le l5).rd i rfl (by omega) ?_
  have xW:=hx.cN.get (i:=i) (by omega)
  refine ⟨fun z V'=>0<=z.1/\z.1<=4294967295/\0<=z.2.1/\z.2.1<=m/\∃fs:List Nat,z.2.2=aH fs/\fs.length=n+m/\bD fs/\fs.drop (i+z.2.1.toNat)=es.drop (i+z.2.1.toNat) /\
   val (fs.take (i+z.2.1.toNat))+4294967296^(i+z.2.1.toNat)*z.1.toNat=val (es.take (i+z.2.1.toNat))+4294967296^i*xs[i]*val (ys.take z.2.1.toNat),fun z=>m-z.2.1.toNat,
   ⟨(0,0,aH es),by (try dsimp only);and_intros<;>first|exact True.intro|rfl,by (try dsimp only);omega,by (try dsimp only);omega,by (try dsimp only);omega,by (try dsimp only);omega,es,rfl,hes,hde,rfl,by simp⟩,?_⟩
  rintro ⟨cy,k,vs⟩ V6 l6 ⟨hc0,hc1,hk0,hk1,fs,rfl,hfs,hdf,hdr,hw⟩
  dsimp only at hc0 hc1 hk0 hk1 hdr hw ⊢
  obtain ⟨k,rfl⟩:=Int.eq_ofNat_of_zero_le hk0
  obtain ⟨cy,rfl⟩:=Int.eq_ofNat_of_zero_le hc0
  simp only [Int.toNat_natCast] at hdr hw
  refine ⟨by trivial,fun h4=>?_,fun h4=>?_⟩
  ·have h4:k<m:=by simpa using h4
   refine (hy.le (l5.trans l6)).rd k rfl (by omega) ?_
   have hdy:=hy.cN.get (i:=k) (by omega)
   have P9:=hdf.get (i:=i+k) (by omega)
   have hef:fs[i+k]'(by omega)=es[i+k]'(by omega):=by
    have h1:fs[i+k]?=es[i+k]?:=by
     have:=congrArg (fun l=>l[0]?) hdr
     simpa [List.getElem?_drop] using this
    rw [List.getElem?_eq_getElem (by omega),List.getElem?_eq_getElem (by omega)] at h1
    exact Option.some.inj h1
   simp (disch:=omega) only [ar]
   have hik:((i:Int)+k).toNat=i+k:=by omega
   rw [hik]
   refine ⟨⟨by omega,by omega⟩,((fs[i+k]'(by omega):Nat):Int),by rw [Nat.zero_add,Nat.mul_one];exact fa (by omega),⟨by omega,by omega⟩,by simp;omega,by omega,?_⟩
   have hxy:xs[i]*ys[k]<=4294967295*4294967295:=Nat.mul_le_mul (by omega) (by omega)
   have KM:(xs[i]:Int)*(ys[k]:Int)=((xs[i]*ys[k]:Nat):Int):=by simp
   obtain ⟨t,ht⟩:∃t:Nat,t=cy+xs[i]*ys[k]+fs[i+k]'(by omega):=⟨_,rfl⟩
   rw [Nat.pow_add] at hw
   have hstep:=Bm hw ht
   have e1:u64.wrap (u64.wrap (u64.wrap (u64.wrap (xs[i]:Int)*u64.wrap (ys[k]:Int))+u64.wrap ((fs[i+k]'(by omega):Nat):Int))+(cy:Int))=(t:Int):=by
    clear hstep
    generalize xs[i]*ys[k]=pq at *
    rw [aM (x:=(xs[i]:Int)) (by omega),aM (x:=(ys[k]:Int)) (by omega),KM,aM (x:=((pq:Nat):Int)) (by omega)]
    simp (disch:=omega) only [aM]
    omega
   rw [e1,g_,lq]
   refine ⟨(_,_,_),?_,by (try dsimp only);and_intros<;>first|exact True.intro|rfl,?_⟩
   ·(try dsimp only);omega
   ·(try dsimp only)
    have hk2:((k:Int)+1).toNat=k+1:=by omega
    refine ⟨by omega,by omega,by omega,by omega,fs.set (i+k) (t%4294967296),?_,by simpa using hfs,hdf.set _ _ (by omega),?_,?_⟩
    ·rw [←bl];simp
    ·rw [hk2,List.drop_set_of_lt (by omega)]
     have:=congrArg (List.drop 1) hdr
     simpa [List.drop_drop,Nat.add_comm,Nat.add_assoc,Nat.add_left_comm] using this
    ·rw [hk2,show i+(k+1)=i+k+1 from by omega,aL _ _ _ (by omega),ax es (i+k) (by omega),ax ys k (by omega),←hef,Nat.pow_succ]
     have e2:((t:Int) / 4294967296).toNat=t / 4294967296:=by omega
     rw [e2,Nat.pow_add,hstep]
  ·have h4:k=m:=by simp at h4;omega
   subst h4
   simp (disch:=omega) only [ar]
   have hik:((i:Int)+k).toNat=i+k:=by omega
   rw [hik]
   refine ⟨⟨by omega,by omega⟩,by simp;omega,(_,_),?_,by (try dsimp only);and_intros<;>first|exact True.intro|rfl,?_⟩
   ·(try dsimp only);omega
   ·(try dsimp only)
    have hi2:((i:Int)+1).toNat=i+1:=by omega
    refine ⟨by omega,by omega,fs.set (i+k) cy,?_,by simpa using hfs,hdf.set _ _ (by omega),?_⟩
    ·rw [←bl,pY (by omega)];simp
    ·rw [hi2,show i+1+k=i+k+1 from by omega,aL _ _ _ (by omega),hw,hv,ax xs i (by omega),aq (ds:=ys) (by omega)]
     grind
 ·have h3:i=n:=by simp at h3;omega
  subst h3
  intro V6 l6 bk hb'
  refine (cF (RD.bu hb' hde (n:=i+m) (c:=i+m) (by omega) (Nat.le_refl _)) (by omega)).mono ?_
  rintro r V7 l7 ⟨k,rfl,h4⟩
  refine ⟨_,_,_,rfl,fun _ V8 l8=>⟨_,_,_,rfl,?_⟩⟩
  rw [aO hde] at h4
  rw [aq (by omega),aq (by omega)] at hv
  rw [hv] at h4
  exact h4.le l8
theorem kH {V:View}{p:OA}{n c:Nat}{ds:List Nat}(h:RD V p n c ds)(hm:ds.length<=1099511627776) :
  ab prog 160 #[.slice p n c] V fun r V'=>r=.tuple #[.int .u64 ((if n<=2 then val ds else 0:Nat):Int),.bool (decide (n<=2))]:=by
 have hl:=h.len
 refine B9 p n c V _ ⟨fun h0 V1 l1=>?_,fun h0=>⟨fun h1=>?_,fun h1=>⟨fun h2=>?_,fun h2 V1 l1=>?_⟩⟩⟩
 ·have h0:n=0:=by simp at h0;omega
  subst h0
  have:ds=[]:=List.length_eq_zero_iff.1 (by omega)
  subst this
  rfl
 ·have h1:n=1:=by simp at h1;omega
  subst h1
  obtain ⟨a,rfl⟩:=kO (ds:=ds) (by omega)
  have hd:=h.cN.get (i:=0) (by simp)
  refine Bw h (by simp) fun V1 l1=>?_
  simp only [List.getElem_cons_zero] at hd ⊢
  have e1:u64.wrap (a:Int)=a:=aM (by omega)
  rw [e1,if_pos (by omega),decide_eq_true (by omega)]
  simp
 ·have h2:n=2:=by simp at h2;omega
  subst h2
  obtain ⟨a,b,rfl⟩:=Dg (ds:=ds) (by omega)
  have hd0:=h.cN.get (i:=0) (by simp)
  have hd1:=h.cN.get (i:=1) (by simp)
  refine Jh h 1 (by simp) ⟨by omega,Bw h (by simp) fun V1 l1=>?_⟩
  simp only [List.getElem_cons_zero,List.getElem_cons_succ] at hd0 hd1 ⊢
  have e1:u64.wrap (a:Int)=a:=aM (by omega)
  have e2:u64.wrap (b:Int)=b:=aM (by omega)
  have e3:((2:Int)^32)=4294967296:=by decide
  have e4:u64.wrap ((b:Int)*4294967296)=(b:Int)*4294967296:=aM (by omega)
  rw [e1,e2,e3,e4,Bp _ _ hd1 hd0,if_pos (by omega),decide_eq_true (by omega)]
  simp only [bg,dH]
  congr 4
  omega
 ·have h2:¬n<=2:=by simp at h0 h1 h2;omega
  rw [if_neg h2,decide_eq_false h2]
  rfl
theorem EY (b:Nat):0 ||| b=b:=Nat.zero_or b
theorem kE {V:View}{p:OA}{n c:Nat}{ds:List Nat}(hx:RD V p n c ds)(hm:ds.length<=1099511627776)(k:Nat)(hk:k<=35184372088832) :
  ab prog 198 #[.slice p n c,.int .i64 (k:Int)] V fun r V'=>∃p' n' c',r=.slice p' n' c'/\RN V' p' n' c' (val ds*2^k):=by
 have hl:=hx.len
 have e2:(k:Int).tdiv 32=((k / 32:Nat):Int):=by rw [Int.tdiv_eq_ediv_of_nonneg (by omega)];omega
 have e3:(k:Int).tmod 32=((k%32:Nat):Int):=by rw [Int.tmod_eq_emod_of_nonneg (by omega)];omega
 have vc:=B0 p n c k V
 have hk2:val ds*2^k=4294967296^(k / 32)*val ds*2^(k%32):=by
  have:2^k=4294967296^(k / 32)*2^(k%32):=by
   rw [show (4294967296:Nat)=2^32 from rfl,←Nat.pow_mul,←Nat.pow_add,Nat.div_add_mod]
  rw [this];grind
 rw [hk2]
 have hwl:k / 32<=1099511627776:=by omega
 have hrl:k%32<32:=Nat.mod_lt _ (by omega)
 rw [e2,e3] at vc
 generalize k / 32=w at *
 generalize k%32=r at *
 clear e2 e3 hk2
 have w1:i64.wrap (w:Int)=(w:Int):=ar (by omega)
 have w2:i64.wrap ((w:Int)+n)=((w+n:Nat):Int):=by rw [ar (by omega)];omega
 have w3:i64.wrap (((w+n:Nat):Int)+1)=((w+n+1:Nat):Int):=by rw [ar (by omega)];omega
 have w4:u64.wrap (r:Int)=(r:Int):=aM (by omega)
 have hmin:(min r IntKind.u64.bits)=r:=by
  show min _ 64=r
  omega
 have hp:((2:Int)^r)=((2^r:Nat):Int):=by simp
 simp only [w1,w2,w3,w4,Int.toNat_natCast,hmin,hp,cC] at vc
 refine vc _ ⟨by omega,by omega,by omega,by omega,by omega,fun z V'=>0<=z.1/\z.1<=n/\∃es:List Nat,z.2=aH es/\es.length=w+n+1/\bD es/\(∀c,es[z.1.toNat+w]?=some c->c<2^r)/\(∀j c,z.1.toNat+w<j->es[j]?=some c->c=0) /\
   val (es.take (z.1.toNat+w+1))=4294967296^w*val (ds.take z.1.toNat)*2^r,fun z=>n-z.1.toNat,
   ⟨(0,aH (List.replicate (w+n+1) 0)),by (try dsimp only);and_intros<;>first|exact True.intro|rfl,by (try dsimp only);omega,by (try dsimp only);omega,_,rfl,by simp,bD.rep _,?_,?_,?_⟩,?_⟩
 ·intro c hc
  rw [List.getElem?_replicate] at hc
  split at hc
  ·cases hc;exact Nat.two_pow_pos r
  ·cases hc
 ·intro j c _ hc
  rw [List.getElem?_replicate] at hc
  split at hc
  ·cases hc;rfl
  ·cases hc
 ·simp [List.take_replicate,tA]
 rintro ⟨i,vs⟩ V4 l4 ⟨hi0,hi1,es,rfl,hes,hde,hc,hz,hv⟩
 dsimp only at hi0 hi1 hc hz hv ⊢
 obtain ⟨i,rfl⟩:=Int.eq_ofNat_of_zero_le hi0
 simp only [Int.toNat_natCast] at hc hz hv
 refine ⟨by trivial,fun h3=>?_,fun h3=>?_⟩
 ·have h3:i<n:=by simpa using h3
  have x1:i64.wrap ((w:Int)+i)=((i+w:Nat):Int):=by rw [ar (by omega)];omega
  have x2:i64.wrap (((i+w:Nat):Int)+1)=((i+w+1:Nat):Int):=by rw [ar (by omega)];omega
  have x3:i64.wrap ((i:Int)+1)=((i+1:Nat):Int):=by rw [ar (by omega)];omega
  simp only [x1,x2,x3,Int.toNat_natCast,Nat.mul_one,Nat.zero_add]
  refine Jh (hx.le l4) i (by omega) ?_
  have xW:=hx.cN.get (i:=i) (by omega)
  have hce:=hc (es[i+w]'(by omega)) (List.getElem?_eq_getElem _)
  have U9:=hz (i+w+1) (es[i+w+1]'(by omega)) (by omega) (List.getElem?_eq_getElem _)
  obtain ⟨g1,g2,g3,g4⟩:=BG xW hrl hce
  have hmul:((ds[i]:Nat):Int)*((2^r:Nat):Int)=((ds[i]*2^r:Nat):Int):=by simp
  have x4:u64.wrap ((ds[i]:Nat):Int)=((ds[i]:Nat):Int):=aM (by omega)
  have x5:u64.wrap ((ds[i]*2^r:Nat):Int)=((ds[i]*2^r:Nat):Int):=aM (by omega)
  have ec:u32.wrap ((ds[i]*2^r:Nat):Int)=((ds[i]*2^r%4294967296:Nat):Int):=by rw [g_];omega
  have ed:u32.wrap (((ds[i]*2^r:Nat):Int).fdiv (2^32))=((ds[i]*2^r / 4294967296:Nat):Int):=by rw [lq,g_];omega
  simp only [x4,hmul,x5,ec,ed]
  have hd2:ds[i]*2^r / 4294967296<4294967296:=by omega
  have Fw:=Nat.mod_add_div (ds[i]*2^r) 4294967296
  have hdr:val (List.take (i+1) ds)=val (List.take i ds)+4294967296^i*ds[i]:=ax _ _ (by omega)
  have Ky:val (es.take (i+w+1))=val (es.take (i+w))+4294967296^(i+w)*es[i+w]'(by omega):=ax _ _ (by omega)
  have hlo:ds[i]*2^r%4294967296<4294967296:=Nat.mod_lt _ (by omega)
  generalize ds[i]*2^r%4294967296=lo at *
  generalize ds[i]*2^r / 4294967296=hi at *
  refine ⟨by omega,by omega,⟨by omega,by omega⟩,((es[i+w]'(by omega):Nat):Int),fa (by omega),⟨by omega,by omega⟩,by simp;omega,by omega,⟨by omega,by omega⟩,((es[i+w+1]'(by omega):Nat):Int),?_,by omega,⟨by omega,by omega⟩,by simp;omega,?_⟩
  ·rw [List.getElem?_set_ne (by omega)];exact fa (by omega)
  have MK:es[i+w]'(by omega)<4294967296:=hde.get (by omega)
  rw [CY _ _ MK hlo,g1,U9,CY _ _ (by omega) hd2,EY]
  refine ⟨(((i+1:Nat):Int),aH ((es.set (i+w) (es[i+w]'(by omega)+lo)).set (i+w+1) hi)),?_,?_,?_⟩
  ·(try dsimp only);omega
  ·(try dsimp only);and_intros<;>first|exact True.intro|rfl|rw [←bl,←bl]
  ·(try dsimp only)
   refine ⟨by omega,by omega,_,rfl,by simpa using hes,(hde.set _ _ (by omega)).set _ _ (by omega),?_,?_,?_⟩
   ·intro c hc'
    simp only [Int.toNat_natCast] at hc'
    rw [show i+1+w=i+w+1 from by omega,List.getElem?_set_self (by simp;omega)] at hc'
    cases hc';exact g3
   ·intro j c hj hc'
    simp only [Int.toNat_natCast] at hj
    rw [List.getElem?_set_ne (by omega),List.getElem?_set_ne (by omega)] at hc'
    exact hz j c (by omega) hc'
   ·simp only [Int.toNat_natCast]
    rw [show i+1+w+1=i+w+1+1 from by omega,aL _ _ _ (by simp;omega),aL _ _ _ (by omega),hdr]
    rw [Ky] at hv
    have hA:4294967296^(i+w+1)*hi=4294967296^(i+w)*(4294967296*hi):=by rw [Nat.pow_succ];grind
    rw [hA,Nat.mul_add,←Nat.add_assoc,hv,Nat.add_assoc,←Nat.mul_add,Fw,Nat.pow_add]
    grind
 ·have h3:i=n:=by simp at h3;omega
  subst h3
  intro V5 l5 bk hb
  refine (cF (RD.bu hb hde (n:=w+i+1) (c:=w+i+1) (by omega) (Nat.le_refl _)) (by omega)).mono ?_
  rintro r' V6 l6 ⟨k',rfl,h4⟩
  refine ⟨_,_,_,rfl,fun _ V7 l7=>⟨_,_,_,rfl,?_⟩⟩
  rw [aq (by omega),aq (by omega)] at hv
  rw [aO hde,hv] at h4
  exact h4.le l7
theorem kt (a:Addr)(m n:Nat):(a.add m).add n=a.add (m+n):=by
 unfold Addr.add
 by_cases h1:m=0
 ·subst h1;simp
 ·by_cases h2:n=0
  ·subst h2;simp [h1]
  ·rw [if_neg h1,if_neg h2,if_neg (by omega)]
   simp only [Nat.add_assoc]
theorem Ke {V:View}{p:OA}{n c:Nat}{ds:List Nat}(h:RD V p n c ds){k:Nat}(hk:k<n):RD V (lE p c k 1) (n-k) (c-k) (ds.drop k):=by
 have hl:=h.len
 have hc:=h.cap
 have e:lE p c k 1=ag p k:=by unfold lE;rw [if_neg (by omega),Nat.mul_one]
 rw [e]
 refine ⟨by simp;omega,by omega,fun i v hv=>?_,h.cN.drop k,fun hp=>?_⟩
 ·rw [Ff,List.getElem?_drop] at hv
  obtain ⟨ad,e1,hat⟩:=h.sl _ _ hv
  refine ⟨ad.add k,by rw [e1];rfl,?_⟩
  rw [kt];exact hat
 ·have:p.isNone=true:=by cases p<;>simp_all [ag]
  have:=h.Bn this
  omega
theorem AJ {V:View}{p:OA}{n c:Nat}{ds:List Nat}(hd:RD V p n c ds)(hm:ds.length<=1099511627776)(k:Nat)(hk:k<=35184372088832) :
  ab prog 199 #[.slice p n c,.int .i64 (k:Int)] V fun r V'=>∃p' n' c',r=.slice p' n' c'/\RN V' p' n' c' (val ds / 2^k):=by
 have hl:=hd.len
 have e2:(k:Int).tdiv 32=((k / 32:Nat):Int):=by rw [Int.tdiv_eq_ediv_of_nonneg (by omega)];omega
 have e3:(k:Int).tmod 32=((k%32:Nat):Int):=by rw [Int.tmod_eq_emod_of_nonneg (by omega)];omega
 have vc:=zW p n c k V
 have hk2:val ds / 2^k=val ds / 4294967296^(k / 32) / 2^(k%32):=by
  rw [Nat.div_div_eq_div_mul,show (4294967296:Nat)=2^32 from rfl,←Nat.pow_mul,←Nat.pow_add,Nat.div_add_mod]
 rw [hk2]
 have hwl:k / 32<=1099511627776:=by omega
 have hrl:k%32<32:=Nat.mod_lt _ (by omega)
 rw [e2,e3] at vc
 generalize k / 32=w at *
 generalize k%32=r at *
 clear e2 e3 hk2
 have w1:i64.wrap (w:Int)=(w:Int):=ar (by omega)
 have w4:u64.wrap (r:Int)=(r:Int):=aM (by omega)
 have hmin:(min r IntKind.u64.bits)=r:=by
  show min _ 64=r
  omega
 simp only [w1,w4,Int.toNat_natCast,hmin,cC] at vc
 refine vc _ ⟨by omega,fun h0 V1 l1=>?_,fun h0=>?_⟩
 ·have h0:n<=w:=by simp at h0;omega
  have hlt:=dQ hd.cN
  have:4294967296^ds.length<=4294967296^w:=Nat.pow_le_pow_right (by omega) (by omega)
  rw [Nat.div_eq_of_lt (Nat.lt_of_lt_of_le hlt this),Nat.zero_div]
  exact ⟨_,_,_,rfl,RD.nil⟩
 ·have h0:w<n:=by simp at h0;omega
  clear vc
  have hxw:val ds / 4294967296^w=val (ds.drop w):=by
   have e:val ds=val (ds.take w++ds.drop w):=by rw [List.take_append_drop]
   have hlt:=dQ (hd.cN.take w)
   rw [cR] at e
   rw [List.length_take,Nat.min_eq_left (by omega)] at e hlt
   rw [e,Nat.add_mul_div_left _ _ (Nat.pow_pos (by omega)),Nat.div_eq_of_lt hlt,Nat.zero_add]
  rw [hxw]
  have hx:=Ke hd h0
  have hlx:=hx.len
  clear hxw
  generalize lE p c w 1=sp at *
  generalize ds.drop w=xs at *
  generalize hN:n-w=N at *
  refine ⟨by omega,by omega,⟨by omega,by omega⟩,by omega,by omega,by omega,fun z V'=>0<=z.1/\z.1<=N/\∃es:List Nat,z.2=aH es/\es.length=N/\bD es /\
   val (es.take z.1.toNat)+4294967296^z.1.toNat*(val (xs.drop z.1.toNat) / 2^r)=val xs / 2^r,fun z=>N-z.1.toNat,
   ⟨(0,aH (List.replicate N 0)),by (try dsimp only);and_intros<;>first|exact True.intro|rfl,by (try dsimp only);omega,by (try dsimp only);omega,_,rfl,by simp,bD.rep _,by simp⟩,?_⟩
  rintro ⟨i,vs⟩ V4 l4 ⟨hi0,hi1,es,rfl,hes,hde,hv⟩
  dsimp only at hi0 hi1 hv ⊢
  obtain ⟨i,rfl⟩:=Int.eq_ofNat_of_zero_le hi0
  simp only [Int.toNat_natCast] at hv
  refine ⟨by trivial,fun h3=>?_,fun h3=>?_⟩
  ·have h3:i<N:=by simpa using h3
   have x3:i64.wrap ((i:Int)+1)=((i+1:Nat):Int):=by rw [ar (by omega)];omega
   simp only [x3,Int.toNat_natCast,Nat.mul_one,Nat.zero_add]
   refine Jh (hx.le l4) i (by omega) ?_
   have xW:=hx.cN.get (i:=i) (by omega)
   refine ⟨fun z V'=>z=((xs[i]+4294967296*(xs[i+1]?).getD 0:Nat):Int),⟨fun h4=>?_,fun h4=>?_⟩,?_⟩
   ·have h4:i+1<N:=by simp at h4;omega
    have hdy:=hx.cN.get (i:=i+1) (by omega)
    have e4:aR .or .u64 (u64.wrap ((xs[i]:Nat):Int)) (u64.wrap (u64.wrap ((xs[i+1]:Nat):Int)*2^32))=((xs[i]+4294967296*(xs[i+1]?).getD 0:Nat):Int):=by
     have e3:((2:Int)^32)=4294967296:=by decide
     rw [e3,aM (by omega),aM (x:=((xs[i+1]:Nat):Int)) (by omega),aM (by omega),G5 _ _ hdy xW,List.getElem?_eq_getElem (by omega),Option.getD_some]
     omega
    refine Jh (hx.le l4) (i+1) (by omega) ⟨by omega,((xs[i]+4294967296*(xs[i+1]?).getD 0:Nat):Int),?_,rfl⟩
    (try dsimp only);and_intros<;>first|exact True.intro|exact e4|rfl
   ·have h4:N<=i+1:=by simp at h4;omega
    have e4:u64.wrap ((xs[i]:Nat):Int)=((xs[i]+4294967296*(xs[i+1]?).getD 0:Nat):Int):=by
     rw [aM (by omega),List.getElem?_eq_none (by omega)];simp
    refine ⟨((xs[i]+4294967296*(xs[i+1]?).getD 0:Nat):Int),?_,rfl⟩
    (try dsimp only);and_intros<;>first|exact True.intro|exact e4|rfl
   rintro _ V5 l5 rfl
   have hst:=BH (Y:=val (xs.drop (i+1))) xW hrl
   rw [pZ hx.cN] at hst
   have hdrop:val (xs.drop i)=xs[i]+4294967296*val (xs.drop (i+1)):=by
    rw [List.drop_eq_getElem_cons (by omega),bg]
   rw [hdrop,hst] at hv
   rw [eX,g_]
   obtain ⟨D,hD⟩:∃D,D=(xs[i]+4294967296*(xs[i+1]?).getD 0) / 2^r%4294967296:=⟨_,rfl⟩
   have eD:(((xs[i]+4294967296*(xs[i+1]?).getD 0) / 2^r:Nat):Int)%4294967296=(D:Int):=by rw [hD];omega
   rw [eD]
   rw [←hD] at hv
   refine ⟨by trivial,by omega,⟨by omega,by omega⟩,by simp;omega,(((i+1:Nat):Int),aH (es.set i D)),?_,?_,?_⟩
   ·(try dsimp only);omega
   ·(try dsimp only);and_intros<;>first|exact True.intro|rfl|rw [←bl]
   ·(try dsimp only)
    refine ⟨by omega,by omega,_,rfl,by simpa using hes,hde.set _ _ (by omega),?_⟩
    simp only [Int.toNat_natCast]
    rw [aL _ _ _ (by omega),←hv,Nat.pow_succ,Nat.mul_add,Nat.add_assoc,Nat.mul_assoc]
  ·have h3:i=N:=by simp at h3;omega
   subst h3
   intro V5 l5 bk hb
   refine (cF (RD.bu hb hde (n:=i) (c:=i) (by omega) (Nat.le_refl _)) (by omega)).mono ?_
   rintro r' V6 l6 ⟨k',rfl,h4⟩
   refine ⟨_,_,_,rfl,fun _ V7 l7=>⟨_,_,_,rfl,?_⟩⟩
   rw [aq (by omega),List.drop_of_length_le (l:=xs) (i:=i) (by omega)] at hv
   have hv:val es=val xs / 2^r:=by
    rw [←hv,dH,Nat.zero_div,Nat.mul_zero,Nat.add_zero]
   rw [aO hde,hv] at h4
   exact h4.le l7
end Go.Proofs.Tryz
namespace Go.eM
theorem rP {ds:List Nat}(hd:bD ds)(w:Nat)(hw:w<=ds.length):val ds / 4294967296^w=val (ds.drop w):=by
 have e:val ds=val (ds.take w++ds.drop w):=by rw [List.take_append_drop]
 have hlt:=dQ (hd.take w)
 rw [cR] at e
 rw [List.length_take,Nat.min_eq_left (by omega)] at e hlt
 rw [e,Nat.add_mul_div_left _ _ (Nat.pow_pos (by omega)),Nat.div_eq_of_lt hlt,Nat.zero_add]
theorem Nq {R n:Nat}(h:(ai R).length=n+2):R / 4294967296^n=(ai R)[n+1]'(by omega)*4294967296+(ai R)[n]'(by omega):=by
 have:=rP (aI R) n (by omega)
 rw [af] at this
 rw [this,List.drop_eq_getElem_cons (by omega),List.drop_eq_getElem_cons (i:=n+1) (by omega),List.drop_of_length_le (by omega)]
 simp only [bg,dH]
 omega
theorem JZ {R n:Nat}(h:(ai R).length=n+1):R / 4294967296^n=(ai R)[n]'(by omega):=by
 have:=rP (aI R) n (by omega)
 rw [af] at this
 rw [this,List.drop_eq_getElem_cons (by omega),List.drop_of_length_le (by omega)]
 simp only [bg,dH]
 omega
theorem Np {R n:Nat}(h:(ai R).length<=n):R / 4294967296^n=0:=Nat.div_eq_of_lt (aJ.1 h)
theorem Df {V n:Nat}(h:(ai V).length=n+1):(ai V)[n]'(by omega)*4294967296^n<=V:=by
 have:=JZ h
 rw [←this]
 exact Nat.div_mul_le_self _ _
theorem Gf {R V top P W:Nat}(hV:top*P<=V)(ht:0<top)(hP:0<P)(hW:0<W):R / (V*W)<=R / (P*W) / top:=by
 rw [Nat.le_div_iff_mul_le ht,Nat.le_div_iff_mul_le (Nat.mul_pos hP hW)]
 have h1:R / (V*W)*(V*W)<=R:=Nat.div_mul_le_self _ _
 have h2:R / (V*W)*(top*P*W)<=R / (V*W)*(V*W):=Nat.mul_le_mul_left _ (Nat.mul_le_mul_right _ hV)
 have h3:R / (V*W)*top*(P*W)=R / (V*W)*(top*P*W):=by
  generalize R / (V*W)=q
  rw [Nat.mul_assoc q top,←Nat.mul_assoc top P W]
 omega
theorem EU {A V W D R q R':Nat}(h:A=V*(W*4294967296*D)+R)(hq:R=V*q*W+R'):A=V*(W*(q+4294967296*D))+R':=by
 subst hq;rw [h];grind
theorem GJ {x y s Q R:Nat}(h:x*2^s=y*2^s*Q+R)(hR:R<y*2^s):Q=x / y/\R / 2^s=x%y:=by
 have hp:=Nat.two_pow_pos s
 have hy:0<y:=by
  rcases Nat.eq_zero_or_pos y with e|e
  ·subst e;simp at hR
  ·exact e
 have h1:y*2^s*Q=(y*Q)*2^s:=by grind
 rw [h1] at h
 have h2:y*Q<=x:=by
  rcases Nat.lt_or_ge x (y*Q) with hl|hl
  ·have:(x+1)*2^s<=y*Q*2^s:=Nat.mul_le_mul_right _ hl
   rw [Nat.add_mul] at this
   omega
  ·exact hl
 obtain ⟨d,rfl⟩:=Nat.exists_eq_add_of_le h2
 rw [Nat.add_mul] at h
 have h3:R=d*2^s:=by omega
 subst h3
 have h4:d<y:=Nat.lt_of_mul_lt_mul_right hR
 rw [Nat.mul_div_cancel _ hp]
 constructor
 ·rw [Nat.mul_add_div hy,Nat.div_eq_of_lt h4,Nat.add_zero]
 ·rw [Nat.mul_add_mod,Nat.mod_eq_of_lt h4]
theorem J6 (j:Nat):2^(32*j)=4294967296^j:=by rw [Nat.pow_mul]
theorem CG {R V W g:Nat}(LN:0<V*W)(h:V*g*W<=R)(hq:R / (V*W)<=g):g=R / (V*W):=by
 have:g<=R / (V*W):=by
  rw [Nat.le_div_iff_mul_le LN]
  have:g*(V*W)=V*g*W:=by grind
  omega
 omega
theorem Gg {R V W g:Nat}(LN:0<V*W)(h:R<V*g*W):R / (V*W)<g:=by
 rw [Nat.div_lt_iff_lt_mul LN]
 have:g*(V*W)=V*g*W:=by grind
 omega
theorem C_ {R V W:Nat}:R=V*(R / (V*W))*W+R%(V*W):=by
 have:=Nat.div_add_mod R (V*W)
 have e:V*(R / (V*W))*W=V*W*(R / (V*W)):=by
  generalize R / (V*W)=q
  grind
 omega
theorem gX {a b:Nat}:(ai (a*b)).length<=(ai a).length+(ai b).length:=by
 rw [aJ,Nat.pow_add]
 have h1:a<4294967296^(ai a).length:=aJ.1 (Nat.le_refl _)
 have h2:b<4294967296^(ai b).length:=aJ.1 (Nat.le_refl _)
 exact Nat.mul_lt_mul'' h1 h2
theorem yZ (j:Nat):(ai (4294967296^j)).length<=j+1:=by
 rw [aJ]
 exact Nat.pow_lt_pow_right (by omega) (by omega)
end Go.eM
namespace Go.Proofs.Tryz
open Go.bz Go.eM
theorem VC {V:View}{p:OA}{n c:Nat}{ds:List Nat}(h:RD V p n c ds){i:Int}{K:Int->Prop}(j d:Nat)(hj:i=j)(hn:ds[j]?=some d)
  (hK:K (d:Int)):(p.isSome=true)/\(0<=i/\i<(n:Int))/\∃x:Int,(∃a,ag p (i.toNat*1)=some a/\V.at a (.int .u32 x))/\K x:=by
 have hl:j<ds.length:=by
  rcases Nat.lt_or_ge j ds.length with h|h
  ·exact h
  ·rw [List.getElem?_eq_none h] at hn;cases hn
 refine h.rd j hj hl ?_
 rw [List.getElem?_eq_getElem hl] at hn
 cases hn;exact hK
theorem Fc {W n:Nat}(h:(ai W).length=n+1):∃top,(ai W)[n]?=some top/\top≠0/\top<4294967296/\top*4294967296^n<=W:=by
 refine ⟨(ai W)[n]'(by omega),List.getElem?_eq_getElem _,?_,(aI W).get _,Df h⟩
 have:=(gi W).last (by omega)
 simpa [h] using this
structure xj (A V L:Nat) (R:Nat) (j:Nat) (es:List Nat):Prop where
 len:es.length=L
 cN:bD es
 lt:R<V*4294967296^j
 eq:A=V*(4294967296^j*val (es.drop j))+R
theorem xj.step {A V L R j:Nat}{es:List Nat}(h:xj A V L R (j+1) es)(hj:j<L)(hV:0<V) :
  R / (V*4294967296^j)<4294967296/\xj A V L (R-V*(R / (V*4294967296^j))*4294967296^j) j (es.set j (R / (V*4294967296^j))):=by
 have hW:0<4294967296^j:=Nat.pow_pos (by omega)
 have LN:0<V*4294967296^j:=Nat.mul_pos hV hW
 have hq:R / (V*4294967296^j)<4294967296:=by
  rw [Nat.div_lt_iff_lt_mul LN]
  have:=h.lt
  rw [Nat.pow_succ] at this
  have e:4294967296*(V*4294967296^j)=V*(4294967296^j*4294967296):=by
   generalize 4294967296^j=w
   grind
  omega
 have hs:=C_ (R:=R) (V:=V) (W:=4294967296^j)
 have hm:=Nat.mod_lt R LN
 have he:R-V*(R / (V*4294967296^j))*4294967296^j=R%(V*4294967296^j):=by omega
 refine ⟨hq,⟨by simpa using h.len,h.cN.set _ _ hq,by rw [he];exact hm,?_⟩⟩
 have hl:=h.len
 rw [List.drop_eq_getElem_cons (by simp;omega),List.getElem_set_self,List.drop_set_of_lt (by omega),bg,he]
 exact EU (by have:=h.eq;rwa [Nat.pow_succ] at this) hs
theorem Ht {R V j:Nat}(h:R<V*4294967296^(j+1)):(ai R).length<=(ai V).length+j+1:=by
 have h1:V*4294967296^(j+1)<=4294967296^(ai V).length*4294967296^(j+1):=Nat.mul_le_mul_right _ (Nat.le_of_lt (aJ.1 (Nat.le_refl _)))
 rw [←Nat.pow_add] at h1
 have:=aJ.2 (Nat.lt_of_lt_of_le h h1)
 omega
theorem I1 {R n:Nat}(h:(ai R).length<=n+2):R / 4294967296^n<18446744073709551616:=by
 rw [Nat.div_lt_iff_lt_mul (Nat.pow_pos (by omega))]
 have:=aJ.1 h
 rw [Nat.pow_succ,Nat.pow_succ] at this
 have e:4294967296^n*4294967296*4294967296=18446744073709551616*4294967296^n:=by
  generalize 4294967296^n=w
  omega
 omega
theorem Ct {V:View}{p q:OA}{n c m e:Nat}{x y:Nat}(hx:RN V p n c x)(hy:RN V q m e y)(hm:(ai x).length<=274877906944)(hy0:0<y)(hle:(ai y).length<=(ai x).length) :
  ab prog 162 #[.slice p n c,.slice q m e] V fun r V'=>∃p1 n1 c1 p2 n2 c2,r=.tuple #[.slice p1 n1 c1,.slice p2 n2 c2]/\RN V' p1 n1 c1 (x / y)/\RN V' p2 n2 c2 (x%y):=by
 have hlx:=hx.len
 have Am:=hy.len
 have hm0:0<m:=by
  rcases Nat.eq_zero_or_pos m with h|h
  ·have:=aZ.1 (List.length_eq_zero_iff.1 (Am▸h));omega
  ·exact h
 have vc:=B7 p n c q m e V
 have w1:i64.wrap ((m:Int)-1)=((m-1:Nat):Int):=by rw [ar (by omega)];omega
 have w2:i64.wrap ((n:Int)-m)=((n-m:Nat):Int):=by rw [ar (by omega)];omega
 have w3:i64.wrap (((n-m:Nat):Int)+1)=((n-m+1:Nat):Int):=by rw [ar (by omega)];omega
 have w4:i64.wrap (((n-m+1:Nat):Int)-1)=((n-m:Nat):Int):=by rw [ar (by omega)];omega
 simp only [w1,w2,w3,Int.toNat_natCast,w4,cC] at vc
 obtain ⟨L,hL⟩:∃L,L=n-m+1:=⟨_,rfl⟩
 rw [←hL] at vc
 refine vc _ ?_
 clear vc
 refine hy.rd (m-1) rfl (by omega) fun V1 l1=>(fy _ ((aI y).get (by omega))).mono ?_
 rintro r V2 l2 rfl
 have hbl:bf ((ai y)[m-1]'(by omega))<=32:=fP.2 (by have:=(aI y).get (i:=m-1) (by omega);omega)
 obtain ⟨s,hs⟩:∃s:Nat,(32:Int)-(bf ((ai y)[m-1]'(by omega)):Int)=s:=⟨32-bf ((ai y)[m-1]'(by omega)),by omega⟩
 have IM:s<=32:=by omega
 rw [hs]
 clear hs hbl
 refine ⟨_,rfl,fun V3 l3=>(kE (hy.le (l1.trans (l2.trans l3))) (by omega) s (by omega)).mono ?_⟩
 rintro r V4 l4 ⟨vp,vn,vc,rfl,hv⟩
 rw [af] at hv
 refine ⟨_,_,_,rfl,fun V5 l5=>(kE (hx.le (l1.trans (l2.trans (l3.trans (l4.trans l5))))) (by omega) s (by omega)).mono ?_⟩
 rintro r V6 l6 ⟨rp,rn,rc,rfl,hr⟩
 rw [af] at hr
 replace hv:=hv.le (l5.trans l6)
 have hlv:=hv.len
 have hsp:=Nat.two_pow_pos s
 have hs2:2^s<=4294967296:=Nat.pow_le_pow_right (n:=2) (by omega) IM
 have SQ:0<y*2^s:=Nat.mul_pos hy0 hsp
 have hsl:(ai (2^s)).length<=2:=aJ.2 (by omega)
 have hvl:vn<=m+2:=by have:=gX (a:=y) (b:=2^s);omega
 have WH:0<vn:=by
  rcases Nat.eq_zero_or_pos vn with h|h
  ·have:=aZ.1 (List.length_eq_zero_iff.1 (hlv▸h));omega
  ·exact h
 have hinit:xj (x*2^s) (y*2^s) L (x*2^s) L (List.replicate L 0):=by
  refine ⟨by simp,bD.rep _,?_,by simp⟩
  have h1:x<4294967296^n:=by rw [hlx];exact aJ.1 (Nat.le_refl _)
  have h2:4294967296^(m-1)<=y:=by rw [←rB];omega
  have h3:4294967296^(m-1)*4294967296^L<=y*4294967296^L:=Nat.mul_le_mul_right _ h2
  rw [←Nat.pow_add,show m-1+L=n from by omega] at h3
  have h4:x*2^s<y*4294967296^L*2^s:=Nat.mul_lt_mul_of_pos_right (by omega) hsp
  have h5:y*4294967296^L*2^s=y*2^s*4294967296^L:=by
   generalize 4294967296^L=w
   grind
  omega
 have hend:∀{Q R:Nat},x*2^s=y*2^s*Q+R->R<y*2^s->Q=x / y/\R / 2^s=x%y:=fun h1 h2=>GJ h1 h2
 generalize x*2^s=A at *
 generalize y*2^s=W at *
 have w5:i64.wrap ((vn:Int)-1)=((vn-1:Nat):Int):=by rw [ar (by omega)];omega
 simp only [w5,Int.toNat_natCast]
 refine ⟨_,_,_,rfl,?_⟩
 obtain ⟨top,U3,S0,S1,MX⟩:=Fc (W:=W) (n:=vn-1) (by omega)
 refine VC hv (vn-1) top rfl U3 ?_
 have w6:u64.wrap (top:Int)=top:=aM (by omega)
 simp only [w6]
 refine ⟨by omega,by omega,by omega,fun z V'=>∃R:Nat,RN V' z.1 z.2.1 z.2.2.1 R/\-1<=z.2.2.2.1/\z.2.2.2.1<L/\∃es:List Nat,z.2.2.2.2=aH es/\xj A W L R (z.2.2.2.1+1).toNat es,fun z=>(z.2.2.2.1+1).toNat,
  ⟨(rp,rn,rc,((n-m:Nat):Int),aH (List.replicate L 0)),by (try dsimp only);and_intros<;>first|exact True.intro|rfl,A,hr,by (try dsimp only);omega,by (try dsimp only);omega,_,rfl,?_⟩,?_⟩
 ·(try dsimp only)
  rw [show (((n-m:Nat):Int)+1).toNat=L from by omega]
  exact hinit
 rintro ⟨rp,rn,rc,j,vs⟩ V7 l7 ⟨R,hR,hj0,hj1,es,rfl,hI⟩
 dsimp only at hR hj0 hj1 hI ⊢
 have hlr:=hR.len
 refine ⟨by trivial,fun h3=>?_,fun h3=>?_⟩
 ·have h3:0<=j:=by simpa using h3
  obtain ⟨j,rfl⟩:=Int.eq_ofNat_of_zero_le h3
  have hI:xj A W L R (j+1) es:=hI
  have UR:j<L:=by omega
  have hrl:=Ht hI.lt
  obtain ⟨hq,hI'⟩:=hI.step UR SQ
  have w7:i64.wrap ((vn:Int)+j)=((vn-1+j+1:Nat):Int):=by rw [ar (by omega)];omega
  have w8:i64.wrap (((vn-1+j+1:Nat):Int)-1)=((vn-1+j:Nat):Int):=by rw [ar (by omega)];omega
  have w9:i64.wrap ((32:Int)*j)=((32*j:Nat):Int):=by rw [ar (by omega)];omega
  have RJ:i64.wrap ((j:Int)-1)=(j:Int)-1:=ar (by omega)
  simp only [w7,w8,w9,RJ,Int.toNat_natCast]
  have hrl:(ai R).length<=vn-1+j+2:=by omega
  have hld:=I1 hrl
  have hP:0<4294967296^(vn-1):=Nat.pow_pos (by omega)
  have hW:0<4294967296^j:=Nat.pow_pos (by omega)
  have hg:=Gf (R:=R) MX (by omega) hP hW
  rw [←Nat.pow_add] at hg
  have l2:=@Nq R (vn-1+j)
  have l1:=@JZ R (vn-1+j)
  have l0:=@Np R (vn-1+j)
  have hlast:∀i (hi:i<(ai R).length),(ai R)[i]<4294967296:=fun i hi=>(aI R).get hi
  generalize R / 4294967296^(vn-1+j)=lead at *
  refine ⟨fun z V'=>z=(lead:Int),⟨fun h4=>?_,fun h4=>?_⟩,?_⟩
  ·have h4:vn-1+j+1<rn:=by simp at h4;omega
   refine (hR.rd (vn-1+j+1) rfl (by omega) ⟨by omega,hR.rd (vn-1+j) rfl (by omega) ⟨(lead:Int),?_,rfl⟩⟩)
   have e4:aR .or .u64 (u64.wrap (u64.wrap (((ai R)[vn-1+j+1]'(by omega):Nat):Int)*2^32)) (u64.wrap (((ai R)[vn-1+j]'(by omega):Nat):Int))=(lead:Int):=by
    have e3:((2:Int)^32)=4294967296:=by decide
    have g1:=hlast (vn-1+j+1) (by omega)
    have g2:=hlast (vn-1+j) (by omega)
    have:=l2 (by omega)
    rw [e3,aM (x:=(((ai R)[vn-1+j+1]'(by omega):Nat):Int)) (by omega),aM (x:=(((ai R)[vn-1+j]'(by omega):Nat):Int)) (by omega),aM (by omega),Bp _ _ g1 g2,this]
    omega
   (try dsimp only);and_intros<;>first|exact True.intro|exact e4|rfl
  ·have h4:rn<=vn-1+j+1:=by simp at h4;omega
   refine ⟨fun z V'=>z=(lead:Int),⟨fun h5=>?_,fun h5=>?_⟩,?_⟩
   ·have h5:vn-1+j<rn:=by simp at h5;omega
    refine hR.rd (vn-1+j) rfl (by omega) ⟨(lead:Int),?_,rfl⟩
    have e4:u64.wrap (((ai R)[vn-1+j]'(by omega):Nat):Int)=(lead:Int):=by
     have g2:=hlast (vn-1+j) (by omega)
     rw [aM (by omega),l1 (by omega)]
    (try dsimp only);and_intros<;>first|exact True.intro|exact e4|rfl
   ·have h5:rn<=vn-1+j:=by simp at h5;omega
    have e4:(0:Int)=(lead:Int):=by rw [l0 (by omega)];rfl
    refine ⟨(lead:Int),?_,rfl⟩
    (try dsimp only);and_intros<;>first|exact True.intro|exact e4|rfl
   ·rintro _ V8 l8 rfl
    refine ⟨by trivial,(lead:Int),?_,rfl⟩
    (try dsimp only);and_intros<;>first|exact True.intro|rfl
  rintro _ V9 l9 rfl
  clear l2 l1 l0 hlast
  have Mz:(lead:Int).tdiv (top:Int)=((lead / top:Nat):Int):=by rw [Int.tdiv_eq_ediv_of_nonneg (by omega)];omega
  have hlt:lead / top<=lead:=Nat.div_le_self _ _
  rw [Mz]
  generalize lead / top=lt at *
  obtain ⟨g0,hg0,KA,Qc⟩:∃g0:Nat,bO (u64.wrap (lt:Int)) 4294967295=(g0:Int)/\g0<4294967296/\R / (W*4294967296^j)<=g0:=by
   rw [aM (by omega)]
   unfold bO
   split
   ·exact ⟨4294967295,rfl,by omega,by omega⟩
   ·exact ⟨lt,rfl,by omega,hg⟩
  rw [hg0]
  clear hg0 Mz hlt hg hld
  have SR:0<W*4294967296^j:=Nat.mul_pos SQ hW
  have hsz:∀g:Nat,g<4294967296->(ai g).length<=1:=fun g hg=>aJ.2 (by omega)
  refine ⟨by trivial,by omega,fun gQ l10=>(dp g0 (by omega)).mono ?_⟩
  rintro r jw bQ ⟨gp,gn,gc,rfl,h11⟩
  refine ⟨_,_,_,rfl,fun kv cp=>(cE (hv.le (l7.trans (l9.trans (l10.trans (bQ.trans cp))))) (h11.le cp) (by have:=hsz g0 KA;omega)).mono ?_⟩
  rintro r lA bW ⟨pp,pn,pc,rfl,OV⟩
  rw [af,af] at OV
  have hpl:=fun g=>gX (a:=W) (b:=g)
  refine ⟨_,_,_,rfl,fun qk dK=>(kE (OV.le dK) (by have:=hsz g0 KA;have:=hpl g0;omega) (32*j) (by omega)).mono ?_⟩
  rintro r oM dZ ⟨tp,tn,tc,rfl,SI⟩
  rw [af,J6] at SI
  have MF:=hR.le (l9.trans (l10.trans (bQ.trans (cp.trans (bW.trans (dK.trans dZ))))))
  have Qt:=hv.le (l7.trans (l9.trans (l10.trans (bQ.trans (cp.trans (bW.trans (dK.trans dZ)))))))
  refine ⟨_,_,_,rfl,fun z V'=>∃g:Nat,z.1=g/\g<4294967296/\R / (W*4294967296^j)<=g/\RN V' z.2.1 z.2.2.1 z.2.2.2 (W*g*4294967296^j),fun z=>z.1.toNat,
   ⟨((g0:Int),tp,tn,tc),by (try dsimp only);and_intros<;>first|exact True.intro|rfl,g0,rfl,KA,Qc,SI⟩,?_⟩
  rintro ⟨_,tp,tn,tc⟩ oN c_ ⟨g,rfl,hgb,UQ,ht⟩
  dsimp only at ht ⊢
  have htl:(ai (W*g*4294967296^j)).length<=1099511627776:=by
   have h1:=gX (a:=W*g) (b:=4294967296^j)
   have h2:=yZ j
   have h3:=hpl g
   have h4:=hsz g hgb
   omega
  refine ⟨by trivial,fun qi cQ=>(fE (ht.le cQ) (MF.le (c_.trans cQ)) htl (by omega)).mono ?_⟩
  rintro r tE eI rfl
  refine ⟨_,rfl,fun h6=>?_,fun h6=>?_⟩
  ·have h6:R<W*g*4294967296^j:=by
    have h6:0<jB (W*g*4294967296^j) R:=by simpa using h6
    unfold jB at h6
    split at h6
    ·omega
    ·split at h6
     ·assumption
     ·omega
   have hgo:=Gg SR h6
   have hg1:0<g:=Nat.lt_of_le_of_lt (Nat.zero_le _) hgo
   have e1:u64.wrap ((g:Int)-1)=((g-1:Nat):Int):=by rw [aM (by omega)];omega
   simp only [e1]
   refine fun xk eA=>(dp (g-1) (by omega)).mono ?_
   rintro r Ak jC ⟨gp,gn,gc,rfl,h20⟩
   refine ⟨_,_,_,rfl,fun sR dL=>(cE (Qt.le (c_.trans (cQ.trans (eI.trans (eA.trans (jC.trans dL)))))) (h20.le dL) (by have:=hsz (g-1) (by omega);omega)).mono ?_⟩
   rintro r vY kr ⟨pp,pn,pc,rfl,h22⟩
   rw [af,af] at h22
   refine ⟨_,_,_,rfl,fun vZ il=>(kE (h22.le il) (by have:=hsz (g-1) (by omega);have:=hpl (g-1);omega) (32*j) (by omega)).mono ?_⟩
   rintro r Cj sW ⟨tp,tn,tc,rfl,OW⟩
   rw [af,J6] at OW
   refine ⟨_,_,_,rfl,(((g-1:Nat):Int),tp,tn,tc),?_,by (try dsimp only);and_intros<;>first|exact True.intro|rfl,g-1,rfl,by omega,by omega,OW⟩
   (try dsimp only);omega
  ·have h6:W*g*4294967296^j<=R:=by
    have h6:¬0<jB (W*g*4294967296^j) R:=by simpa using h6
    unfold jB at h6
    split at h6
    ·omega
    ·split at h6
     ·omega
     ·omega
   have hstop:=CG SR h6 UQ
   rw [←hstop] at hI'
   have hes:=hI.len
   refine ⟨⟨by omega,by omega⟩,by simp;omega,fun DH jh=>(nV (MF.le (c_.trans (cQ.trans (eI.trans jh)))) (ht.le (cQ.trans (eI.trans jh))) (by omega) (aC h6) (by rw [af,af];exact h6)).mono ?_⟩
   rintro r HU sX ⟨np,nn,nc,rfl,OX⟩
   rw [af,af] at OX
   have e1:u32.wrap (g:Int)=(g:Int):=pY (by omega)
   have e2:(aH es).set (0+j*1) (.int .u32 (g:Int))=aH (es.set j g):=by rw [←bl];simp
   simp only [e1]
   refine ⟨_,_,_,rfl,(np,nn,nc,(j:Int)-1,aH (es.set j g)),?_,by (try dsimp only);and_intros<;>first|exact True.intro|rfl|exact e2|(rw [←bl];simp),R-W*g*4294967296^j,OX,by (try dsimp only);omega,by (try dsimp only);omega,_,rfl,?_⟩
   ·(try dsimp only);omega
   ·(try dsimp only)
    rw [show ((j:Int)-1+1).toNat=j from by omega]
    exact hI'
 ·have h3:j=-1:=by simp at h3;omega
  subst h3
  have Ql:(ai R).length<=1099511627776:=by
   have h6:=hI.lt
   have h6:R<W:=by simpa using h6
   have:=aC (Nat.le_of_lt h6)
   omega
  intro V8 l8 bk hb
  refine (cF (RD.bu hb hI.cN (n:=L) (c:=L) hI.len.symm (Nat.le_refl _)) (by have:=hI.len;omega)).mono ?_
  rintro r V9 l9 ⟨k,rfl,h4⟩
  refine ⟨_,_,_,rfl,fun _ gQ l10=>(AJ (hR.le (l8.trans (l9.trans l10))) Ql s (by omega)).mono ?_⟩
  rintro r jw bQ ⟨p2,n2,c2,rfl,h5⟩
  rw [af] at h5
  refine ⟨_,_,_,rfl,fun kv cp=>⟨_,_,_,_,_,_,rfl,?_,?_⟩⟩
  ·have h6:=hI.lt
   have h7:=hI.eq
   have h6:R<W:=by simpa using h6
   have h7:A=W*val es+R:=by simpa using h7
   obtain ⟨g1,g2⟩:=hend h7 h6
   rw [aO hI.cN,g1] at h4
   exact h4.le (l10.trans (bQ.trans cp))
  ·have h6:=hI.lt
   have h7:=hI.eq
   have h6:R<W:=by simpa using h6
   have h7:A=W*val es+R:=by simpa using h7
   obtain ⟨g1,g2⟩:=hend h7 h6
   rw [g2] at h5
   exact h5.le cp
theorem qg {x:Nat}(h:(ai x).length<=2):x<18446744073709551616:=by
 have:=aJ.1 h
 omega
theorem copied {V:View}{b n c:Nat}{ds:List Nat}{sp:List Value}{ty:TypeId}(hd:bD ds)(hn:n=ds.length)(hc:n<=c)(hb:V.bu b (.cells (aH ds++sp).toArray ty (0,0))):RD V (some ⟨b,0,none⟩) n c ds:=by
 refine ⟨hn,hc,fun i v hv=>⟨_,rfl,?_⟩,hd,fun e=>nomatch e⟩
 rw [add_zero']
 refine bU hb ?_
 rw [List.getElem?_append_left]
 ·exact hv
 ·rcases Nat.lt_or_ge i (aH ds).length with e|e
  ·exact e
  ·rw [List.getElem?_eq_none e] at hv;cases hv
theorem cx {V:View}{p q:OA}{n c m e:Nat}{x y:Nat}(hx:RN V p n c x)(hy:RN V q m e y)(hm:(ai x).length<=274877906944)(hm':(ai y).length<=274877906944)(hy0:0<y) :
  ab prog 114 #[.slice p n c,.slice q m e] V fun r V'=>∃p1 n1 c1 p2 n2 c2,r=.tuple #[.slice p1 n1 c1,.slice p2 n2 c2]/\RN V' p1 n1 c1 (x / y)/\RN V' p2 n2 c2 (x%y):=by
 have hlx:=hx.len
 have Am:=hy.len
 have hm0:0<m:=by
  rcases Nat.eq_zero_or_pos m with h|h
  ·have:=aZ.1 (List.length_eq_zero_iff.1 (Am▸h));omega
  ·exact h
 refine wZ p n c q m e V _ fun V1 l1=>(kH (hx.le l1) (by omega)).mono ?_
 rintro r V2 l2 rfl
 rw [af]
 refine ⟨_,_,rfl,fun z V'=>True,⟨fun h0=>?_,fun h0=>⟨(),by (try dsimp only);and_intros<;>first|exact True.intro|rfl,trivial⟩⟩,?_⟩
 ·have h0:n<=2:=by simpa using h0
  refine fun V3 l3=>(kH (hy.le (l1.trans (l2.trans l3))) (by omega)).mono ?_
  rintro r V4 l4 rfl
  rw [af]
  refine ⟨_,_,rfl,fun h1=>?_,fun h1=>⟨(),by (try dsimp only);and_intros<;>first|exact True.intro|rfl,trivial⟩⟩
  have h1:m<=2:=by simpa using h1
  have hxw:=qg (x:=x) (by omega)
  have S5:=qg (x:=y) (by omega)
  rw [if_pos h0,if_pos h1]
  have hq:x / y<=x:=Nat.div_le_self _ _
  have hr:x%y<y:=Nat.mod_lt _ hy0
  have e1:((x:Nat):Int).tdiv (y:Int)=((x / y:Nat):Int):=by rw [Int.tdiv_eq_ediv_of_nonneg (by omega)];omega
  have e2:((x:Nat):Int).tmod (y:Int)=((x%y:Nat):Int):=by rw [Int.tmod_eq_emod_of_nonneg (by omega)];omega
  rw [e1,e2]
  generalize x / y=qq at *
  generalize x%y=rr at *
  have e3:u64.wrap (qq:Int)=qq:=aM (by omega)
  rw [e3]
  refine ⟨by omega,by omega,fun V5 l5=>(dp qq (by omega)).mono ?_⟩
  rintro r V6 l6 ⟨p1,n1,c1,rfl,g1⟩
  refine ⟨_,_,_,rfl,fun V7 l7=>(dp rr (by omega)).mono ?_⟩
  rintro r V8 l8 ⟨p2,n2,c2,rfl,g2⟩
  exact ⟨_,_,_,rfl,fun V9 l9=>⟨_,_,_,_,_,_,rfl,g1.le (l7.trans (l8.trans l9)),g2.le l9⟩⟩
 rintro _ gQ l10 _
 replace hx:=hx.le (l1.trans (l2.trans l10))
 replace hy:=hy.le (l1.trans (l2.trans l10))
 refine ⟨by trivial,fun jw bQ=>(fE (hx.le bQ) (hy.le bQ) (by omega) (by omega)).mono ?_⟩
 rintro r kv cp rfl
 replace hx:=hx.le (bQ.trans cp)
 replace hy:=hy.le (bQ.trans cp)
 refine ⟨_,rfl,fun h0=>⟨aH (ai x),hx.sl,by simp [hlx],by omega,by omega,by simp,by simp [hlx],?_,?_⟩,fun h0=>⟨fun h1=>?_,fun h1=>?_⟩⟩
 ·intro v hv
  simp only [aH,List.mem_map] at hv
  obtain ⟨d,-,rfl⟩:=hv
  rfl
 ·have h0:x<y:=by simpa [eV] using h0
  intro bk J sp c' h1 h2 V1 l1 b hb
  rw [Nat.div_eq_of_lt h0,Nat.mod_eq_of_lt h0]
  refine ⟨_,_,_,_,_,_,rfl,RD.nil,?_⟩
  simp only [Nat.zero_add,Nat.zero_mul,List.take_zero,List.nil_append] at hb h1 ⊢
  exact copied (aI x) hlx h1 hb
 ·have h0:y<=x:=by simpa [←Int.not_lt,eV] using h0
  have h1:m=1:=by simp at h1;omega
  subst h1
  obtain ⟨d,hd⟩:=kO (ds:=ai y) (by omega)
  have hdy:d=y:=by have:=af y;rw [hd] at this;simpa using this
  subst hdy
  have hdl:d<4294967296:=by have:=aI d;rw [hd] at this;exact (bD.cons.1 this).1
  try unfold RN at hy
  rw [hd] at hy
  have hn0:0<n:=by have:=aC h0;omega
  have w1:i64.wrap ((n:Int)-1)=(n:Int)-1:=ar (by omega)
  simp only [w1,Int.toNat_natCast,cC]
  have xW:=aI x
  have M1:=af x
  try unfold RN at hx
  clear hd
  rw [←M1]
  clear M1 h0
  generalize ai x=xs at *
  refine ⟨by omega,by omega,by omega,fun z V'=>0<=z.1/\z.1<d/\-1<=z.2.1/\z.2.1<n/\∃es:List Nat,z.2.2=aH es/\es.length=n/\bD es /\
   val (xs.drop (z.2.1+1).toNat)=d*val (es.drop (z.2.1+1).toNat)+z.1.toNat,fun z=>(z.2.1+1).toNat,
   ⟨(0,(n:Int)-1,aH (List.replicate n 0)),by (try dsimp only);and_intros<;>first|exact True.intro|rfl,by (try dsimp only);omega,by (try dsimp only);omega,by (try dsimp only);omega,by (try dsimp only);omega,_,rfl,by simp,bD.rep _,?_⟩,?_⟩
  ·(try dsimp only)
   rw [List.drop_of_length_le (by omega),List.drop_of_length_le (by simp)];rfl
  rintro ⟨rest,i,vs⟩ qk dK ⟨hr0,hr1,hi0,hi1,es,rfl,hes,hde,hv⟩
  dsimp only at hr0 hr1 hi0 hi1 hv ⊢
  obtain ⟨rest,rfl⟩:=Int.eq_ofNat_of_zero_le hr0
  refine ⟨by trivial,fun h3=>?_,fun h3=>?_⟩
  ·have h3:0<=i:=by simpa using h3
   obtain ⟨i,rfl⟩:=Int.eq_ofNat_of_zero_le h3
   have hi2:((i:Int)+1).toNat=i+1:=by omega
   rw [hi2] at hv
   simp only [Int.toNat_natCast] at hv ⊢
   have Qb:=xW.get (i:=i) (by omega)
   refine (hx.le dK).rd i rfl (by omega) (Bw (hy.le dK) (by simp) fun oM dZ=>(Ic rest xs[i] d (by omega) Qb hdl).mono ?_)
   rintro r oN c_ rfl
   have hq:(rest*4294967296+xs[i]) / d<4294967296:=by
    rw [Nat.div_lt_iff_lt_mul (by omega)]
    have:rest+1<=d:=by omega
    have:=Nat.mul_le_mul_right 4294967296 this
    rw [Nat.mul_comm 4294967296 d]
    omega
   have hr:(rest*4294967296+xs[i])%d<d:=Nat.mod_lt _ (by omega)
   have Fw:=Nat.div_add_mod (rest*4294967296+xs[i]) d
   generalize (rest*4294967296+xs[i]) / d=q at *
   generalize (rest*4294967296+xs[i])%d=r at *
   have w2:i64.wrap ((i:Int)-1)=(i:Int)-1:=ar (by omega)
   simp only [w2]
   refine ⟨_,_,rfl,⟨by omega,by omega⟩,by simp;omega,((r:Int),(i:Int)-1,aH (es.set i q)),?_,?_,?_⟩
   ·(try dsimp only);omega
   ·(try dsimp only);and_intros<;>first|exact True.intro|rfl|(rw [←bl];simp)
   ·(try dsimp only)
    refine ⟨by omega,by omega,by omega,by omega,_,rfl,by simpa using hes,hde.set _ _ (by omega),?_⟩
    have hi3:((i:Int)-1+1).toNat=i:=by omega
    rw [hi3,List.drop_eq_getElem_cons (by omega),List.drop_eq_getElem_cons (l:=es.set i q) (by simp;omega),List.getElem_set_self,List.drop_set_of_lt (by omega)]
    have h9:xs[i]+4294967296*val (List.drop (i+1) xs)=d*(q+4294967296*val (List.drop (i+1) es))+r:=ve hv Fw
    rw [bg,bg,Int.toNat_natCast]
    exact h9
  ·have h3:i=-1:=by simp at h3;omega
   subst h3
   simp only [Int.toNat_natCast] at hv
   have hv:val xs=d*val es+rest:=by simpa using hv
   intro qi cQ bk hb
   refine (cF (RD.bu hb hde (n:=n) (c:=n) (by omega) (Nat.le_refl _)) (by omega)).mono ?_
   rintro r tE eI ⟨k,rfl,h4⟩
   refine ⟨_,_,_,rfl,fun _ xk eA bk2 hb2=>?_⟩
   have hb2:xk.bu bk2 (.cells (aH [rest]).toArray 186 (0,0)):=by
    simpa [aH] using hb2
   refine (cF (RD.bu hb2 (n:=1) (c:=1) (by simp [bD];omega) rfl (Nat.le_refl _)) (by simp)).mono ?_
   rintro r Ak jC ⟨k2,rfl,h5⟩
   refine ⟨_,_,_,rfl,fun _ sR dL=>⟨_,_,_,_,_,_,rfl,?_,?_⟩⟩
   ·have e1:val xs / d=val es:=by rw [hv,Nat.mul_add_div (by omega),Nat.div_eq_of_lt (by omega),Nat.add_zero]
    rw [aO hde] at h4
    rw [e1]
    exact h4.le (eA.trans (jC.trans dL))
   ·have e2:val xs%d=rest:=by rw [hv,Nat.mul_add_mod,Nat.mod_eq_of_lt (by omega)]
    rw [aO (by simp [bD];omega)] at h5
    have e3:val [rest]=rest:=by simp
    rw [e3] at h5
    rw [e2]
    exact h5.le dL
 ·have h0:y<=x:=by simpa [←Int.not_lt,eV] using h0
  refine fun lA bW=>(Ct (hx.le bW) (hy.le bW) hm hy0 (aC h0)).mono ?_
  rintro r qk dK ⟨p1,n1,c1,p2,n2,c2,rfl,g1,g2⟩
  exact ⟨_,_,_,_,_,_,rfl,fun oM dZ=>⟨_,_,_,_,_,_,rfl,g1.le dZ,g2.le dZ⟩⟩
theorem dC {V:View}{p q:OA}{n c m e:Nat}{x y:Nat}(hx:RN V p n c x)(hy:RN V q m e y)(hm:(ai x).length<=274877906944)(hm':(ai y).length<=274877906944) :
  ab prog 113 #[.slice p n c,.slice q m e] V fun r V'=>∃p1 n1 c1,r=.slice p1 n1 c1/\RN V' p1 n1 c1 (Nat.gcd x y):=by
 have hlx:=hx.len
 have Am:=hy.len
 refine wY p n c q m e V _ fun V1 l1=>(kH (hx.le l1) (by omega)).mono ?_
 rintro r V2 l2 rfl
 rw [af]
 refine ⟨_,_,rfl,fun z V'=>True,⟨fun h0=>?_,fun h0=>⟨(),by (try dsimp only);and_intros<;>first|exact True.intro|rfl,trivial⟩⟩,?_⟩
 ·have h0:n<=2:=by simpa using h0
  refine fun V3 l3=>(kH (hy.le (l1.trans (l2.trans l3))) (by omega)).mono ?_
  rintro r V4 l4 rfl
  rw [af]
  refine ⟨_,_,rfl,fun h1=>?_,fun h1=>⟨(),by (try dsimp only);and_intros<;>first|exact True.intro|rfl,trivial⟩⟩
  have h1:m<=2:=by simpa using h1
  have hxw:=qg (x:=x) (by omega)
  have S5:=qg (x:=y) (by omega)
  rw [if_pos h0,if_pos h1]
  refine ⟨fun z V'=>∃a b:Nat,z=((a:Int),(b:Int))/\a<18446744073709551616/\b<18446744073709551616/\Nat.gcd a b=Nat.gcd x y,fun z=>z.2.toNat,
   ⟨((x:Int),(y:Int)),by (try dsimp only);and_intros<;>first|exact True.intro|rfl,x,y,rfl,hxw,S5,rfl⟩,?_⟩
  rintro _ V5 l5 ⟨a,b,rfl,ha,hb,hg⟩
  dsimp only
  refine ⟨by trivial,fun h3=>?_,fun h3=>?_⟩
  ·have h3:0<b:=by simpa using h3
   have e2:(a:Int).tmod (b:Int)=((a%b:Nat):Int):=by rw [Int.tmod_eq_emod_of_nonneg (by omega)];omega
   have hr:a%b<b:=Nat.mod_lt _ h3
   refine ⟨by omega,((b:Int),((a%b:Nat):Int)),?_,by (try dsimp only);and_intros<;>first|exact True.intro|rfl|exact e2,b,a%b,rfl,hb,by omega,?_⟩
   ·(try dsimp only);simp only [Int.toNat_natCast];exact hr
   ·rw [←hg,Nat.gcd_comm a b,Nat.gcd_rec b a,Nat.gcd_comm]
  ·have h3:b=0:=by simp at h3;omega
   subst h3
   rw [Nat.gcd_zero_right] at hg
   refine fun V6 l6=>(dp a ha).mono ?_
   rintro r V7 l7 ⟨p1,n1,c1,rfl,g1⟩
   rw [hg] at g1
   exact ⟨_,_,_,rfl,fun V8 l8=>⟨_,_,_,rfl,g1.le l8⟩⟩
 rintro _ V9 l9 _
 replace hx:=hx.le (l1.trans (l2.trans l9))
 replace hy:=hy.le (l1.trans (l2.trans l9))
 refine ⟨by trivial,fun z k V'=>∃a b:Nat,RN V' z.1 z.2.1 z.2.2.1 a/\RN V' z.2.2.2.1 z.2.2.2.2.1 z.2.2.2.2.2 b/\b=k/\(ai a).length<=274877906944/\(ai b).length<=274877906944/\Nat.gcd a b=Nat.gcd x y,
  ⟨(p,n,c,q,m,e),y,by (try dsimp only);and_intros<;>first|exact True.intro|rfl,x,y,hx,hy,rfl,hm,hm',rfl⟩,?_⟩
 rintro ⟨ap,an,ac,bp,bn,bc⟩ _ gQ l10 ⟨a,b,ha,hb,rfl,hal,hbl,hg⟩
 dsimp only at ha hb ⊢
 have hla:=ha.len
 have hlb:=hb.len
 refine ⟨by trivial,fun h3=>?_,fun h3=>?_⟩
 ·have h3:0<bn:=by simpa using h3
  have hb0:0<b:=by
   rcases Nat.eq_zero_or_pos b with h|h
   ·subst h;simp at hlb;omega
   ·exact h
  refine fun jw bQ=>(cx (ha.le bQ) (hb.le bQ) hal hbl hb0).mono ?_
  rintro r kv cp ⟨p1,n1,c1,p2,n2,c2,rfl,g1,g2⟩
  have hr:a%b<b:=Nat.mod_lt _ hb0
  have hrl:=aC (Nat.le_of_lt hr)
  refine ⟨_,_,_,_,_,_,rfl,(bp,bn,bc,p2,n2,c2),a%b,hr,by (try dsimp only);and_intros<;>first|exact True.intro|rfl,b,a%b,hb.le (bQ.trans cp),g2,rfl,hbl,by omega,?_⟩
  rw [←hg,Nat.gcd_comm a b,Nat.gcd_rec b a,Nat.gcd_comm]
 ·have h3:bn=0:=by simp at h3;omega
  have hb0:b=0:=aZ.1 (List.length_eq_zero_iff.1 (by omega))
  subst hb0
  rw [Nat.gcd_zero_right] at hg
  rw [←hg]
  refine ⟨aH (ai a),ha.sl,by simp [hla],by omega,by omega,by simp,by simp [hla],?_,?_⟩
  ·intro v hv
   simp only [aH,List.mem_map] at hv
   obtain ⟨d,-,rfl⟩:=hv
   rfl
  ·intro bk J sp c' h1 h2 V1 l1 b hb
   refine ⟨_,_,_,rfl,?_⟩
   simp only [Nat.zero_add,Nat.zero_mul,List.take_zero,List.nil_append] at hb h1 ⊢
   exact copied (aI a) hla h1 hb
end Go.Proofs.Tryz
