import Derived.Test.YtdhlkpfmlimjfaaGreatDoorR11
import Derived.Test.YtdhlkpfmlimjfaaGreatDoorR10
import Derived.Test.YtdhlkpfmlimjfaaGreatDoorR8
set_option linter.unusedVariables false
open Go.IntKind (i64 u64 u32)
namespace Go.Big
def fv (x y:Rat):Int:=(x-y).num.sign
def fy (x y:Rat):Rat:=mkRat (Nat.gcd (x.num.natAbs*y.den) (y.num.natAbs*x.den):Nat) (x.den*y.den)
theorem yM {q:Rat}:q.num<0↔q<0:=by
 have:=@Rat.num_nonneg q
 rw [←Rat.not_le,←this];omega
theorem yN {q:Rat}:0<q.num↔0<q:=by
 have b:=@Rat.num_nonneg q
 have c:=@Rat.num_eq_zero q
 rw [Rat.lt_iff_le_and_ne,←b]
 constructor
 ·intro h;exact ⟨by omega,fun e=>by rw [←e] at h;simp at h⟩
 ·rintro ⟨h,a⟩
  have:q.num≠0:=fun e=>a (c.1 e).symm
  omega
theorem BR {x y:Rat}:x<y↔fv x y=-1:=by
 unfold fv
 rw [Int.sign_eq_neg_one_iff_neg,yM,Rat.lt_iff_sub_pos x y,←Rat.neg_sub y x]
 constructor
 ·intro h;have:=Rat.neg_lt_neg h;simpa using this
 ·intro h;have:=Rat.neg_lt_neg h;rw [Rat.neg_neg] at this;simpa using this
theorem BQ {x y:Rat}:y<x↔fv x y=1:=by
 unfold fv
 rw [Int.sign_eq_one_iff_pos,yN,Rat.lt_iff_sub_pos y x]
theorem pW {x y:Rat}:x=y↔fv x y=0:=by
 unfold fv
 rw [Int.sign_eq_zero_iff_zero,Rat.num_eq_zero]
 constructor
 ·intro h;subst h;exact Rat.sub_self
 ·intro h
  have:=congrArg (·+ y) h
  simpa [Rat.sub_add_cancel,Rat.zero_add] using this
end Go.Big
namespace Go.Proofs.Tryz
open Go.Eng Go.Big
theorem vF {V:View}{v w:Value}{x y:Rat}(hx:RR V v x)(hy:RR V w y){k m:Nat}(hk:Sz k x)(hm:Sz m y)(hkm:k+m<1099511627776) :
  Acts prog 232 #[v,w] V fun r V'=>RR V' r (x-y):=by
 obtain ⟨h,i,j,rfl⟩:=hx.shape
 obtain ⟨l,s1,s2,rfl⟩:=hy.shape
 refine tG _ _ _ _ _ _ V _ fun o b=>(gT (hy.le b) hm (by omega)).mono ?_
 rintro r V2 f c
 obtain ⟨n,d,p,rfl⟩:=c.shape
 refine ⟨_,_,_,rfl,fun q e=>(ja (hx.le (b.trans (f.trans e))) (c.le e) hk hm.neg hkm).mono ?_⟩
 rintro r s t a
 rw [←Rat.sub_eq_add_neg] at a
 obtain ⟨n,d,p,rfl⟩:=a.shape
 exact ⟨_,_,_,rfl,fun u g=>a.le g⟩
theorem jc {V:View}{v w:Value}{x y:Rat}(hx:RR V v x)(hy:RR V w y){k m:Nat}(hk:Sz k x)(hm:Sz m y)(hkm:k+m<1099511627776) :
  Acts prog 208 #[v,w] V fun r V'=>r=.int .i64 (fv x y):=by
 obtain ⟨u,z,A,rfl⟩:=hx.shape
 obtain ⟨B,s1,s2,rfl⟩:=hy.shape
 have gen:∀V14:View,V.Le V14->Acts prog 232 #[.agg #[.int .i64 u,.int .i64 z,.pointer A],.agg #[.int .i64 B,.int .i64 s1,.pointer s2]] V14 fun C i=>∃PS:Int,∃Lx:Int,∃KT:OA,C=.agg #[.int .i64 PS,.int .i64 Lx,.pointer KT]/\(∀lV:View,i.Le lV->Acts prog 146 #[.agg #[.int .i64 PS,.int .i64 Lx,.pointer KT]] lV fun D E=>∃Ly:Int,D=.int .i64 Ly/\(∀qj:View,E.Le qj->Value.int .i64 Ly=.int .i64 (fv x y))):=by
  intro j f
  refine (vF (hx.le f) (hy.le f) hk hm hkm).mono ?_
  rintro r V2 O s
  obtain ⟨n,d,p,rfl⟩:=s.shape
  refine ⟨_,_,_,rfl,fun P F=>(eC (s.le F) (hk.sub hm) (by omega)).mono ?_⟩
  rintro r Q R rfl
  exact ⟨_,rfl,fun _ _=>rfl⟩
 rcases hx with ⟨ex,G⟩|⟨a,b,p,n,c,H,I,J,ex,-,-,-,-,-,G⟩
 ·rcases hy with ⟨g,K⟩|⟨a,b,p,n,c,H,I,J,g,-,-,-,-,-,K⟩
  ·simp only [Value.agg.injEq,Array.mk.injEq,List.cons.injEq,Value.int.injEq,Value.pointer.injEq,true_and,and_true] at ex g
   obtain ⟨rfl,rfl,rfl⟩:=ex
   obtain ⟨rfl,rfl,rfl⟩:=g
   have l:x.den=y.den->((x<y↔x.num<y.num)/\(y<x↔y.num<x.num)/\(x=y↔x.num=y.num)):=by
    intro e
    have t:(0:Int)<y.den:=by have:=y.den_nz;omega
    refine ⟨?_,?_,fun h=>by rw [h],fun h=>Rat.ext h e⟩
    ·rw [Rat.lt_iff,e];exact ⟨fun h=>Int.lt_of_mul_lt_mul_right h (by omega),fun h=>Int.mul_lt_mul_of_pos_right h t⟩
    ·rw [Rat.lt_iff,e];exact ⟨fun h=>Int.lt_of_mul_lt_mul_right h (by omega),fun h=>Int.mul_lt_mul_of_pos_right h t⟩
   refine iA _ _ _ _ _ _ V _ ⟨fun _=>⟨fun _=>⟨fun o=>?_,fun _=>gen⟩,(fun h=>nomatch h)⟩,(fun h=>nomatch h)⟩
   have o:x.den=y.den:=by rw [beq_iff_eq] at o;omega
   obtain ⟨L,M,N⟩:=l o
   refine ⟨fun h j f=>?_,fun h=>⟨fun q j f=>?_,fun q j f=>?_⟩⟩
   ·rw [BR.1 (L.2 (by simpa using h))]
   ·rw [BQ.1 (M.2 (by simpa using q))]
   ·rw [pW.1 (N.2 (by rw [decide_eq_false_iff_not] at h q;omega))]
  ·simp only [Value.agg.injEq,Array.mk.injEq,List.cons.injEq,Value.int.injEq,Value.pointer.injEq,true_and,and_true] at ex g
   obtain ⟨rfl,rfl,rfl⟩:=ex
   obtain ⟨rfl,rfl,rfl⟩:=g
   exact iA _ _ _ _ _ _ V _ ⟨fun _=>⟨(fun h=>nomatch h),fun _=>gen⟩,(fun h=>nomatch h)⟩
 ·simp only [Value.agg.injEq,Array.mk.injEq,List.cons.injEq,Value.int.injEq,Value.pointer.injEq,true_and,and_true] at ex
  obtain ⟨rfl,rfl,rfl⟩:=ex
  exact iA _ _ _ _ _ _ V _ ⟨(fun h=>nomatch h),fun _=>gen⟩
theorem uo {V:View}{v w:Value}{x y:Rat}(hx:RR V v x)(hy:RR V w y){k m:Nat}(hk:Sz k x)(hm:Sz m y)(hkm:k+m<1099511627776) :
  Acts prog 163 #[v,w] V fun r V'=>r=.bool (decide (x=y)):=by
 obtain ⟨b,c,d,rfl⟩:=hx.shape
 obtain ⟨e,s1,s2,rfl⟩:=hy.shape
 refine pK _ _ _ _ _ _ V _ fun f a=>(jc (hx.le a) (hy.le a) hk hm hkm).mono ?_
 rintro r V2 g rfl
 refine ⟨_,rfl,fun h i=>?_⟩
 congr 1
 rw [Bool.eq_iff_iff,beq_iff_eq,decide_eq_true_eq,pW]
theorem yh {x y:Rat}{k m:Nat}(hx:Sz k x)(hy:Sz m y):x.num.natAbs*y.den<2^(k+m)/\y.num.natAbs*x.den<2^(k+m)/\Nat.gcd (x.num.natAbs*y.den) (y.num.natAbs*x.den)<2^(k+m)/\x.den*y.den<2^(k+m):=by
 have a:x.num.natAbs*y.den<2^(k+m):=bG hx.1 hy.2
 have b:y.num.natAbs*x.den<2^(k+m):=by rw [Nat.add_comm];exact bG hy.1 hx.2
 refine ⟨a,b,?_,bG hx.2 hy.2⟩
 rcases Nat.eq_zero_or_pos (x.num.natAbs*y.den) with e|e
 ·rw [e,Nat.gcd_zero_left];exact b
 ·exact Nat.lt_of_le_of_lt (Nat.le_of_dvd e (Nat.gcd_dvd_left _ _)) a
theorem kx {x y:Rat}{k m:Nat}(hx:Sz k x)(hy:Sz m y):Sz (k+m+1) (fy x y):=by
 obtain ⟨-,-,a,b⟩:=yh hx hy
 have c:2^(k+m)<=2^(k+m+1):=Nat.pow_le_pow_right (by omega) (by omega)
 exact Go.Eng.Sz.mkRat (by rw [Int.natAbs_natCast];omega) (by omega) (by omega)
theorem jd {V:View}{v w:Value}{x y:Rat}(hx:RR V v x)(hy:RR V w y){k m:Nat}(hk:Sz k x)(hm:Sz m y)(hkm:k+m<1099511627776) :
  Acts prog 162 #[v,w] V fun r V'=>RR V' r (fy x y):=by
 obtain ⟨C,D,E,rfl⟩:=hx.shape
 obtain ⟨F,s1,s2,rfl⟩:=hy.shape
 obtain ⟨b1,b2,b3,b4⟩:=yh hk hm
 have q1:=af hk.1
 have q2:=af hk.2
 have q3:=af hm.1
 have q4:=af hm.2
 have q5:=af b1
 have q6:=af b2
 have q7:=af b3
 have q8:=af b4
 have gen:(∀OK:View,V.Le OK->Acts prog 207 #[.agg #[.int .i64 C,.int .i64 D,.pointer E]] OK fun NQ P8=>∃(KU:OA)(KE JH:Nat),NQ=.slice KU KE JH/\(∀OL:View,P8.Le OL->Acts prog 207 #[.agg #[.int .i64 F,.int .i64 s1,.pointer s2]] OL fun NT P9=>∃(KV:OA)(KF JI:Nat),NT=.slice KV KF JI/\(∀OM:View,P9.Le OM->Acts prog 206 #[.slice KU KE JH,.slice KV KF JI] OM fun NU P_=>∃(EV:OA)(EI DQ:Nat),NU=.slice EV EI DQ/\(∀ON:View,P_.Le ON->Acts prog 139 #[.agg #[.int .i64 C,.int .i64 D,.pointer E]] ON fun NV Qa=>∃Mz:Bool,∃(KX:OA)(KH JK:Nat),NV=.agg #[.bool Mz,.slice KX KH JK]/\(∀OO:View,Qa.Le OO->Acts prog 207 #[.agg #[.int .i64 F,.int .i64 s1,.pointer s2]] OO fun NW Qb=>∃(EW:OA)(EJ DR:Nat),NW=.slice EW EJ DR/\(∀OP:View,Qb.Le OP->Acts prog 206 #[.slice KX KH JK,.slice EW EJ DR] OP fun NX Qc=>∃(KY:OA)(KI JL:Nat),NX=.slice KY KI JL/\(∀OQ:View,Qc.Le OQ->Acts prog 139 #[.agg #[.int .i64 F,.int .i64 s1,.pointer s2]] OQ fun NY Qd=>∃MA:Bool,∃(EX:OA)(EK DS:Nat),NY=.agg #[.bool MA,.slice EX EK DS]/\(∀OR:View,Qd.Le OR->Acts prog 207 #[.agg #[.int .i64 C,.int .i64 D,.pointer E]] OR fun NZ Qe=>∃(K0:OA)(KK JN:Nat),NZ=.slice K0 KK JN/\(∀OS:View,Qe.Le OS->Acts prog 206 #[.slice EX EK DS,.slice K0 KK JN] OS fun N0 Qf=>∃(EY:OA)(EL DT:Nat),N0=.slice EY EL DT/\(∀OT:View,Qf.Le OT->Acts prog 183 #[.slice KY KI JL,.slice EY EL DT] OT fun N1 Qg=>∃(K1:OA)(KL JO:Nat),N1=.slice K1 KL JO/\(∀OU:View,Qg.Le OU->Acts prog 144 #[.agg #[.bool false,.slice K1 KL JO],.slice EV EI DQ] OU fun N2 Qh=>∃Lz:Int,∃LA:Int,∃EZ:OA,N2=.agg #[.int .i64 Lz,.int .i64 LA,.pointer EZ]/\(∀Jy:View,Qh.Le Jy->RR Jy (.agg #[.int .i64 Lz,.int .i64 LA,.pointer EZ]) (fy x y))))))))))))):=by
  intro O l
  refine (dK (hx.le l) hk (by omega)).mono ?_
  rintro r V2 o ⟨p1,n1,c1,rfl,g1⟩
  refine ⟨_,_,_,rfl,fun V3 z=>(dK (hy.le (l.trans (o.trans z))) hm (by omega)).mono ?_⟩
  rintro r V4 G ⟨p2,n2,c2,rfl,g2⟩
  refine ⟨_,_,_,rfl,fun V5 A=>(eV (g1.le (z.trans (G.trans A))) (g2.le A) (by omega)).mono ?_⟩
  rintro r V6 P ⟨p3,n3,c3,rfl,Q⟩
  rw [ab,ab] at Q
  have H:=l.trans (o.trans (z.trans (G.trans (A.trans P))))
  refine ⟨_,_,_,rfl,fun V7 q=>(ew (hx.le (H.trans q)) hk (by omega)).mono ?_⟩
  rintro r V8 I ⟨p4,n4,c4,rfl,g4⟩
  refine ⟨_,_,_,_,rfl,fun V9 B=>(dK (hy.le (H.trans (q.trans (I.trans B)))) hm (by omega)).mono ?_⟩
  rintro r a0 g ⟨p5,n5,c5,rfl,g5⟩
  refine ⟨_,_,_,rfl,fun a1 f=>(eV (g4.le (B.trans (g.trans f))) (g5.le f) (by omega)).mono ?_⟩
  rintro r a2 s ⟨p6,n6,c6,rfl,R⟩
  rw [ab,ab] at R
  have S:=H.trans (q.trans (I.trans (B.trans (g.trans (f.trans s)))))
  refine ⟨_,_,_,rfl,fun a3 i=>(ew (hy.le (S.trans i)) hm (by omega)).mono ?_⟩
  rintro r a4 T ⟨p7,n7,c7,rfl,g7⟩
  refine ⟨_,_,_,_,rfl,fun a5 J=>(dK (hx.le (S.trans (i.trans (T.trans J)))) hk (by omega)).mono ?_⟩
  rintro r lV U ⟨p8,n8,c8,rfl,g8⟩
  refine ⟨_,_,_,rfl,fun oB K=>(eV (g7.le (J.trans (U.trans K))) (g8.le K) (by omega)).mono ?_⟩
  rintro r qj eQ ⟨p9,n9,c9,rfl,W⟩
  rw [ab,ab] at W
  have X:=i.trans (T.trans (J.trans (U.trans (K.trans eQ))))
  refine ⟨_,_,_,rfl,fun vl L=>(uu (R.le (X.trans L)) (W.le L) (by omega) (by omega)).mono ?_⟩
  rintro r BF kb ⟨NB,a6,a7,rfl,t⟩
  rw [ab,ab] at t
  refine ⟨_,_,_,rfl,fun sZ Y=>(bJ false (t.le Y) (Q.le (q.trans (I.trans (B.trans (g.trans (f.trans (s.trans (X.trans (L.trans (kb.trans Y)))))))))) (by omega) (by omega)).mono ?_⟩
  rintro r xo kQ j
  rw [ll,ab,ab] at j
  obtain ⟨n,d,p,rfl⟩:=j.shape
  exact ⟨_,_,_,rfl,fun xp jP=>j.le jP⟩
 rcases hx with ⟨ex,Z⟩|⟨a,b,p,n,c,p',n',c',ex,-,-,-,-,-,Z⟩
 ·rcases hy with ⟨u,wy⟩|⟨a,b,p,n,c,p',n',c',u,-,-,-,-,-,wy⟩
  ·simp only [Value.agg.injEq,Array.mk.injEq,List.cons.injEq,Value.int.injEq,Value.pointer.injEq,true_and,and_true] at ex u
   obtain ⟨rfl,rfl,rfl⟩:=ex
   obtain ⟨rfl,rfl,rfl⟩:=u
   obtain ⟨Lv,PM⟩:=Z
   obtain ⟨Lw,PN⟩:=wy
   refine kt _ _ _ _ _ _ V _ ⟨fun _=>⟨fun _=>⟨fun M=>⟨fun _ _=>True,⟨fun N O l=>?_,fun _=>⟨(),by and_intros<;>rfl,trivial⟩⟩,fun _ O l _=>⟨by trivial,fun V2 o=>gen V2 (l.trans o)⟩⟩,fun _=>gen⟩,(fun h=>nomatch h)⟩,(fun h=>nomatch h)⟩
   have M:x.den=1:=by rw [beq_iff_eq] at M;omega
   have N:y.den=1:=by rw [beq_iff_eq] at N;omega
   refine (gk _ (by omega) (by omega)).mono ?_
   rintro r V2 o rfl
   refine ⟨_,rfl,fun V3 z=>(gk _ (by omega) (by omega)).mono ?_⟩
   rintro r V4 G rfl
   refine ⟨_,rfl,fun V5 A=>(qA _ _ (by omega) (by omega)).mono ?_⟩
   rintro r V6 P rfl
   refine ⟨_,rfl,fun V7 q=>.inl ?_⟩
   have e:fy x y=((Nat.gcd x.num.natAbs y.num.natAbs:Nat):Int):=by
    unfold fy
    rw [M,N,Nat.mul_one,Nat.mul_one,Nat.mul_one]
    exact mkRat_one _
   have hl:Nat.gcd x.num.natAbs y.num.natAbs<4611686018427387904:=by
    rcases Nat.eq_zero_or_pos x.num.natAbs with e|e
    ·rw [e,Nat.gcd_zero_left];exact Lw
    ·exact Nat.lt_of_le_of_lt (Nat.le_of_dvd e (Nat.gcd_dvd_left _ _)) Lv
   rw [e,i64w (by omega)]
   exact ⟨rfl,rf (by rw [Int.natAbs_natCast];exact hl)⟩
  ·simp only [Value.agg.injEq,Array.mk.injEq,List.cons.injEq,Value.int.injEq,Value.pointer.injEq,true_and,and_true] at ex u
   obtain ⟨rfl,rfl,rfl⟩:=ex
   obtain ⟨rfl,rfl,rfl⟩:=u
   exact kt _ _ _ _ _ _ V _ ⟨fun _=>⟨(fun h=>nomatch h),fun _=>gen⟩,(fun h=>nomatch h)⟩
 ·simp only [Value.agg.injEq,Array.mk.injEq,List.cons.injEq,Value.int.injEq,Value.pointer.injEq,true_and,and_true] at ex
  obtain ⟨rfl,rfl,rfl⟩:=ex
  exact kt _ _ _ _ _ _ V _ ⟨(fun h=>nomatch h),fun _=>gen⟩
def RA (V:View)(v:Value)(q:Rat):Prop:=∃p n c p' n' c',v=.agg #[.bool (decide (q.num<0)),.slice p n c,.slice p' n' c']/\RD V p n c (ae q.num.natAbs)/\RD V p' n' c' (ae q.den)
theorem RA.le {V V':View}{v:Value}{q:Rat}(h:RA V v q)(l:V.Le V'):RA V' v q:=by
 obtain ⟨p,n,c,a,b,d,e,f,g⟩:=h
 exact ⟨p,n,c,a,b,d,e,f.le l,g.le l⟩
theorem k_ {V:View}(b:Bool){p q:OA}{n c m e:Nat}{xs ys:List Nat}(hx:RD V p n c xs)(hy:RD V q m e ys)(hm:xs.length<=1099511627776)(hn:ys.length<=1099511627776) :
  Acts prog 105 #[.agg #[.bool b,.slice p n c,.slice q m e]] V fun r V'=>RR V' r (mkRat (aq b xs) (val ys)):=by
 refine Bg b p n c q m e V _ fun f a=>(bJ b (hx.le a) (hy.le a) hm hn).mono ?_
 rintro r V2 g h
 obtain ⟨u,v,w,rfl⟩:=h.shape
 exact ⟨_,_,_,rfl,fun i d=>h.le d⟩
theorem uq {V:View}{v:Value}{q:Rat}(h:RA V v q){k:Nat}(hs:Sz k q)(hk:k<=1099511627776):Acts prog 105 #[v] V fun r V'=>RR V' r q:=by
 obtain ⟨p,n,c,d,e,f,rfl,a,b⟩:=h
 have g:=af hs.1
 have i:=af hs.2
 refine (k_ _ a b (by omega) (by omega)).mono ?_
 rintro r V' _ h
 rw [au,ab,Rat.mkRat_self] at h
 exact h
theorem gS {V:View}{v w:Value}{x y:Rat}(hx:RR V v x)(hy:RR V w y){k m:Nat}(hk:Sz k x)(hm:Sz m y)(hkm:k+m<1099511627776) :
  Acts prog 219 #[v,w] V fun r V'=>RR V' r (x*y):=by
 obtain ⟨Y,Z,r2,rfl⟩:=hx.shape
 obtain ⟨s0,s1,s2,rfl⟩:=hy.shape
 have j:x*y=mkRat (x.num*y.num) (x.den*y.den):=Rat.mul_def' x y
 have b1:(x.num*y.num).natAbs<2^(k+m):=by rw [Int.natAbs_mul,Nat.pow_add];exact Nat.mul_lt_mul'' hk.1 hm.1
 have b2:x.den*y.den<2^(k+m):=by rw [Nat.pow_add];exact Nat.mul_lt_mul'' hk.2 hm.2
 have q1:=af hk.1
 have q2:=af hk.2
 have q3:=af hm.1
 have q4:=af hm.2
 have q5:=af b1
 have q6:=af b2
 refine tE Y Z r2 s0 s1 s2 V _ ⟨fun hr=>⟨fun _ _=>True,⟨fun hs=>?_,fun _=>⟨(),by (try dsimp only);and_intros<;>trivial,trivial⟩⟩,fun _ V8 l8 _=>⟨rfl,fun V9 Rw=>?_⟩⟩,fun _ V9 l=>?_⟩
 ·rcases hx with ⟨ex,W⟩|⟨a,b,p,n,c,p',n',c',ex,-,-,-,-,-,W⟩
  ·rcases hy with ⟨t,X⟩|⟨a,b,p,n,c,p',n',c',t,-,-,-,-,-,X⟩
   ·simp only [Value.agg.injEq,Array.mk.injEq,List.cons.injEq,Value.int.injEq,Value.pointer.injEq,true_and,and_true] at ex t
    obtain ⟨rfl,rfl,rfl⟩:=ex
    obtain ⟨rfl,rfl,rfl⟩:=t
    obtain ⟨Lv,PM⟩:=W
    obtain ⟨Lw,PN⟩:=X
    have dx:=x.den_nz
    have dy:=y.den_nz
    have e1:i64.wrap ((x.den:Int)-1+1)=x.den:=by rw [i64w (by omega)];omega
    have e2:i64.wrap ((y.den:Int)-1+1)=y.den:=by rw [i64w (by omega)];omega
    rw [e1,e2]
    intro V1 l1
    refine (eE _ _ Lv Lw).mono ?_
    rintro r V2 l2 ⟨z1,rfl,E⟩
    refine ⟨_,_,rfl,fun V3 l3=>(eE _ _ (by omega) (by omega)).mono ?_⟩
    rintro r V4 l4 ⟨z2,rfl,F⟩
    refine ⟨_,_,rfl,fun t1=>⟨fun t2 V5 l5=>?_,fun _=>⟨(),by (try dsimp only);and_intros<;>trivial,trivial⟩⟩,fun _=>⟨(),by (try dsimp only);and_intros<;>trivial,trivial⟩⟩
    have t1:=of_decide_eq_true t1
    have t2:=of_decide_eq_true t2
    rw [E t1,F t2]
    have hd:((x.den:Int)*(y.den:Int))=((x.den*y.den:Nat):Int):=(Int.natCast_mul ..).symm
    rw [hd] at t2 ⊢
    refine (kN _ _ t1 (by rwa [Int.natAbs_natCast] at t2) (Nat.mul_ne_zero dx dy)).mono ?_
    rintro r V6 l6 G
    rw [←j] at G
    obtain ⟨n,d,p,rfl⟩:=G.shape
    exact ⟨_,_,_,rfl,fun V7 l7=>G.le l7⟩
   ·simp only [Value.agg.injEq,Array.mk.injEq,List.cons.injEq,Value.int.injEq,Value.pointer.injEq,true_and,and_true] at t
    obtain ⟨rfl,rfl,rfl⟩:=t
    cases hs
  ·simp only [Value.agg.injEq,Array.mk.injEq,List.cons.injEq,Value.int.injEq,Value.pointer.injEq,true_and,and_true] at ex
   obtain ⟨rfl,rfl,rfl⟩:=ex
   cases hr
 ·have l:=l8.trans Rw
  refine (ew (hx.le l) hk (by omega)).mono ?_
  rintro r H h ⟨p1,n1,c1,rfl,I⟩
  refine ⟨_,_,_,_,rfl,fun J e=>(ew (hy.le (l.trans (h.trans e))) hm (by omega)).mono ?_⟩
  rintro r K i ⟨p2,n2,c2,rfl,L⟩
  refine ⟨_,_,_,_,rfl,fun M f=>(fc _ _ (I.le (e.trans (i.trans f))) (L.le f) (by omega)).mono ?_⟩
  rintro r N O u
  rw [au,au] at u
  obtain ⟨p3,n3,c3,rfl,P⟩:=u
  have z:=l.trans (h.trans (e.trans (i.trans (f.trans O))))
  refine ⟨_,_,_,_,rfl,fun Q o=>(dK (hx.le (z.trans o)) hk (by omega)).mono ?_⟩
  rintro r lV A ⟨p4,n4,c4,rfl,R⟩
  refine ⟨_,_,_,rfl,fun oB q=>(dK (hy.le (z.trans (o.trans (A.trans q)))) hm (by omega)).mono ?_⟩
  rintro r qj B ⟨p5,n5,c5,rfl,S⟩
  refine ⟨_,_,_,rfl,fun vl s=>(eV (R.le (q.trans (B.trans s))) (S.le s) (by omega)).mono ?_⟩
  rintro r BF T ⟨p6,n6,c6,rfl,C⟩
  rw [ab,ab] at C
  refine ⟨_,_,_,rfl,fun sZ D=>(bJ _ (P.le (o.trans (A.trans (q.trans (B.trans (s.trans (T.trans D))))))) (C.le D) (by omega) (by omega)).mono ?_⟩
  rintro r xo kQ g
  rw [au,ab,←j] at g
  obtain ⟨n,d,p,rfl⟩:=g.shape
  exact ⟨_,_,_,rfl,fun xp U=>g.le U⟩
 ·skip
  refine (ew (hx.le l) hk (by omega)).mono ?_
  rintro r H h ⟨p1,n1,c1,rfl,I⟩
  refine ⟨_,_,_,_,rfl,fun J e=>(ew (hy.le (l.trans (h.trans e))) hm (by omega)).mono ?_⟩
  rintro r K i ⟨p2,n2,c2,rfl,L⟩
  refine ⟨_,_,_,_,rfl,fun M f=>(fc _ _ (I.le (e.trans (i.trans f))) (L.le f) (by omega)).mono ?_⟩
  rintro r N O u
  rw [au,au] at u
  obtain ⟨p3,n3,c3,rfl,P⟩:=u
  have z:=l.trans (h.trans (e.trans (i.trans (f.trans O))))
  refine ⟨_,_,_,_,rfl,fun Q o=>(dK (hx.le (z.trans o)) hk (by omega)).mono ?_⟩
  rintro r lV A ⟨p4,n4,c4,rfl,R⟩
  refine ⟨_,_,_,rfl,fun oB q=>(dK (hy.le (z.trans (o.trans (A.trans q)))) hm (by omega)).mono ?_⟩
  rintro r qj B ⟨p5,n5,c5,rfl,S⟩
  refine ⟨_,_,_,rfl,fun vl s=>(eV (R.le (q.trans (B.trans s))) (S.le s) (by omega)).mono ?_⟩
  rintro r BF T ⟨p6,n6,c6,rfl,C⟩
  rw [ab,ab] at C
  refine ⟨_,_,_,rfl,fun sZ D=>(bJ _ (P.le (o.trans (A.trans (q.trans (B.trans (s.trans (T.trans D))))))) (C.le D) (by omega) (by omega)).mono ?_⟩
  rintro r xo kQ g
  rw [au,ab,←j] at g
  obtain ⟨n,d,p,rfl⟩:=g.shape
  exact ⟨_,_,_,rfl,fun xp U=>g.le U⟩
theorem inv_neg {q:Rat}(h:q.num<0):(q⁻¹).num=-(q.den:Int)/\(q⁻¹).den=q.num.natAbs:=by
 show (Rat.inv q).num=_/\(Rat.inv q).den=_
 unfold Rat.inv
 rw [dif_pos h]
 exact ⟨rfl,rfl⟩
theorem inv_pos {q:Rat}(h:0<q.num):(q⁻¹).num=(q.den:Int)/\(q⁻¹).den=q.num.natAbs:=by
 show (Rat.inv q).num=_/\(Rat.inv q).den=_
 unfold Rat.inv
 rw [dif_neg (by omega),dif_pos h]
 exact ⟨rfl,rfl⟩
theorem inv_zero {q:Rat}(h:q.num=0):q⁻¹=0:=by
 have:q=0:=Rat.num_eq_zero.1 h
 subst this
 exact Rat.inv_zero
theorem jC {k:Nat}{q:Rat}(h:Sz k q):Sz k q⁻¹:=by
 rcases Int.lt_trichotomy q.num 0 with a|a|a
 ·obtain ⟨b,c⟩:=inv_neg a
  refine ⟨?_,?_⟩
  ·rw [b,Int.natAbs_neg];exact h.2
  ·rw [c];exact h.1
 ·rw [inv_zero a]
  exact ⟨Nat.two_pow_pos _,Nat.lt_of_le_of_lt (Nat.pos_of_ne_zero q.den_nz) h.2⟩
 ·obtain ⟨b,c⟩:=inv_pos a
  exact ⟨by rw [b];exact h.2,by rw [c];exact h.1⟩
theorem FX {V:View}{v:Value}{q:Rat}(h:RR V v q){k:Nat}(hs:Sz k q)(hk:k<=1099511627776):Acts prog 236 #[v] V fun r V'=>RR V' r q⁻¹:=by
 rcases h with ⟨rfl,hw⟩|⟨a,b,p,n,c,s,t,y,rfl,z,A,B,C,D,hw⟩
 ·obtain ⟨l,m⟩:=hw
  have H:=q.den_nz
  refine kU _ _ _ V _ ⟨(fun d=>nomatch d),fun _=>⟨fun g I J=>?_,fun g=>⟨fun j K L=>?_,fun j M N=>?_⟩⟩⟩
  ·have g:=of_decide_eq_true g
   obtain ⟨f,i⟩:=inv_neg g
   refine .inl ⟨?_,?_⟩
   ·rw [f,i,i64w (x:=(q.den:Int)-1+1) (by omega),i64w (x:=0-q.num) (by omega),i64w (x:=0-((q.den:Int)-1+1)) (by omega),i64w (by omega)]
    congr 4
    ·omega
    ·congr 1;omega
   ·unfold Wd;rw [f,i,Int.natAbs_neg];exact ⟨m,l⟩
  ·have j:q.num=0:=by simpa using j
   rw [inv_zero j]
   exact .inl ⟨rfl,by decide,by decide⟩
  ·have g:¬q.num<0:=of_decide_eq_false g
   have j:q.num≠0:=by simpa using j
   obtain ⟨f,i⟩:=inv_pos (q:=q) (by omega)
   refine .inl ⟨?_,?_⟩
   ·rw [f,i,i64w (x:=(q.den:Int)-1+1) (by omega),i64w (by omega)]
    congr 4
    ·omega
    ·congr 1;omega
   ·unfold Wd;rw [f,i];exact ⟨m,l⟩
 ·obtain ⟨rfl,E⟩:=C.inv
  have O:=af hs.1
  have P:=af hs.2
  refine kU _ _ _ V _ ⟨fun _=>⟨rfl,rfl,rfl,decide (q.num<0),⟨a.add 0,by simp [addrAdd,Addr.add],z⟩,rfl,rfl,s,t,y,⟨a.add 2,rfl,B⟩,rfl,rfl,rfl,p,n,c,⟨a.add 1,by simp [addrAdd,Addr.add],A⟩,fun Q o=>(bJ _ (D.le o) (E.le o) (by omega) (by omega)).mono ?_⟩,fun d=>nomatch d⟩
  rintro r V2 R h
  have e:mkRat (aq (decide (q.num<0)) (ae q.den)) (val (ae q.num.natAbs))=q⁻¹:=by
   rw [ab]
   have F:aq (decide (q.num<0)) (ae q.den)=if q.num<0 then -(q.den:Int) else (q.den:Int):=by
    unfold aq
    rw [ab]
    by_cases g:q.num<0<;>simp [g]
   rw [F]
   rcases Int.lt_trichotomy q.num 0 with d|d|d
   ·obtain ⟨f,i⟩:=inv_neg d
    rw [if_pos d,←f,←i,Rat.mkRat_self]
   ·rw [inv_zero d,d];simp
   ·obtain ⟨f,i⟩:=inv_pos d
    rw [if_neg (by omega),←f,←i,Rat.mkRat_self]
  rw [e] at h
  obtain ⟨u,v,w,rfl⟩:=h.shape
  exact ⟨_,_,_,rfl,fun S G=>h.le G⟩
theorem vE {V:View}{v w:Value}{x y:Rat}(hx:RR V v x)(hy:RR V w y){k m:Nat}(hk:Sz k x)(hm:Sz m y)(hkm:k+m<1099511627776) :
  Acts prog 213 #[v,w] V fun r V'=>RR V' r (x*y⁻¹):=by
 have a:=hx
 have b:=hy
 obtain ⟨h,i,j,rfl⟩:=hx.shape
 obtain ⟨l,s1,s2,rfl⟩:=hy.shape
 refine tF h i j l s1 s2 V _ fun q d=>(FX (b.le d) hm (by omega)).mono ?_
 rintro r V2 n e
 have c:=e
 obtain ⟨u,v,w,rfl⟩:=e.shape
 refine ⟨_,_,_,rfl,fun s f=>(gS (a.le (d.trans (n.trans f))) (c.le f) hk (jC hm) hkm).mono ?_⟩
 rintro r t z g
 have o:=g
 obtain ⟨u,v,w,rfl⟩:=g.shape
 exact ⟨_,_,_,rfl,fun A p=>o.le p⟩
theorem Hi (a b:Nat)(ha:a<4294967296)(hb:b<4294967296):aV .and .u32 (a:Int) (b:Int)=((a &&& b:Nat):Int):=by
 have c:(BitVec.ofInt IntKind.u32.bits ((a:Nat):Int) &&& BitVec.ofInt IntKind.u32.bits ((b:Nat):Int)).toNat=a &&& b:=by
  show (BitVec.ofInt 32 ((a:Nat):Int) &&& BitVec.ofInt 32 ((b:Nat):Int)).toNat=_
  rw [BitVec.ofInt_natCast,BitVec.ofInt_natCast,BitVec.toNat_and,BitVec.toNat_ofNat,BitVec.toNat_ofNat,Nat.mod_eq_of_lt (by omega),Nat.mod_eq_of_lt (by omega)]
 have d:a &&& b<2^32:=Nat.and_lt_two_pow a (by omega)
 rw [aV,fP,c]
 omega
theorem NA (a b:Nat)(ha:a<4294967296)(hb:b<4294967296):aV .or .u32 (a:Int) (b:Int)=((a ||| b:Nat):Int):=by
 have c:(BitVec.ofInt IntKind.u32.bits ((a:Nat):Int) ||| BitVec.ofInt IntKind.u32.bits ((b:Nat):Int)).toNat=a ||| b:=by
  show (BitVec.ofInt 32 ((a:Nat):Int) ||| BitVec.ofInt 32 ((b:Nat):Int)).toNat=_
  rw [BitVec.ofInt_natCast,BitVec.ofInt_natCast,BitVec.toNat_or,BitVec.toNat_ofNat,BitVec.toNat_ofNat,Nat.mod_eq_of_lt (by omega),Nat.mod_eq_of_lt (by omega)]
 have d:a ||| b<2^32:=Nat.or_lt_two_pow (by omega) (by omega)
 rw [aV,fP,c]
 omega
theorem Fw (a b:Nat)(ha:a<4294967296)(hb:b<4294967296):aV .xor .u32 (a:Int) (b:Int)=((a ^^^ b:Nat):Int):=by
 have c:(BitVec.ofInt IntKind.u32.bits ((a:Nat):Int) ^^^ BitVec.ofInt IntKind.u32.bits ((b:Nat):Int)).toNat=a ^^^ b:=by
  show (BitVec.ofInt 32 ((a:Nat):Int) ^^^ BitVec.ofInt 32 ((b:Nat):Int)).toNat=_
  rw [BitVec.ofInt_natCast,BitVec.ofInt_natCast,BitVec.toNat_xor,BitVec.toNat_ofNat,BitVec.toNat_ofNat,Nat.mod_eq_of_lt (by omega),Nat.mod_eq_of_lt (by omega)]
 have d:a ^^^ b<2^32:=Nat.xor_lt_two_pow (by omega) (by omega)
 rw [aV,fP,c]
 omega
theorem Lj {n:Nat}(h:n<4294967296):n / 2147483648=if n.testBit 31 then 1 else 0:=by
 rw [Nat.testBit_eq_decide_div_mod_eq]
 have:(2:Nat)^31=2147483648:=by decide
 rw [this]
 split
 ·rename_i a;simp at a;omega
 ·rename_i a;simp at a;omega
theorem BL {n:Nat}(h:n<4294967296):n.testBit 31=decide (2147483648<=n):=by
 rw [Nat.testBit_eq_decide_div_mod_eq]
 have:(2:Nat)^31=2147483648:=by decide
 rw [this]
 congr 1
 simp;omega
theorem DO (x y c:Nat)(hx:x<4294967296)(hy:y<4294967296)(hc:c<=1){d:Nat}(hd:(d:Int)=((x:Int)-y-c)%4294967296) :
  (((4294967295 ^^^ x) &&& y) ||| ((4294967295 ^^^ (x ^^^ y)) &&& d)) / 2147483648=if x<y+c then 1 else 0:=by
 have k:(4294967295 ^^^ x)<2^32:=Nat.xor_lt_two_pow (by omega) (by omega)
 have b:x ^^^ y<2^32:=Nat.xor_lt_two_pow (by omega) (by omega)
 have l:(4294967295 ^^^ (x ^^^ y))<2^32:=Nat.xor_lt_two_pow (by omega) b
 have e:(4294967295 ^^^ x) &&& y<2^32:=Nat.and_lt_two_pow _ (by omega)
 have f:(4294967295 ^^^ (x ^^^ y)) &&& d<2^32:=Nat.and_lt_two_pow _ (by omega)
 have g:=Nat.or_lt_two_pow e f
 rw [Lj g]
 have a:d<4294967296:=by omega
 rw [Nat.testBit_or,Nat.testBit_and,Nat.testBit_and,Nat.testBit_xor,Nat.testBit_xor,Nat.testBit_xor,BL hx,BL hy,BL a,BL (n:=4294967295) (by omega)]
 by_cases h:2147483648<=x<;>by_cases i:2147483648<=y<;>by_cases j:2147483648<=d<;>simp [h,i,j]<;>omega
theorem FZ {V:View}(x y c:Nat)(hx:x<4294967296)(hy:y<4294967296)(hc:c<=1) :
  Acts prog 193 #[.int .u32 (x:Int),.int .u32 (y:Int),.int .u32 (c:Int)] V fun r V'=>∃d b:Nat,r=.tuple #[.int .u32 (d:Int),.int .u32 (b:Int)]/\d<4294967296/\b<=1/\d+(y+c)=x+4294967296*b:=by
 refine lT _ _ _ V _ ⟨by omega,fun n o=>?_⟩
 obtain ⟨d,g⟩:∃d:Nat,(d:Int)=((x:Int)-y-c)%4294967296:=⟨(((x:Int)-y-c)%4294967296).toNat,by omega⟩
 have a:d<4294967296:=by omega
 have h:u32.wrap (u32.wrap ((x:Int)-y)-c)=(d:Int):=by rw [fP,fP];omega
 have i:IntKind.u32.max=((4294967295:Nat):Int):=rfl
 have j:(4294967295 ^^^ x)<2^32:=Nat.xor_lt_two_pow (by omega) (by omega)
 have f:x ^^^ y<2^32:=Nat.xor_lt_two_pow (by omega) (by omega)
 have k:(4294967295 ^^^ (x ^^^ y))<2^32:=Nat.xor_lt_two_pow (by omega) f
 have l:(4294967295 ^^^ x) &&& y<2^32:=Nat.and_lt_two_pow _ (by omega)
 have m:(4294967295 ^^^ (x ^^^ y)) &&& d<2^32:=Nat.and_lt_two_pow _ (by omega)
 rw [h,i,Fw _ _ (by omega) hx,Hi _ _ j hy,Fw _ _ hx hy,Fw _ _ (by omega) f,Hi _ _ k a,NA _ _ l m,eJ]
 have e:(2:Nat)^31=2147483648:=by decide
 rw [e,DO x y c hx hy hc g]
 refine ⟨d,_,rfl,a,?_,?_⟩
 ·split<;>omega
 ·split<;>omega
theorem FT {V:View}(hi lo y:Nat)(hh:hi<y)(hl:lo<4294967296)(hy:y<4294967296) :
  Acts prog 154 #[.int .u32 (hi:Int),.int .u32 (lo:Int),.int .u32 (y:Int)] V fun r V'=>r=.tuple #[.int .u32 (((hi*4294967296+lo) / y:Nat):Int),.int .u32 (((hi*4294967296+lo)%y:Nat):Int)]:=by
 have key:∀b:View,Value.tuple #[.int .u32 (u32.wrap (u64.wrap ((aV .or .u64 (u64.wrap ((u64.wrap (hi:Int))*2^32)) (u64.wrap (lo:Int))).tdiv (u64.wrap (y:Int))))),.int .u32 (u32.wrap ((aV .or .u64 (u64.wrap ((u64.wrap (hi:Int))*2^32)) (u64.wrap (lo:Int))).tmod (u64.wrap (y:Int))))]=.tuple #[.int .u32 (((hi*4294967296+lo) / y:Nat):Int),.int .u32 (((hi*4294967296+lo)%y:Nat):Int)]:=by
  intro _
  have c:((2:Int)^32)=4294967296:=by decide
  have d:u64.wrap (hi:Int)=hi:=aJ (by omega)
  have e:u64.wrap (lo:Int)=lo:=aJ (by omega)
  have a:u64.wrap (y:Int)=y:=aJ (by omega)
  have f:u64.wrap ((hi:Int)*4294967296)=(hi:Int)*4294967296:=aJ (by omega)
  rw [d,c,f,e,a,yR _ _ (by omega) hl]
  have g:(hi:Int)*4294967296+lo=((hi*4294967296+lo:Nat):Int):=by omega
  rw [g,←Int.ofNat_tdiv,←Int.ofNat_tmod]
  have m:(hi*4294967296+lo) / y<4294967296:=by
   rw [Nat.div_lt_iff_lt_mul (by omega)]
   have:(hi+1)*4294967296<=y*4294967296:=Nat.mul_le_mul_right _ hh
   omega
  have n:(hi*4294967296+lo)%y<y:=Nat.mod_lt _ (by omega)
  generalize (hi*4294967296+lo) / y=q at *
  generalize (hi*4294967296+lo)%y=r at *
  have i:u64.wrap (q:Int)=q:=aJ (by omega)
  have j:u32.wrap (q:Int)=q:=mS (by omega)
  have k:u32.wrap (r:Int)=r:=mS (by omega)
  rw [i,j,k]
 have a:u64.wrap (y:Int)=y:=aJ (by omega)
 refine lQ _ _ _ V _ ⟨fun _=>⟨fun h=>?_,fun _=>⟨by omega,by rw [a];omega,by rw [a];omega,fun b l=>key b⟩⟩,fun _=>⟨by omega,by rw [a];omega,by rw [a];omega,fun b l=>key b⟩⟩
 simp at h;omega
theorem bZ {V:View}{p:OA}{n c:Nat}{ds:List Nat}(h:RD V p n c ds)(hm:ds.length<=4611686018427387904) :
  Acts prog 116 #[.slice p n c] V fun r V'=>∃k,r=.slice p k c/\RD V' p k c (bD ds):=by
 have j:=h.len
 have l:=h.cap
 refine zP p n c V _ ?_
 refine ⟨fun z V'=>0<=z/\z<=n/\bD (ds.take z.toNat)=bD ds,fun z=>z.toNat,⟨n,by (try dsimp only);and_intros<;>first|exact True.intro|rfl,by (try dsimp only);omega,by (try dsimp only);omega,?_⟩,?_⟩
 ·simp [j]
 ·rintro k o e ⟨f,m,d⟩
  obtain ⟨k,rfl⟩:=Int.eq_ofNat_of_zero_le f
  dsimp only at m d ⊢
  simp only [Int.toNat_natCast] at d
  refine ⟨rfl,fun a=>?_,fun a=>?_⟩
  ·have a:0<k:=by simpa using a
   have w:i64.wrap ((k:Int)-1)=((k-1:Nat):Int):=by rw [i64w (by omega)];omega
   simp only [w]
   have g:ds.take k=ds.take (k-1)++[ds[k-1]]:=by rw [←List.take_succ_eq_append_getElem (by omega),Nat.sub_add_cancel a]
   refine (h.le e).rd (k-1) rfl (by omega) ⟨fun b=>?_,fun b=>?_⟩
   ·have b:ds[k-1]=0:=by simpa using b
    refine ⟨_,?_,by (try dsimp only);and_intros<;>first|exact True.intro|rfl,?_,?_,?_⟩
    ·(try dsimp only);omega
    ·(try dsimp only);omega
    ·(try dsimp only);omega
    ·(try dsimp only)
     rw [←d,g,b,fC];rfl
   ·have b:ds[k-1]≠0:=by simpa using b
    refine ⟨⟨by omega,by omega⟩,fun V2 i=>⟨k,rfl,?_⟩⟩
    rw [←d,g,lK _ _ b,←g]
    exact ((h.le e).le i).take (by omega)
  ·have a:k=0:=by simpa using a
   subst a
   refine ⟨⟨by omega,by omega⟩,fun V2 i=>⟨0,rfl,?_⟩⟩
   rw [←d]
   exact ((h.le e).le i).take (by omega)
theorem cO {V:View}(u:Nat)(h1:u<18446744073709551616) :
  Acts prog 115 #[.int .u64 (u:Int)] V fun r V'=>∃q k c',r=.slice q k c'/\RN V' q k c' u:=by
 refine zQ _ V _ ⟨by omega,fun e h f a=>?_⟩
 rw [jG,fP,mS (by omega)] at a
 have a:e.aZ f (.cells (aA [u%4294967296,u / 4294967296]).toArray 225 (0,0)):=by
  simpa [aA] using a
 have d:bl [u%4294967296,u / 4294967296]:=by simp [bl];omega
 refine (bZ (RD.aZ a d (n:=2) (c:=2) rfl (Nat.le_refl _)) (by simp)).mono ?_
 rintro r V2 i ⟨k,rfl,b⟩
 refine ⟨_,_,_,rfl,fun _ j g=>⟨_,_,_,rfl,?_⟩⟩
 rw [aI d] at b
 have:val [u%4294967296,u / 4294967296]=u:=by simp;omega
 rw [this] at b
 exact b.le g
theorem iI {V:View} :
  Acts prog 117 #[] V fun r V'=>∃q k c',r=.slice q k c'/\RN V' q k c' 1:=by
 refine Bv V _ fun b e c a=>⟨_,_,_,rfl,?_⟩
 have d:ae 1=[1]:=F2 (by omega) (by omega)
 unfold RN
 rw [d]
 have a:b.aZ c (.cells (aA [1]).toArray 225 (0,0)):=by
  simpa [aA] using a
 exact RD.aZ a (by simp [bl]) rfl (Nat.le_refl _)
def Di (x:Int):Int:=if 0<x then 1 else if x<0 then -1 else 0
theorem Am {V:View}(x:Int) :
  Acts prog 191 #[.int .i64 x] V fun r V'=>r=.int .i64 (Di x):=by
 refine zS x V _ ⟨fun h b c=>?_,fun h=>⟨fun a b c=>?_,fun a b c=>?_⟩⟩
 ·have h:0<x:=by simpa using h
  rw [Di,if_pos h]
 ·have h:x<0:=by simpa using a
  rw [Di,if_neg (by omega),if_pos h]
 ·have h:¬0<x:=by simpa using h
  have a:¬x<0:=by simpa using a
  rw [Di,if_neg h,if_neg a]
theorem eW {V:View}{p q:OA}{n c m e:Nat}{x y:Nat}(ha:RN V p n c x)(hb:RN V q m e y)(hm:(ae x).length<=1099511627776)(hn:(ae y).length<=1099511627776) :
  Acts prog 150 #[.slice p n c,.slice q m e] V fun r V'=>r=.int .i64 (ig x y):=by
 have v:=ha.len
 have A:=hb.len
 refine Bq p n c q m e V _ ⟨fun g D E=>?_,fun g=>?_⟩
 ·have w:i64.wrap ((n:Int)-m)=(n:Int)-m:=i64w (by omega)
  simp only [w]
  refine (Am _).mono ?_
  rintro r V2 F rfl
  refine ⟨_,rfl,fun G H=>?_⟩
  have g:n≠m:=by simp at g;omega
  congr 1
  rcases Nat.lt_or_ge n m with h|h
  ·have:=iL (a:=x) (b:=y) (by omega)
   rw [ig,if_pos this,Di,if_neg (by omega),if_pos (by omega)]
  ·have:=iL (a:=y) (b:=x) (by omega)
   rw [ig,if_neg (by omega),if_pos this,Di,if_pos (by omega)]
 ·have g:n=m:=by simp at g;omega
  subst g
  have w:i64.wrap ((n:Int)-1)=(n:Int)-1:=i64w (by omega)
  simp only [w]
  refine ⟨fun z V'=>-1<=z/\z<n/\(ae x).drop (z+1).toNat=(ae y).drop (z+1).toNat,fun z=>(z+1).toNat,⟨_,by (try dsimp only);and_intros<;>first|exact True.intro|rfl,by (try dsimp only);omega,by (try dsimp only);omega,?_⟩,?_⟩
  ·(try dsimp only)
   rw [List.drop_of_length_le (by omega),List.drop_of_length_le (by omega)]
  ·rintro i I j ⟨k,o,s⟩
   dsimp only at k o s ⊢
   refine ⟨by trivial,fun d=>?_,fun d J K=>?_⟩
   ·have d:0<=i:=by simpa using d
    obtain ⟨i,rfl⟩:=Int.eq_ofNat_of_zero_le d
    have w:i64.wrap ((i:Int)-1)=(i:Int)-1:=i64w (by omega)
    simp only [w]
    have f:(ae x).drop (i+1)=(ae y).drop (i+1):=s
    refine (ha.le j).rd i rfl (by omega) ((hb.le j).rd i rfl (by omega) ⟨fun t B C=>?_,fun t=>?_⟩)
    ·have:=gZ (aB y) (by omega) (by omega) f.symm (by simpa using t)
     rw [ab,ab] at this
     rw [ig,if_neg (by omega),if_pos this]
    ·refine (ha.le j).rd i rfl (by omega) ((hb.le j).rd i rfl (by omega) ⟨fun u B C=>?_,fun u=>?_⟩)
     ·have:=gZ (aB x) (by omega) (by omega) f (by simpa using u)
      rw [ab,ab] at this
      rw [ig,if_pos this]
     ·refine ⟨_,?_,by (try dsimp only);and_intros<;>first|exact True.intro|rfl,?_,?_,?_⟩
      ·(try dsimp only);omega
      ·(try dsimp only);omega
      ·(try dsimp only);omega
      ·(try dsimp only)
       have:((i:Int)-1+1).toNat=i:=by omega
       rw [this,List.drop_eq_getElem_cons (by omega),List.drop_eq_getElem_cons (l:=ae y) (by omega),f]
       congr 1
       simp at t u
       omega
   ·have d:i=-1:=by simp at d;omega
    subst d
    have:ae x=ae y:=by simpa using s
    have:=qP this
    subst this
    simp [ig]
theorem EC (a b:Nat):maxI (a:Int) (b:Int)=((max a b:Nat):Int):=by
 unfold maxI
 split<;>omega
theorem CD {V:View}{p q:OA}{n c m e:Nat}{xs ys:List Nat}(hx:RD V p n c xs)(hy:RD V q m e ys)(hm:xs.length<=1099511627776)(hn:ys.length<=1099511627776) :
  Acts prog 151 #[.slice p n c,.slice q m e] V fun r V'=>∃p' n' c',r=.slice p' n' c'/\RN V' p' n' c' (val xs+val ys):=by
 have H:=hx.len
 have O:=hy.len
 have vc:=Bx p n c q m e V
 have w:i64.wrap (((max n m:Nat):Int)+1)=((max n m+1:Nat):Int):=by rw [i64w (by omega)];omega
 simp only [EC,w,Int.toNat_natCast] at vc
 obtain ⟨k,I⟩:∃k,k=max n m:=⟨_,rfl⟩
 rw [←I] at vc
 refine vc _ ⟨by omega,by omega,by omega,fun z V'=>0<=z.1/\z.1<=1/\0<=z.2.1/\z.2.1<=k/\∃es:List Nat,z.2.2=aA es/\es.length=k+1/\bl es /\
   val (es.take z.2.1.toNat)+4294967296^z.2.1.toNat*z.1.toNat=val (xs.take z.2.1.toNat)+val (ys.take z.2.1.toNat),fun z=>k-z.2.1.toNat,⟨(0,0,aA (List.replicate (k+1) 0)),by (try dsimp only);and_intros<;>first|exact True.intro|rfl|exact bU _,by (try dsimp only);omega,by (try dsimp only);omega,by (try dsimp only);omega,by (try dsimp only);omega,_,rfl,by simp,bl.rep _,by simp⟩,?_⟩
 rintro ⟨b,i,P⟩ V2 D ⟨f,o,g,s,es,rfl,t,h,l⟩
 dsimp only at f o g s l ⊢
 obtain ⟨i,rfl⟩:=Int.eq_ofNat_of_zero_le g
 obtain ⟨b,rfl⟩:=Int.eq_ofNat_of_zero_le f
 simp only [Int.toNat_natCast] at l
 refine ⟨by trivial,fun d=>?_,fun d=>?_⟩
 ·have d:i<k:=by simpa using d
  refine ⟨fun z V'=>∃x:Nat,z=x/\x<4294967296/\val (xs.take (i+1))=val (xs.take i)+4294967296^i*x,⟨fun a=>?_,fun a=>?_⟩,?_⟩
  ·have a:i<n:=by simpa using a
   refine (hx.le D).rd i rfl (by omega) ?_
   exact ⟨_,by (try dsimp only);and_intros<;>first|exact True.intro|rfl,xs[i],rfl,hx.cI.get (by omega),ao _ _ (by omega)⟩
  ·have a:n<=i:=by simpa using a
   exact ⟨_,by (try dsimp only);and_intros<;>first|exact True.intro|rfl,0,rfl,by omega,by rw [ai (by omega),ai (by omega)];simp⟩
  rintro _ J E ⟨x,rfl,u,v⟩
  refine ⟨by trivial,fun z V'=>∃y:Nat,z=y/\y<4294967296/\val (ys.take (i+1))=val (ys.take i)+4294967296^i*y,⟨fun a=>?_,fun a=>?_⟩,?_⟩
  ·have a:i<m:=by simpa using a
   refine ((hy.le D).le E).rd i rfl (by omega) ?_
   exact ⟨_,by (try dsimp only);and_intros<;>first|exact True.intro|rfl,ys[i],rfl,hy.cI.get (by omega),ao _ _ (by omega)⟩
  ·have a:m<=i:=by simpa using a
   exact ⟨_,by (try dsimp only);and_intros<;>first|exact True.intro|rfl,0,rfl,by omega,by rw [ai (by omega),ai (by omega)];simp⟩
  rintro _ K L ⟨y,rfl,A,B⟩
  refine ⟨by trivial,fun M F=>(FR x y b u A (by omega)).mono ?_⟩
  rintro r Q R rfl
  have w:i64.wrap ((i:Int)+1)=((i+1:Nat):Int):=by rw [i64w (by omega)];omega
  simp only [w,Int.toNat_natCast]
  refine ⟨_,_,rfl,⟨by omega,by omega⟩,by simp;omega,(((x+y+b) / 4294967296:Nat),((i+1:Nat):Int),aA (es.set i ((x+y+b)%4294967296))),?_,by (try dsimp only);and_intros<;>first|exact True.intro|rfl|(rw [←aX];simp),?_⟩
  ·(try dsimp only);omega
  ·(try dsimp only)
   refine ⟨by omega,by omega,by omega,by omega,_,rfl,by simpa using t,h.set _ _ (by omega),?_⟩
   simp only [Int.toNat_natCast]
   rw [aF _ _ _ (by omega),Nat.pow_succ,v,B]
   exact qm l (by omega)
 ·have d:i=k:=by simp at d;omega
  subst d
  refine ⟨⟨by omega,by omega⟩,by simp;omega,fun J E S C=>?_⟩
  have G:(aA es).set (0+((i:Int).toNat)*1) (.int .u32 (b:Int))=aA (es.set i b):=by rw [←aX];simp
  simp only [Int.toNat_natCast] at G
  try simp only [Int.toNat_natCast] at C
  rw [G] at C
  have j:=h.set i b (by omega)
  refine (bZ (RD.aZ C j (n:=i+1) (c:=i+1) (by simp;omega) (Nat.le_refl _)) (by simp;omega)).mono ?_
  rintro r K L ⟨k,rfl,a⟩
  refine ⟨_,_,_,rfl,fun _ M F=>⟨_,_,_,rfl,?_⟩⟩
  rw [aI j] at a
  have N:val (es.set i b)=val xs+val ys:=by
   have:=aF es i b (by omega)
   rw [ai (by simp;omega)] at this
   rw [this,l,ai (by omega),ai (by omega)]
  rw [N] at a
  exact a.le F
theorem A_ {E A B c x y W d b:Nat}(h:E+B=A+W*c)(hv:d+(y+c)=x+4294967296*b) :
  E+W*d+(B+W*y)=A+W*x+W*4294967296*b:=by
 have:=congrArg (W*·) hv
 simp only [Nat.mul_add,←Nat.mul_assoc] at this
 omega
theorem ld {V:View}{p q:OA}{n c m e:Nat}{xs ys:List Nat}(hx:RD V p n c xs)(hy:RD V q m e ys)(hm:xs.length<=1099511627776)(hl:ys.length<=xs.length)(hle:val ys<=val xs) :
  Acts prog 152 #[.slice p n c,.slice q m e] V fun r V'=>∃p' n' c',r=.slice p' n' c'/\RN V' p' n' c' (val xs-val ys):=by
 have G:=hx.len
 have N:=hy.len
 refine zM p n c q m e V _ ⟨by omega,by omega,by omega,fun z V'=>0<=z.1/\z.1<=1/\0<=z.2.1/\z.2.1<=n/\∃es:List Nat,z.2.2=aA es/\es.length=n/\bl es /\
   val (es.take z.2.1.toNat)+val (ys.take z.2.1.toNat)=val (xs.take z.2.1.toNat)+4294967296^z.2.1.toNat*z.1.toNat,fun z=>n-z.2.1.toNat,
   ⟨(0,0,List.replicate n (.int .u32 0)),by (try dsimp only);and_intros<;>first|exact True.intro|rfl,by (try dsimp only);omega,by (try dsimp only);omega,by (try dsimp only);omega,by (try dsimp only);omega,List.replicate n 0,bU n,by simp,bl.rep _,by simp⟩,?_⟩
 rintro ⟨l,i,O⟩ V2 C ⟨o,u,s,v,es,rfl,g,a,t⟩
 dsimp only at o u s v t ⊢
 obtain ⟨i,rfl⟩:=Int.eq_ofNat_of_zero_le s
 obtain ⟨l,rfl⟩:=Int.eq_ofNat_of_zero_le o
 simp only [Int.toNat_natCast] at t
 refine ⟨by trivial,fun j=>?_,fun j=>?_⟩
 ·have j:i<n:=by simpa using j
  refine ⟨fun z V'=>∃y:Nat,z=y/\y<4294967296/\val (ys.take (i+1))=val (ys.take i)+4294967296^i*y,⟨fun f=>?_,fun f=>?_⟩,?_⟩
  ·have f:i<m:=by simpa using f
   refine (hy.le C).rd i rfl (by omega) ?_
   exact ⟨_,by (try dsimp only);and_intros<;>first|exact True.intro|rfl,ys[i],rfl,hy.cI.get (by omega),ao _ _ (by omega)⟩
  ·have f:m<=i:=by simpa using f
   exact ⟨_,by (try dsimp only);and_intros<;>first|exact True.intro|rfl,0,rfl,by omega,by rw [ai (by omega),ai (by omega)];simp⟩
  rintro _ H D ⟨y,rfl,x,A⟩
  refine ⟨by trivial,?_⟩
  refine ((hx.le C).le D).rd i rfl (by omega) fun I J=>(FZ _ y l (hx.cI.get (by omega)) x (by omega)).mono ?_
  rintro r K E ⟨d,b,rfl,P,F,B⟩
  have w:i64.wrap ((i:Int)+1)=((i+1:Nat):Int):=by rw [i64w (by omega)];omega
  simp only [w,Int.toNat_natCast]
  refine ⟨_,_,rfl,⟨by omega,by omega⟩,by simp;omega,((b:Int),((i+1:Nat):Int),aA (es.set i d)),?_,by (try dsimp only);and_intros<;>first|exact True.intro|rfl|(rw [←aX];simp),?_⟩
  ·(try dsimp only);omega
  ·(try dsimp only)
   refine ⟨by omega,by omega,by omega,by omega,_,rfl,by simpa using g,a.set _ _ (by omega),?_⟩
   simp only [Int.toNat_natCast]
   rw [aF _ _ _ (by omega),Nat.pow_succ,ao xs i (by omega),A]
   exact A_ t B
 ·have j:i=n:=by simp at j;omega
  subst j
  simp only [Int.toNat_natCast]
  intro H D Q F
  refine (bZ (RD.aZ F a (n:=i) (c:=i) g.symm (Nat.le_refl _)) (by omega)).mono ?_
  rintro r I J ⟨k,rfl,f⟩
  refine ⟨_,_,_,rfl,fun _ K E=>⟨_,_,_,rfl,?_⟩⟩
  rw [aI a] at f
  rw [ai (by omega),ai (by omega),ai (by omega)] at t
  have L:=dR a
  rw [g] at L
  have M:l=0:=by
   rcases Nat.eq_zero_or_pos l with h|h
   ·exact h
   ·have:4294967296^i*1<=4294967296^i*l:=Nat.mul_le_mul_left _ h
    omega
  subst M
  rw [show val es=val xs-val ys from by omega] at f
  exact f.le E
theorem yY {V:View}{p:OA}{n c:Nat}{ds:List Nat}(h:RD V p n c ds){K:Int->Prop}(hn:0<ds.length)
  (hK:K ((ds[0]:Nat):Int)):(p.isSome=true)/\(0<=(0:Int)/\(0:Int)<(n:Int))/\∃x:Int,(∃a,addrAdd p 0=some a/\V.at a (.int .u32 x))/\K x:=by
 have:=h.rd (i:=0) (K:=K) 0 rfl hn hK
 simpa using this
theorem GN {V:View}{p:OA}{n c:Nat}{ds:List Nat}(h:RD V p n c ds){K:Int->Prop}(j:Nat)(hn:j<ds.length)
  (hK:K ((ds[j]:Nat):Int)):(p.isSome=true)/\(0<=(j:Int)/\(j:Int)<(n:Int))/\∃x:Int,(∃a,addrAdd p j=some a/\V.at a (.int .u32 x))/\K x:=by
 have:=h.rd (i:=j) (K:=K) j rfl hn hK
 simpa using this
theorem ju {ds:List Nat}(h:ds.length=1):∃a,ds=[a]:=by
 match ds,h with
 | [a],_=>exact ⟨a,rfl⟩
theorem Bc {ds:List Nat}(h:ds.length=2):∃a b,ds=[a,b]:=by
 match ds,h with
 | [a,b],_=>exact ⟨a,b,rfl⟩
theorem bY {V:View}{p q:OA}{n c m e:Nat}{xs ys:List Nat}(hx:RD V p n c xs)(hy:RD V q m e ys)(hm:xs.length+ys.length<=1099511627776) :
  Acts prog 67 #[.slice p n c,.slice q m e] V fun r V'=>∃p' n' c',r=.slice p' n' c'/\RN V' p' n' c' (val xs*val ys):=by
 have X:=hx.len
 have xj:=hy.len
 have y:((n:Int)+m).toNat=n+m:=by omega
 have w:i64.wrap ((n:Int)+m)=(n:Int)+m:=i64w (by omega)
 have vc:=sK p n c q m e V
 simp only [w,y,bU] at vc
 refine (fun tail=>vc _ ⟨fun S=>⟨fun A=>?_,fun _=>tail⟩,fun _=>tail⟩) ?_
 ·have S:n=1:=by simp at S;omega
  have A:m=1:=by simp at A;omega
  clear tail vc
  obtain ⟨a,rfl⟩:=ju (ds:=xs) (by omega)
  obtain ⟨b,rfl⟩:=ju (ds:=ys) (by omega)
  have T:=hx.cI.get (i:=0) (by simp)
  have B:=hy.cI.get (i:=0) (by simp)
  refine yY hx (by simp) (yY hy (by simp) fun V1 l1=>?_)
  simp only [List.getElem_cons_zero] at T B ⊢
  have Y:a*b<=4294967295*4294967295:=Nat.mul_le_mul (by omega) (by omega)
  have J:u64.wrap (a:Int)=a:=aJ (by omega)
  have K:u64.wrap (b:Int)=b:=aJ (by omega)
  have Z:(a:Int)*(b:Int)=((a*b:Nat):Int):=by simp
  have e4:u64.wrap ((a*b:Nat):Int)=((a*b:Nat):Int):=aJ (by omega)
  rw [J,K,Z,e4]
  refine (cO (a*b) (by omega)).mono ?_
  rintro r V2 l2 ⟨p',n',c',rfl,h⟩
  refine ⟨_,_,_,rfl,fun V3 l3=>⟨_,_,_,rfl,?_⟩⟩
  simp only [aR,di,Nat.mul_zero,Nat.add_zero]
  exact h.le l3
 refine ⟨by omega,by omega,by omega,fun z V'=>0<=z.1/\z.1<=n/\∃es:List Nat,z.2=aA es/\es.length=n+m/\bl es /\
  val (es.take (z.1.toNat+m))=val (xs.take z.1.toNat)*val ys,fun z=>n-z.1.toNat,⟨(0,aA (List.replicate (n+m) 0)),by (try dsimp only);and_intros<;>first|exact True.intro|rfl,by (try dsimp only);omega,by (try dsimp only);omega,_,rfl,by simp,bl.rep _,by simp [qh,List.take_replicate]⟩,?_⟩
 rintro ⟨i,vs⟩ V5 U ⟨C,L,es,rfl,M,o,D⟩
 dsimp only at C L D ⊢
 obtain ⟨i,rfl⟩:=Int.eq_ofNat_of_zero_le C
 simp only [Int.toNat_natCast] at D
 refine ⟨by trivial,fun v=>?_,fun v=>?_⟩
 ·have v:i<n:=by simpa using v
  refine (hx.le U).rd i rfl (by omega) ?_
  have T:=hx.cI.get (i:=i) (by omega)
  refine ⟨fun z V'=>0<=z.1/\z.1<=4294967295/\0<=z.2.1/\z.2.1<=m/\∃d:List Nat,z.2.2=aA d/\d.length=n+m/\bl d/\d.drop (i+z.2.1.toNat)=es.drop (i+z.2.1.toNat) /\
   val (d.take (i+z.2.1.toNat))+4294967296^(i+z.2.1.toNat)*z.1.toNat=val (es.take (i+z.2.1.toNat))+4294967296^i*xs[i]*val (ys.take z.2.1.toNat),fun z=>m-z.2.1.toNat,
   ⟨(0,0,aA es),by (try dsimp only);and_intros<;>first|exact True.intro|rfl,by (try dsimp only);omega,by (try dsimp only);omega,by (try dsimp only);omega,by (try dsimp only);omega,es,rfl,M,o,rfl,by simp⟩,?_⟩
  rintro ⟨I,k,vs⟩ V6 W ⟨E,N,F,O,d,rfl,G,s,j,hw⟩
  dsimp only at E N F O j hw ⊢
  obtain ⟨k,rfl⟩:=Int.eq_ofNat_of_zero_le F
  obtain ⟨I,rfl⟩:=Int.eq_ofNat_of_zero_le E
  simp only [Int.toNat_natCast] at j hw
  refine ⟨by trivial,fun g=>?_,fun g=>?_⟩
  ·have g:k<m:=by simpa using g
   refine (hy.le (U.trans W)).rd k rfl (by omega) ?_
   have B:=hy.cI.get (i:=k) (by omega)
   have MU:=s.get (i:=i+k) (by omega)
   have P:d[i+k]'(by omega)=es[i+k]'(by omega):=by
    have A:d[i+k]?=es[i+k]?:=by
     have:=congrArg (fun l=>l[0]?) j
     simpa [List.getElem?_drop] using this
    rw [List.getElem?_eq_getElem (by omega),List.getElem?_eq_getElem (by omega)] at A
    exact Option.some.inj A
   simp (disch:=omega) only [i64w]
   have u:((i:Int)+k).toNat=i+k:=by omega
   rw [u]
   refine ⟨⟨by omega,by omega⟩,((d[i+k]'(by omega):Nat):Int),by rw [Nat.zero_add,Nat.mul_one];exact eM (by omega),⟨by omega,by omega⟩,by simp;omega,by omega,?_⟩
   have a0:xs[i]*ys[k]<=4294967295*4294967295:=Nat.mul_le_mul (by omega) (by omega)
   have Im:(xs[i]:Int)*(ys[k]:Int)=((xs[i]*ys[k]:Nat):Int):=by simp
   obtain ⟨t,ht⟩:∃t:Nat,t=I+xs[i]*ys[k]+d[i+k]'(by omega):=⟨_,rfl⟩
   rw [Nat.pow_add] at hw
   have f:=yL hw ht
   have J:u64.wrap (u64.wrap (u64.wrap (u64.wrap (xs[i]:Int)*u64.wrap (ys[k]:Int))+u64.wrap ((d[i+k]'(by omega):Nat):Int))+(I:Int))=(t:Int):=by
    clear f
    generalize xs[i]*ys[k]=pq at *
    rw [aJ (x:=(xs[i]:Int)) (by omega),aJ (x:=(ys[k]:Int)) (by omega),Im,aJ (x:=((pq:Nat):Int)) (by omega)]
    simp (disch:=omega) only [aJ]
    omega
   rw [J,fP,jG]
   refine ⟨(_,_,_),?_,by (try dsimp only);and_intros<;>first|exact True.intro|rfl,?_⟩
   ·(try dsimp only);omega
   ·(try dsimp only)
    have H:((k:Int)+1).toNat=k+1:=by omega
    refine ⟨by omega,by omega,by omega,by omega,d.set (i+k) (t%4294967296),?_,by simpa using G,s.set _ _ (by omega),?_,?_⟩
    ·rw [←aX];simp
    ·rw [H,List.drop_set_of_lt (by omega)]
     have:=congrArg (List.drop 1) j
     simpa [List.drop_drop,Nat.add_comm,Nat.add_assoc,Nat.add_left_comm] using this
    ·rw [H,show i+(k+1)=i+k+1 from by omega,aF _ _ _ (by omega),ao es (i+k) (by omega),ao ys k (by omega),←P,Nat.pow_succ]
     have K:((t:Int) / 4294967296).toNat=t / 4294967296:=by omega
     rw [K,Nat.pow_add,f]
  ·have g:k=m:=by simp at g;omega
   subst g
   simp (disch:=omega) only [i64w]
   have u:((i:Int)+k).toNat=i+k:=by omega
   rw [u]
   refine ⟨⟨by omega,by omega⟩,by simp;omega,(_,_),?_,by (try dsimp only);and_intros<;>first|exact True.intro|rfl,?_⟩
   ·(try dsimp only);omega
   ·(try dsimp only)
    have Q:((i:Int)+1).toNat=i+1:=by omega
    refine ⟨by omega,by omega,d.set (i+k) I,?_,by simpa using G,s.set _ _ (by omega),?_⟩
    ·rw [←aX,mS (by omega)];simp
    ·rw [Q,show i+1+k=i+k+1 from by omega,aF _ _ _ (by omega),hw,D,ao xs i (by omega),ai (ds:=ys) (by omega)]
     grind
 ·have v:i=n:=by simp at v;omega
  subst v
  intro V6 W bk R
  refine (bZ (RD.aZ R o (n:=i+m) (c:=i+m) (by omega) (Nat.le_refl _)) (by omega)).mono ?_
  rintro r V7 l7 ⟨k,rfl,g⟩
  refine ⟨_,_,_,rfl,fun _ V8 l8=>⟨_,_,_,rfl,?_⟩⟩
  rw [aI o] at g
  rw [ai (by omega),ai (by omega)] at D
  rw [D] at g
  exact g.le l8
theorem jl {V:View}{p:OA}{n c:Nat}{ds:List Nat}(h:RD V p n c ds)(hm:ds.length<=1099511627776) :
  Acts prog 153 #[.slice p n c] V fun r V'=>r=.tuple #[.int .u64 ((if n<=2 then val ds else 0:Nat):Int),.bool (decide (n<=2))]:=by
 have u:=h.len
 refine zT p n c V _ ⟨fun e k l=>?_,fun e=>⟨fun f=>?_,fun f=>⟨fun d=>?_,fun d k l=>?_⟩⟩⟩
 ·have e:n=0:=by simp at e;omega
  subst e
  have:ds=[]:=List.length_eq_zero_iff.1 (by omega)
  subst this
  rfl
 ·have f:n=1:=by simp at f;omega
  subst f
  obtain ⟨a,rfl⟩:=ju (ds:=ds) (by omega)
  have o:=h.cI.get (i:=0) (by simp)
  refine yY h (by simp) fun k l=>?_
  simp only [List.getElem_cons_zero] at o ⊢
  have m:u64.wrap (a:Int)=a:=aJ (by omega)
  rw [m,if_pos (by omega),decide_eq_true (by omega)]
  simp
 ·have d:n=2:=by simp at d;omega
  subst d
  obtain ⟨a,b,rfl⟩:=Bc (ds:=ds) (by omega)
  have g:=h.cI.get (i:=0) (by simp)
  have j:=h.cI.get (i:=1) (by simp)
  refine GN h 1 (by simp) ⟨by omega,yY h (by simp) fun k l=>?_⟩
  simp only [List.getElem_cons_zero,List.getElem_cons_succ] at g j ⊢
  have m:u64.wrap (a:Int)=a:=aJ (by omega)
  have q:u64.wrap (b:Int)=b:=aJ (by omega)
  have s:((2:Int)^32)=4294967296:=by decide
  have t:u64.wrap ((b:Int)*4294967296)=(b:Int)*4294967296:=aJ (by omega)
  rw [m,q,s,t,yR _ _ j g,if_pos (by omega),decide_eq_true (by omega)]
  simp only [aR,di]
  congr 4
  omega
 ·have d:¬n<=2:=by simp at e f d;omega
  rw [if_neg d,decide_eq_false d]
  rfl
theorem C4 (b:Nat):0 ||| b=b:=Nat.zero_or b
theorem jj {V:View}{p:OA}{n c:Nat}{ds:List Nat}(hx:RD V p n c ds)(hm:ds.length<=1099511627776)(k:Nat)(hk:k<=35184372088832) :
  Acts prog 195 #[.slice p n c,.int .i64 (k:Int)] V fun r V'=>∃p' n' c',r=.slice p' n' c'/\RN V' p' n' c' (val ds*2^k):=by
 have hl:=hx.len
 have y:(k:Int).tdiv 32=((k / 32:Nat):Int):=by rw [Int.tdiv_eq_ediv_of_nonneg (by omega)];omega
 have A:(k:Int).tmod 32=((k%32:Nat):Int):=by rw [Int.tmod_eq_emod_of_nonneg (by omega)];omega
 have vc:=zL p n c k V
 have g:val ds*2^k=4294967296^(k / 32)*val ds*2^(k%32):=by
  have:2^k=4294967296^(k / 32)*2^(k%32):=by
   rw [show (4294967296:Nat)=2^32 from rfl,←Nat.pow_mul,←Nat.pow_add,Nat.div_add_mod]
  rw [this];grind
 rw [g]
 have C:k / 32<=1099511627776:=by omega
 have o:k%32<32:=Nat.mod_lt _ (by omega)
 rw [y,A] at vc
 generalize k / 32=w at *
 generalize k%32=r at *
 clear y A g
 have D:i64.wrap (w:Int)=(w:Int):=i64w (by omega)
 have E:i64.wrap ((w:Int)+n)=((w+n:Nat):Int):=by rw [i64w (by omega)];omega
 have F:i64.wrap (((w+n:Nat):Int)+1)=((w+n+1:Nat):Int):=by rw [i64w (by omega)];omega
 have G:u64.wrap (r:Int)=(r:Int):=aJ (by omega)
 have h:(min r IntKind.u64.bits)=r:=by
  show min _ 64=r
  omega
 have H:((2:Int)^r)=((2^r:Nat):Int):=by simp
 simp only [D,E,F,G,Int.toNat_natCast,h,H,bU] at vc
 refine vc _ ⟨by omega,by omega,by omega,by omega,by omega,fun z V'=>0<=z.1/\z.1<=n/\∃es:List Nat,z.2=aA es/\es.length=w+n+1/\bl es/\(∀c,es[z.1.toNat+w]?=some c->c<2^r)/\(∀j c,z.1.toNat+w<j->es[j]?=some c->c=0) /\
   val (es.take (z.1.toNat+w+1))=4294967296^w*val (ds.take z.1.toNat)*2^r,fun z=>n-z.1.toNat,
   ⟨(0,aA (List.replicate (w+n+1) 0)),by (try dsimp only);and_intros<;>first|exact True.intro|rfl,by (try dsimp only);omega,by (try dsimp only);omega,_,rfl,by simp,bl.rep _,?_,?_,?_⟩,?_⟩
 ·intro c a
  rw [List.getElem?_replicate] at a
  split at a
  ·cases a;exact Nat.two_pow_pos r
  ·cases a
 ·intro j c _ a
  rw [List.getElem?_replicate] at a
  split at a
  ·cases a;rfl
  ·cases a
 ·simp [List.take_replicate,qh]
 rintro ⟨i,vs⟩ V4 I ⟨l,q,es,rfl,s,d,a,m,e⟩
 dsimp only at l q a m e ⊢
 obtain ⟨i,rfl⟩:=Int.eq_ofNat_of_zero_le l
 simp only [Int.toNat_natCast] at a m e
 refine ⟨by trivial,fun f=>?_,fun f=>?_⟩
 ·have f:i<n:=by simpa using f
  have J:i64.wrap ((w:Int)+i)=((i+w:Nat):Int):=by rw [i64w (by omega)];omega
  have K:i64.wrap (((i+w:Nat):Int)+1)=((i+w+1:Nat):Int):=by rw [i64w (by omega)];omega
  have L:i64.wrap ((i:Int)+1)=((i+1:Nat):Int):=by rw [i64w (by omega)];omega
  simp only [J,K,L,Int.toNat_natCast,Nat.mul_one,Nat.zero_add]
  refine GN (hx.le I) i (by omega) ?_
  have M:=hx.cI.get (i:=i) (by omega)
  have t:=a (es[i+w]'(by omega)) (List.getElem?_eq_getElem _)
  have N:=m (i+w+1) (es[i+w+1]'(by omega)) (by omega) (List.getElem?_eq_getElem _)
  obtain ⟨O,g2,P,g4⟩:=zh M o t
  have hmul:((ds[i]:Nat):Int)*((2^r:Nat):Int)=((ds[i]*2^r:Nat):Int):=by simp
  have Q:u64.wrap ((ds[i]:Nat):Int)=((ds[i]:Nat):Int):=aJ (by omega)
  have R:u64.wrap ((ds[i]*2^r:Nat):Int)=((ds[i]*2^r:Nat):Int):=aJ (by omega)
  have S:u32.wrap ((ds[i]*2^r:Nat):Int)=((ds[i]*2^r%4294967296:Nat):Int):=by rw [fP];omega
  have T:u32.wrap (((ds[i]*2^r:Nat):Int).fdiv (2^32))=((ds[i]*2^r / 4294967296:Nat):Int):=by rw [jG,fP];omega
  simp only [Q,hmul,R,S,T]
  have u:ds[i]*2^r / 4294967296<4294967296:=by omega
  have U:=Nat.mod_add_div (ds[i]*2^r) 4294967296
  have v:val (List.take (i+1) ds)=val (List.take i ds)+4294967296^i*ds[i]:=ao _ _ (by omega)
  have W:val (es.take (i+w+1))=val (es.take (i+w))+4294967296^(i+w)*es[i+w]'(by omega):=ao _ _ (by omega)
  have x:ds[i]*2^r%4294967296<4294967296:=Nat.mod_lt _ (by omega)
  generalize ds[i]*2^r%4294967296=lo at *
  generalize ds[i]*2^r / 4294967296=hi at *
  refine ⟨by omega,by omega,⟨by omega,by omega⟩,((es[i+w]'(by omega):Nat):Int),eM (by omega),⟨by omega,by omega⟩,by simp;omega,by omega,⟨by omega,by omega⟩,((es[i+w+1]'(by omega):Nat):Int),?_,by omega,⟨by omega,by omega⟩,by simp;omega,?_⟩
  ·rw [List.getElem?_set_ne (by omega)];exact eM (by omega)
  have X:es[i+w]'(by omega)<4294967296:=d.get (by omega)
  rw [AV _ _ X x,O,N,AV _ _ (by omega) u,C4]
  refine ⟨(((i+1:Nat):Int),aA ((es.set (i+w) (es[i+w]'(by omega)+lo)).set (i+w+1) hi)),?_,?_,?_⟩
  ·(try dsimp only);omega
  ·(try dsimp only);and_intros<;>first|exact True.intro|rfl|rw [←aX,←aX]
  ·(try dsimp only)
   refine ⟨by omega,by omega,_,rfl,by simpa using s,(d.set _ _ (by omega)).set _ _ (by omega),?_,?_,?_⟩
   ·intro c b
    simp only [Int.toNat_natCast] at b
    rw [show i+1+w=i+w+1 from by omega,List.getElem?_set_self (by simp;omega)] at b
    cases b;exact P
   ·intro j c Y b
    simp only [Int.toNat_natCast] at Y
    rw [List.getElem?_set_ne (by omega),List.getElem?_set_ne (by omega)] at b
    exact m j c (by omega) b
   ·simp only [Int.toNat_natCast]
    rw [show i+1+w+1=i+w+1+1 from by omega,aF _ _ _ (by simp;omega),aF _ _ _ (by omega),v]
    rw [W] at e
    have Z:4294967296^(i+w+1)*hi=4294967296^(i+w)*(4294967296*hi):=by rw [Nat.pow_succ];grind
    rw [Z,Nat.mul_add,←Nat.add_assoc,e,Nat.add_assoc,←Nat.mul_add,U,Nat.pow_add]
    grind
 ·have f:i=n:=by simp at f;omega
  subst f
  intro V5 l5 bk hb
  refine (bZ (RD.aZ hb d (n:=w+i+1) (c:=w+i+1) (by omega) (Nat.le_refl _)) (by omega)).mono ?_
  rintro r' V6 l6 ⟨k',rfl,B⟩
  refine ⟨_,_,_,rfl,fun _ V7 l7=>⟨_,_,_,rfl,?_⟩⟩
  rw [ai (by omega),ai (by omega)] at e
  rw [aI d,e] at B
  exact B.le l7
theorem lY (a:Addr)(m n:Nat):(a.add m).add n=a.add (m+n):=by
 unfold Addr.add
 by_cases b:m=0
 ·subst b;simp
 ·by_cases c:n=0
  ·subst c;simp [b]
  ·rw [if_neg b,if_neg c,if_neg (by omega)]
   simp only [Nat.add_assoc]
theorem HL {V:View}{p:OA}{n c:Nat}{ds:List Nat}(h:RD V p n c ds){k:Nat}(hk:k<n):RD V (pH p c k 1) (n-k) (c-k) (ds.drop k):=by
 have g:=h.len
 have j:=h.cap
 have e:pH p c k 1=addrAdd p k:=by unfold pH;rw [if_neg (by omega),Nat.mul_one]
 rw [e]
 refine ⟨by simp;omega,by omega,fun i v b=>?_,h.cI.drop k,fun l=>?_⟩
 ·rw [Dn,List.getElem?_drop] at b
  obtain ⟨d,f,a⟩:=h.sl _ _ b
  refine ⟨d.add k,by rw [f];rfl,?_⟩
  rw [lY];exact a
 ·have:p.isNone=true:=by cases p<;>simp_all [addrAdd]
  have:=h.C2 this
  omega
theorem xN {V:View}{p:OA}{n c:Nat}{ds:List Nat}(hd:RD V p n c ds)(hm:ds.length<=1099511627776)(k:Nat)(hk:k<=35184372088832) :
  Acts prog 196 #[.slice p n c,.int .i64 (k:Int)] V fun r V'=>∃p' n' c',r=.slice p' n' c'/\RN V' p' n' c' (val ds / 2^k):=by
 have U:=hd.len
 have F:(k:Int).tdiv 32=((k / 32:Nat):Int):=by rw [Int.tdiv_eq_ediv_of_nonneg (by omega)];omega
 have v:(k:Int).tmod 32=((k%32:Nat):Int):=by rw [Int.tmod_eq_emod_of_nonneg (by omega)];omega
 have vc:=wW p n c k V
 have o:val ds / 2^k=val ds / 4294967296^(k / 32) / 2^(k%32):=by
  rw [Nat.div_div_eq_div_mul,show (4294967296:Nat)=2^32 from rfl,←Nat.pow_mul,←Nat.pow_add,Nat.div_add_mod]
 rw [o]
 have J:k / 32<=1099511627776:=by omega
 have y:k%32<32:=Nat.mod_lt _ (by omega)
 rw [F,v] at vc
 generalize k / 32=w at *
 generalize k%32=r at *
 clear F v o
 have K:i64.wrap (w:Int)=(w:Int):=i64w (by omega)
 have L:u64.wrap (r:Int)=(r:Int):=aJ (by omega)
 have q:(min r IntKind.u64.bits)=r:=by
  show min _ 64=r
  omega
 simp only [K,L,Int.toNat_natCast,q,bU] at vc
 refine vc _ ⟨by omega,fun h W X=>?_,fun h=>?_⟩
 ·have h:n<=w:=by simp at h;omega
  have a:=dR hd.cI
  have:4294967296^ds.length<=4294967296^w:=Nat.pow_le_pow_right (by omega) (by omega)
  rw [Nat.div_eq_of_lt (Nat.lt_of_lt_of_le a this),Nat.zero_div]
  exact ⟨_,_,_,rfl,RD.nil⟩
 ·have h:w<n:=by simp at h;omega
  clear vc
  have s:val ds / 4294967296^w=val (ds.drop w):=by
   have e:val ds=val (ds.take w++ds.drop w):=by rw [List.take_append_drop]
   have a:=dR (hd.cI.take w)
   rw [cA] at e
   rw [List.length_take,Nat.min_eq_left (by omega)] at e a
   rw [e,Nat.add_mul_div_left _ _ (Nat.pow_pos (by omega)),Nat.div_eq_of_lt a,Nat.zero_add]
  rw [s]
  have j:=HL hd h
  have M:=j.len
  clear s
  generalize pH p c w 1=sp at *
  generalize ds.drop w=xs at *
  generalize hN:n-w=N at *
  refine ⟨by omega,by omega,⟨by omega,by omega⟩,by omega,by omega,by omega,fun z V'=>0<=z.1/\z.1<=N/\∃es:List Nat,z.2=aA es/\es.length=N/\bl es /\
   val (es.take z.1.toNat)+4294967296^z.1.toNat*(val (xs.drop z.1.toNat) / 2^r)=val xs / 2^r,fun z=>N-z.1.toNat,
   ⟨(0,aA (List.replicate N 0)),by (try dsimp only);and_intros<;>first|exact True.intro|rfl,by (try dsimp only);omega,by (try dsimp only);omega,_,rfl,by simp,bl.rep _,by simp⟩,?_⟩
  rintro ⟨i,Z⟩ V4 G ⟨t,A,es,rfl,B,f,b⟩
  dsimp only at t A b ⊢
  obtain ⟨i,rfl⟩:=Int.eq_ofNat_of_zero_le t
  simp only [Int.toNat_natCast] at b
  refine ⟨by trivial,fun m=>?_,fun m=>?_⟩
  ·have m:i<N:=by simpa using m
   have O:i64.wrap ((i:Int)+1)=((i+1:Nat):Int):=by rw [i64w (by omega)];omega
   simp only [O,Int.toNat_natCast,Nat.mul_one,Nat.zero_add]
   refine GN (j.le G) i (by omega) ?_
   have H:=j.cI.get (i:=i) (by omega)
   refine ⟨fun z V'=>z=((xs[i]+4294967296*(xs[i+1]?).getD 0:Nat):Int),⟨fun d=>?_,fun d=>?_⟩,?_⟩
   ·have d:i+1<N:=by simp at d;omega
    have C:=j.cI.get (i:=i+1) (by omega)
    have E:aV .or .u64 (u64.wrap ((xs[i]:Nat):Int)) (u64.wrap (u64.wrap ((xs[i+1]:Nat):Int)*2^32))=((xs[i]+4294967296*(xs[i+1]?).getD 0:Nat):Int):=by
     have v:((2:Int)^32)=4294967296:=by decide
     rw [v,aJ (by omega),aJ (x:=((xs[i+1]:Nat):Int)) (by omega),aJ (by omega),ET _ _ C H,List.getElem?_eq_getElem (by omega),Option.getD_some]
     omega
    refine GN (j.le G) (i+1) (by omega) ⟨by omega,((xs[i]+4294967296*(xs[i+1]?).getD 0:Nat):Int),?_,rfl⟩
    (try dsimp only);and_intros<;>first|exact True.intro|exact E|rfl
   ·have d:N<=i+1:=by simp at d;omega
    have E:u64.wrap ((xs[i]:Nat):Int)=((xs[i]+4294967296*(xs[i+1]?).getD 0:Nat):Int):=by
     rw [aJ (by omega),List.getElem?_eq_none (by omega)];simp
    refine ⟨((xs[i]+4294967296*(xs[i+1]?).getD 0:Nat):Int),?_,rfl⟩
    (try dsimp only);and_intros<;>first|exact True.intro|exact E|rfl
   rintro _ P Q rfl
   have u:=zj (Y:=val (xs.drop (i+1))) H y
   rw [mT j.cI] at u
   have g:val (xs.drop i)=xs[i]+4294967296*val (xs.drop (i+1)):=by
    rw [List.drop_eq_getElem_cons (by omega),aR]
   rw [g,u] at b
   rw [eJ,fP]
   obtain ⟨D,I⟩:∃D,D=(xs[i]+4294967296*(xs[i+1]?).getD 0) / 2^r%4294967296:=⟨_,rfl⟩
   have R:(((xs[i]+4294967296*(xs[i+1]?).getD 0) / 2^r:Nat):Int)%4294967296=(D:Int):=by rw [I];omega
   rw [R]
   rw [←I] at b
   refine ⟨by trivial,by omega,⟨by omega,by omega⟩,by simp;omega,(((i+1:Nat):Int),aA (es.set i D)),?_,?_,?_⟩
   ·(try dsimp only);omega
   ·(try dsimp only);and_intros<;>first|exact True.intro|rfl|rw [←aX]
   ·(try dsimp only)
    refine ⟨by omega,by omega,_,rfl,by simpa using B,f.set _ _ (by omega),?_⟩
    simp only [Int.toNat_natCast]
    rw [aF _ _ _ (by omega),←b,Nat.pow_succ,Nat.mul_add,Nat.add_assoc,Nat.mul_assoc]
  ·have m:i=N:=by simp at m;omega
   subst m
   intro P Q bk S
   refine (bZ (RD.aZ S f (n:=i) (c:=i) (by omega) (Nat.le_refl _)) (by omega)).mono ?_
   rintro r' V6 l6 ⟨k',rfl,d⟩
   refine ⟨_,_,_,rfl,fun _ V7 T=>⟨_,_,_,rfl,?_⟩⟩
   rw [ai (by omega),List.drop_of_length_le (l:=xs) (i:=i) (by omega)] at b
   have b:val es=val xs / 2^r:=by
    rw [←b,di,Nat.zero_div,Nat.mul_zero,Nat.add_zero]
   rw [aI f,b] at d
   exact d.le T
end Go.Proofs.Tryz
namespace Go.Big
theorem oZ {ds:List Nat}(hd:bl ds)(w:Nat)(hw:w<=ds.length):val ds / 4294967296^w=val (ds.drop w):=by
 have e:val ds=val (ds.take w++ds.drop w):=by rw [List.take_append_drop]
 have a:=dR (hd.take w)
 rw [cA] at e
 rw [List.length_take,Nat.min_eq_left (by omega)] at e a
 rw [e,Nat.add_mul_div_left _ _ (Nat.pow_pos (by omega)),Nat.div_eq_of_lt a,Nat.zero_add]
theorem Kx {R n:Nat}(h:(ae R).length=n+2):R / 4294967296^n=(ae R)[n+1]'(by omega)*4294967296+(ae R)[n]'(by omega):=by
 have:=oZ (aB R) n (by omega)
 rw [ab] at this
 rw [this,List.drop_eq_getElem_cons (by omega),List.drop_eq_getElem_cons (i:=n+1) (by omega),List.drop_of_length_le (by omega)]
 simp only [aR,di]
 omega
theorem HA {R n:Nat}(h:(ae R).length=n+1):R / 4294967296^n=(ae R)[n]'(by omega):=by
 have:=oZ (aB R) n (by omega)
 rw [ab] at this
 rw [this,List.drop_eq_getElem_cons (by omega),List.drop_of_length_le (by omega)]
 simp only [aR,di]
 omega
theorem Kw {R n:Nat}(h:(ae R).length<=n):R / 4294967296^n=0:=Nat.div_eq_of_lt (aC.1 h)
theorem Bb {V n:Nat}(h:(ae V).length=n+1):(ae V)[n]'(by omega)*4294967296^n<=V:=by
 have:=HA h
 rw [←this]
 exact Nat.div_mul_le_self _ _
theorem Ee {R V top P W:Nat}(hV:top*P<=V)(ht:0<top)(hP:0<P)(hW:0<W):R / (V*W)<=R / (P*W) / top:=by
 rw [Nat.le_div_iff_mul_le ht,Nat.le_div_iff_mul_le (Nat.mul_pos hP hW)]
 have a:R / (V*W)*(V*W)<=R:=Nat.div_mul_le_self _ _
 have b:R / (V*W)*(top*P*W)<=R / (V*W)*(V*W):=Nat.mul_le_mul_left _ (Nat.mul_le_mul_right _ hV)
 have c:R / (V*W)*top*(P*W)=R / (V*W)*(top*P*W):=by
  generalize R / (V*W)=q
  rw [Nat.mul_assoc q top,←Nat.mul_assoc top P W]
 omega
theorem CY {A V W D R q R':Nat}(h:A=V*(W*4294967296*D)+R)(hq:R=V*q*W+R'):A=V*(W*(q+4294967296*D))+R':=by
 subst hq;rw [h];grind
theorem EB {x y s Q R:Nat}(h:x*2^s=y*2^s*Q+R)(hR:R<y*2^s):Q=x / y/\R / 2^s=x%y:=by
 have c:=Nat.two_pow_pos s
 have f:0<y:=by
  rcases Nat.eq_zero_or_pos y with e|e
  ·subst e;simp at hR
  ·exact e
 have g:y*2^s*Q=(y*Q)*2^s:=by grind
 rw [g] at h
 have i:y*Q<=x:=by
  rcases Nat.lt_or_ge x (y*Q) with a|a
  ·have:(x+1)*2^s<=y*Q*2^s:=Nat.mul_le_mul_right _ a
   rw [Nat.add_mul] at this
   omega
  ·exact a
 obtain ⟨d,rfl⟩:=Nat.exists_eq_add_of_le i
 rw [Nat.add_mul] at h
 have j:R=d*2^s:=by omega
 subst j
 have b:d<y:=Nat.lt_of_mul_lt_mul_right hR
 rw [Nat.mul_div_cancel _ c]
 constructor
 ·rw [Nat.mul_add_div f,Nat.div_eq_of_lt b,Nat.add_zero]
 ·rw [Nat.mul_add_mod,Nat.mod_eq_of_lt b]
theorem HC (j:Nat):2^(32*j)=4294967296^j:=by rw [Nat.pow_mul]
theorem Ay {R V W g:Nat}(Jg:0<V*W)(h:V*g*W<=R)(hq:R / (V*W)<=g):g=R / (V*W):=by
 have:g<=R / (V*W):=by
  rw [Nat.le_div_iff_mul_le Jg]
  have:g*(V*W)=V*g*W:=by grind
  omega
 omega
theorem Ef {R V W g:Nat}(Jg:0<V*W)(h:R<V*g*W):R / (V*W)<g:=by
 rw [Nat.div_lt_iff_lt_mul Jg]
 have:g*(V*W)=V*g*W:=by grind
 omega
theorem A7 {R V W:Nat}:R=V*(R / (V*W))*W+R%(V*W):=by
 have:=Nat.div_add_mod R (V*W)
 have e:V*(R / (V*W))*W=V*W*(R / (V*W)):=by
  generalize R / (V*W)=q
  grind
 omega
theorem fJ {a b:Nat}:(ae (a*b)).length<=(ae a).length+(ae b).length:=by
 rw [aC,Nat.pow_add]
 have c:a<4294967296^(ae a).length:=aC.1 (Nat.le_refl _)
 have d:b<4294967296^(ae b).length:=aC.1 (Nat.le_refl _)
 exact Nat.mul_lt_mul'' c d
theorem vQ (j:Nat):(ae (4294967296^j)).length<=j+1:=by
 rw [aC]
 exact Nat.pow_lt_pow_right (by omega) (by omega)
end Go.Big
namespace Go.Proofs.Tryz
open Go.Eng Go.Big
theorem R5 {V:View}{p:OA}{n c:Nat}{ds:List Nat}(h:RD V p n c ds){i:Int}{K:Int->Prop}(j d:Nat)(hj:i=j)(hn:ds[j]?=some d)
  (hK:K (d:Int)):(p.isSome=true)/\(0<=i/\i<(n:Int))/\∃x:Int,(∃a,addrAdd p (i.toNat*1)=some a/\V.at a (.int .u32 x))/\K x:=by
 have b:j<ds.length:=by
  rcases Nat.lt_or_ge j ds.length with h|h
  ·exact h
  ·rw [List.getElem?_eq_none h] at hn;cases hn
 refine h.rd j hj b ?_
 rw [List.getElem?_eq_getElem b] at hn
 cases hn;exact hK
theorem Dl {W n:Nat}(h:(ae W).length=n+1):∃top,(ae W)[n]?=some top/\top≠0/\top<4294967296/\top*4294967296^n<=W:=by
 refine ⟨(ae W)[n]'(by omega),List.getElem?_eq_getElem _,?_,(aB W).get _,Bb h⟩
 have:=(fo W).last (by omega)
 simpa [h] using this
structure tZ (A V L:Nat) (R:Nat) (j:Nat) (es:List Nat):Prop where
 len:es.length=L
 cI:bl es
 lt:R<V*4294967296^j
 eq:A=V*(4294967296^j*val (es.drop j))+R
theorem tZ.step {A V L R j:Nat}{es:List Nat}(h:tZ A V L R (j+1) es)(hj:j<L)(hV:0<V) :
  R / (V*4294967296^j)<4294967296/\tZ A V L (R-V*(R / (V*4294967296^j))*4294967296^j) j (es.set j (R / (V*4294967296^j))):=by
 have c:0<4294967296^j:=Nat.pow_pos (by omega)
 have a:0<V*4294967296^j:=Nat.mul_pos hV c
 have b:R / (V*4294967296^j)<4294967296:=by
  rw [Nat.div_lt_iff_lt_mul a]
  have:=h.lt
  rw [Nat.pow_succ] at this
  have e:4294967296*(V*4294967296^j)=V*(4294967296^j*4294967296):=by
   generalize 4294967296^j=w
   grind
  omega
 have d:=A7 (R:=R) (V:=V) (W:=4294967296^j)
 have hm:=Nat.mod_lt R a
 have he:R-V*(R / (V*4294967296^j))*4294967296^j=R%(V*4294967296^j):=by omega
 refine ⟨b,⟨by simpa using h.len,h.cI.set _ _ b,by rw [he];exact hm,?_⟩⟩
 have f:=h.len
 rw [List.drop_eq_getElem_cons (by simp;omega),List.getElem_set_self,List.drop_set_of_lt (by omega),aR,he]
 exact CY (by have:=h.eq;rwa [Nat.pow_succ] at this) d
theorem Fh {R V j:Nat}(h:R<V*4294967296^(j+1)):(ae R).length<=(ae V).length+j+1:=by
 have a:V*4294967296^(j+1)<=4294967296^(ae V).length*4294967296^(j+1):=Nat.mul_le_mul_right _ (Nat.le_of_lt (aC.1 (Nat.le_refl _)))
 rw [←Nat.pow_add] at a
 have:=aC.2 (Nat.lt_of_lt_of_le h a)
 omega
theorem Gp {R n:Nat}(h:(ae R).length<=n+2):R / 4294967296^n<18446744073709551616:=by
 rw [Nat.div_lt_iff_lt_mul (Nat.pow_pos (by omega))]
 have:=aC.1 h
 rw [Nat.pow_succ,Nat.pow_succ] at this
 have e:4294967296^n*4294967296*4294967296=18446744073709551616*4294967296^n:=by
  generalize 4294967296^n=w
  omega
 omega
theorem Al {V:View}{p q:OA}{n c m e:Nat}{x y:Nat}(hx:RN V p n c x)(hy:RN V q m e y)(hm:(ae x).length<=274877906944)(hy0:0<y)(hle:(ae y).length<=(ae x).length) :
  Acts prog 155 #[.slice p n c,.slice q m e] V fun r V'=>∃p1 n1 c1 p2 n2 c2,r=.tuple #[.slice p1 n1 c1,.slice p2 n2 c2]/\RN V' p1 n1 c1 (x / y)/\RN V' p2 n2 c2 (x%y):=by
 have a4:=hx.len
 have xj:=hy.len
 have c5:0<m:=by
  rcases Nat.eq_zero_or_pos m with h|h
  ·have:=aT.1 (List.length_eq_zero_iff.1 (xj▸h));omega
  ·exact h
 have vc:=zR p n c q m e V
 have w1:i64.wrap ((m:Int)-1)=((m-1:Nat):Int):=by rw [i64w (by omega)];omega
 have w2:i64.wrap ((n:Int)-m)=((n-m:Nat):Int):=by rw [i64w (by omega)];omega
 have w3:i64.wrap (((n-m:Nat):Int)+1)=((n-m+1:Nat):Int):=by rw [i64w (by omega)];omega
 have w4:i64.wrap (((n-m+1:Nat):Int)-1)=((n-m:Nat):Int):=by rw [i64w (by omega)];omega
 simp only [w1,w2,w3,Int.toNat_natCast,w4,bU] at vc
 obtain ⟨L,hL⟩:∃L,L=n-m+1:=⟨_,rfl⟩
 rw [←hL] at vc
 refine vc _ ?_
 clear vc
 refine hy.rd (m-1) rfl (by omega) fun V1 P=>(eR _ ((aB y).get (by omega))).mono ?_
 rintro r V2 S rfl
 have a5:bg ((ae y)[m-1]'(by omega))<=32:=gR.2 (by have:=(aB y).get (i:=m-1) (by omega);omega)
 obtain ⟨s,hs⟩:∃s:Nat,(32:Int)-(bg ((ae y)[m-1]'(by omega)):Int)=s:=⟨32-bg ((ae y)[m-1]'(by omega)),by omega⟩
 have Gh:s<=32:=by omega
 rw [hs]
 clear hs a5
 refine ⟨_,rfl,fun V3 l3=>(jj (hy.le (P.trans (S.trans l3))) (by omega) s (by omega)).mono ?_⟩
 rintro r V4 l4 ⟨vp,d,vc,rfl,H⟩
 rw [ab] at H
 refine ⟨_,_,_,rfl,fun V5 l5=>(jj (hx.le (P.trans (S.trans (l3.trans (l4.trans l5))))) (by omega) s (by omega)).mono ?_⟩
 rintro r V6 l6 ⟨rp,O,rc,rfl,hr⟩
 rw [ab] at hr
 replace H:=H.le (l5.trans l6)
 have a6:=H.len
 have T:=Nat.two_pow_pos s
 have c6:2^s<=4294967296:=Nat.pow_le_pow_right (n:=2) (by omega) Gh
 have Pj:0<y*2^s:=Nat.mul_pos hy0 T
 have c7:(ae (2^s)).length<=2:=aC.2 (by omega)
 have c8:d<=m+2:=by have:=fJ (a:=y) (b:=2^s);omega
 have SZ:0<d:=by
  rcases Nat.eq_zero_or_pos d with h|h
  ·have:=aT.1 (List.length_eq_zero_iff.1 (a6▸h));omega
  ·exact h
 have I:tZ (x*2^s) (y*2^s) L (x*2^s) L (List.replicate L 0):=by
  refine ⟨by simp,bl.rep _,?_,by simp⟩
  have h1:x<4294967296^n:=by rw [a4];exact aC.1 (Nat.le_refl _)
  have h2:4294967296^(m-1)<=y:=by rw [←oH];omega
  have C:4294967296^(m-1)*4294967296^L<=y*4294967296^L:=Nat.mul_le_mul_right _ h2
  rw [←Nat.pow_add,show m-1+L=n from by omega] at C
  have D:x*2^s<y*4294967296^L*2^s:=Nat.mul_lt_mul_of_pos_right (by omega) T
  have E:y*4294967296^L*2^s=y*2^s*4294967296^L:=by
   generalize 4294967296^L=w
   grind
  omega
 have G:∀{Q R:Nat},x*2^s=y*2^s*Q+R->R<y*2^s->Q=x / y/\R / 2^s=x%y:=fun h1 h2=>EB h1 h2
 generalize x*2^s=A at *
 generalize y*2^s=W at *
 have w5:i64.wrap ((d:Int)-1)=((d-1:Nat):Int):=by rw [i64w (by omega)];omega
 simp only [w5,Int.toNat_natCast]
 refine ⟨_,_,_,rfl,?_⟩
 obtain ⟨top,Rh,Pt,Pu,Kh⟩:=Dl (W:=W) (n:=d-1) (by omega)
 refine R5 H (d-1) top rfl Rh ?_
 have w6:u64.wrap (top:Int)=top:=aJ (by omega)
 simp only [w6]
 refine ⟨by omega,by omega,by omega,fun z V'=>∃R:Nat,RN V' z.1 z.2.1 z.2.2.1 R/\-1<=z.2.2.2.1/\z.2.2.2.1<L/\∃es:List Nat,z.2.2.2.2=aA es/\tZ A W L R (z.2.2.2.1+1).toNat es,fun z=>(z.2.2.2.1+1).toNat,
  ⟨(rp,O,rc,((n-m:Nat):Int),aA (List.replicate L 0)),by (try dsimp only);and_intros<;>first|exact True.intro|rfl,A,hr,by (try dsimp only);omega,by (try dsimp only);omega,_,rfl,?_⟩,?_⟩
 ·(try dsimp only)
  rw [show (((n-m:Nat):Int)+1).toNat=L from by omega]
  exact I
 rintro ⟨rp,O,rc,j,vs⟩ V7 l7 ⟨R,J,a7,a8,es,rfl,o⟩
 dsimp only at J a7 a8 o ⊢
 have c9:=J.len
 refine ⟨by trivial,fun C=>?_,fun C=>?_⟩
 ·have C:0<=j:=by simpa using C
  obtain ⟨j,rfl⟩:=Int.eq_ofNat_of_zero_le C
  have o:tZ A W L R (j+1) es:=o
  have Q4:j<L:=by omega
  have U:=Fh o.lt
  obtain ⟨hq,X⟩:=o.step Q4 Pj
  have w7:i64.wrap ((d:Int)+j)=((d-1+j+1:Nat):Int):=by rw [i64w (by omega)];omega
  have w8:i64.wrap (((d-1+j+1:Nat):Int)-1)=((d-1+j:Nat):Int):=by rw [i64w (by omega)];omega
  have w9:i64.wrap ((32:Int)*j)=((32*j:Nat):Int):=by rw [i64w (by omega)];omega
  have Oh:i64.wrap ((j:Int)-1)=(j:Int)-1:=i64w (by omega)
  simp only [w7,w8,w9,Oh,Int.toNat_natCast]
  have U:(ae R).length<=d-1+j+2:=by omega
  have a9:=Gp U
  have hP:0<4294967296^(d-1):=Nat.pow_pos (by omega)
  have hW:0<4294967296^j:=Nat.pow_pos (by omega)
  have hg:=Ee (R:=R) Kh (by omega) hP hW
  rw [←Nat.pow_add] at hg
  have S:=@Kx R (d-1+j)
  have P:=@HA R (d-1+j)
  have l0:=@Kw R (d-1+j)
  have l:∀i (hi:i<(ae R).length),(ae R)[i]<4294967296:=fun i hi=>(aB R).get hi
  generalize R / 4294967296^(d-1+j)=lead at *
  refine ⟨fun z V'=>z=(lead:Int),⟨fun D=>?_,fun D=>?_⟩,?_⟩
  ·have D:d-1+j+1<O:=by simp at D;omega
   refine (J.rd (d-1+j+1) rfl (by omega) ⟨by omega,J.rd (d-1+j) rfl (by omega) ⟨(lead:Int),?_,rfl⟩⟩)
   have Y:aV .or .u64 (u64.wrap (u64.wrap (((ae R)[d-1+j+1]'(by omega):Nat):Int)*2^32)) (u64.wrap (((ae R)[d-1+j]'(by omega):Nat):Int))=(lead:Int):=by
    have e3:((2:Int)^32)=4294967296:=by decide
    have g1:=l (d-1+j+1) (by omega)
    have Z:=l (d-1+j) (by omega)
    have:=S (by omega)
    rw [e3,aJ (x:=(((ae R)[d-1+j+1]'(by omega):Nat):Int)) (by omega),aJ (x:=(((ae R)[d-1+j]'(by omega):Nat):Int)) (by omega),aJ (by omega),yR _ _ g1 Z,this]
    omega
   (try dsimp only);and_intros<;>first|exact True.intro|exact Y|rfl
  ·have D:O<=d-1+j+1:=by simp at D;omega
   refine ⟨fun z V'=>z=(lead:Int),⟨fun E=>?_,fun E=>?_⟩,?_⟩
   ·have E:d-1+j<O:=by simp at E;omega
    refine J.rd (d-1+j) rfl (by omega) ⟨(lead:Int),?_,rfl⟩
    have Y:u64.wrap (((ae R)[d-1+j]'(by omega):Nat):Int)=(lead:Int):=by
     have Z:=l (d-1+j) (by omega)
     rw [aJ (by omega),P (by omega)]
    (try dsimp only);and_intros<;>first|exact True.intro|exact Y|rfl
   ·have E:O<=d-1+j:=by simp at E;omega
    have Y:(0:Int)=(lead:Int):=by rw [l0 (by omega)];rfl
    refine ⟨(lead:Int),?_,rfl⟩
    (try dsimp only);and_intros<;>first|exact True.intro|exact Y|rfl
   ·rintro _ V8 l8 rfl
    refine ⟨by trivial,(lead:Int),?_,rfl⟩
    (try dsimp only);and_intros<;>first|exact True.intro|rfl
  rintro _ V9 l9 rfl
  clear S P l0 l
  have JV:(lead:Int).tdiv (top:Int)=((lead / top:Nat):Int):=by rw [Int.tdiv_eq_ediv_of_nonneg (by omega)];omega
  have b0:lead / top<=lead:=Nat.div_le_self _ _
  rw [JV]
  generalize lead / top=lt at *
  obtain ⟨F,a0,H7,MY⟩:∃F:Nat,bF (u64.wrap (lt:Int)) 4294967295=(F:Int)/\F<4294967296/\R / (W*4294967296^j)<=F:=by
   rw [aJ (by omega)]
   unfold bF
   split
   ·exact ⟨4294967295,rfl,by omega,by omega⟩
   ·exact ⟨lt,rfl,by omega,hg⟩
  rw [a0]
  clear a0 JV b0 hg a9
  have Pk:0<W*4294967296^j:=Nat.mul_pos Pj hW
  have v:∀g:Nat,g<4294967296->(ae g).length<=1:=fun g hg=>aC.2 (by omega)
  refine ⟨by trivial,by omega,fun b5 u=>(cO F (by omega)).mono ?_⟩
  rintro r b6 B ⟨gp,gn,gc,rfl,b7⟩
  refine ⟨_,_,_,rfl,fun b8 t=>(bY (H.le (l7.trans (l9.trans (u.trans (B.trans t))))) (b7.le t) (by have:=v F H7;omega)).mono ?_⟩
  rintro r d0 a1 ⟨pp,pn,pc,rfl,Jd⟩
  rw [ab,ab] at Jd
  have K:=fun g=>fJ (a:=W) (b:=g)
  refine ⟨_,_,_,rfl,fun d1 eh=>(jj (Jd.le eh) (by have:=v F H7;have:=K F;omega) (32*j) (by omega)).mono ?_⟩
  rintro r d2 en ⟨tp,tn,tc,rfl,Je⟩
  rw [ab,HC] at Je
  have J2:=J.le (l9.trans (u.trans (B.trans (t.trans (a1.trans (eh.trans en))))))
  have Nb:=H.le (l7.trans (l9.trans (u.trans (B.trans (t.trans (a1.trans (eh.trans en)))))))
  refine ⟨_,_,_,rfl,fun z V'=>∃g:Nat,z.1=g/\g<4294967296/\R / (W*4294967296^j)<=g/\RN V' z.2.1 z.2.2.1 z.2.2.2 (W*g*4294967296^j),fun z=>z.1.toNat,
   ⟨((F:Int),tp,tn,tc),by (try dsimp only);and_intros<;>first|exact True.intro|rfl,F,rfl,H7,MY,Je⟩,?_⟩
  rintro ⟨_,tp,tn,tc⟩ lV dB ⟨g,rfl,b9,Q3,ht⟩
  dsimp only at ht ⊢
  have c0:(ae (W*g*4294967296^j)).length<=1099511627776:=by
   have h1:=fJ (a:=W*g) (b:=4294967296^j)
   have h2:=vQ j
   have C:=K g
   have D:=v g b9
   omega
  refine ⟨by trivial,fun oB df=>(eW (ht.le df) (J2.le (dB.trans df)) c0 (by omega)).mono ?_⟩
  rintro r qj eQ rfl
  refine ⟨_,rfl,fun f=>?_,fun f=>?_⟩
  ·have f:R<W*g*4294967296^j:=by
    have f:0<ig (W*g*4294967296^j) R:=by simpa using f
    unfold ig at f
    split at f
    ·omega
    ·split at f
     ·assumption
     ·omega
   have c3:=Ef Pk f
   have d3:0<g:=Nat.lt_of_le_of_lt (Nat.zero_le _) c3
   have e1:u64.wrap ((g:Int)-1)=((g-1:Nat):Int):=by rw [aJ (by omega)];omega
   simp only [e1]
   refine fun vl fW=>(cO (g-1) (by omega)).mono ?_
   rintro r BF kb ⟨gp,gn,gc,rfl,c4⟩
   refine ⟨_,_,_,rfl,fun sZ gN=>(bY (Nb.le (dB.trans (df.trans (eQ.trans (fW.trans (kb.trans gN)))))) (c4.le gN) (by have:=v (g-1) (by omega);omega)).mono ?_⟩
   rintro r xo kQ ⟨pp,pn,pc,rfl,a2⟩
   rw [ab,ab] at a2
   refine ⟨_,_,_,rfl,fun xp jP=>(jj (a2.le jP) (by have:=v (g-1) (by omega);have:=K (g-1);omega) (32*j) (by omega)).mono ?_⟩
   rintro r FK Ex ⟨tp,tn,tc,rfl,O_⟩
   rw [ab,HC] at O_
   refine ⟨_,_,_,rfl,(((g-1:Nat):Int),tp,tn,tc),?_,by (try dsimp only);and_intros<;>first|exact True.intro|rfl,g-1,rfl,by omega,by omega,O_⟩
   (try dsimp only);omega
  ·have f:W*g*4294967296^j<=R:=by
    have f:¬0<ig (W*g*4294967296^j) R:=by simpa using f
    unfold ig at f
    split at f
    ·omega
    ·split at f
     ·omega
     ·omega
   have M:=Ay Pk f Q3
   rw [←M] at X
   have d4:=o.len
   refine ⟨⟨by omega,by omega⟩,by simp;omega,fun FL a3=>(ld (J2.le (dB.trans (df.trans (eQ.trans a3)))) (ht.le (df.trans (eQ.trans a3))) (by omega) (ay f) (by rw [ab,ab];exact f)).mono ?_⟩
   rintro r LM d5 ⟨np,nn,nc,rfl,Pa⟩
   rw [ab,ab] at Pa
   have e1:u32.wrap (g:Int)=(g:Int):=mS (by omega)
   have e2:(aA es).set (0+j*1) (.int .u32 (g:Int))=aA (es.set j g):=by rw [←aX];simp
   simp only [e1]
   refine ⟨_,_,_,rfl,(np,nn,nc,(j:Int)-1,aA (es.set j g)),?_,by (try dsimp only);and_intros<;>first|exact True.intro|rfl|exact e2|(rw [←aX];simp),R-W*g*4294967296^j,Pa,by (try dsimp only);omega,by (try dsimp only);omega,_,rfl,?_⟩
   ·(try dsimp only);omega
   ·(try dsimp only)
    rw [show ((j:Int)-1+1).toNat=j from by omega]
    exact X
 ·have C:j=-1:=by simp at C;omega
  subst C
  have M9:(ae R).length<=1099511627776:=by
   have f:=o.lt
   have f:R<W:=by simpa using f
   have:=ay (Nat.le_of_lt f)
   omega
  intro V8 l8 bk hb
  refine (bZ (RD.aZ hb o.cI (n:=L) (c:=L) o.len.symm (Nat.le_refl _)) (by have:=o.len;omega)).mono ?_
  rintro r V9 l9 ⟨k,rfl,D⟩
  refine ⟨_,_,_,rfl,fun _ b5 u=>(xN (J.le (l8.trans (l9.trans u))) M9 s (by omega)).mono ?_⟩
  rintro r b6 B ⟨p2,n2,c2,rfl,E⟩
  rw [ab] at E
  refine ⟨_,_,_,rfl,fun b8 t=>⟨_,_,_,_,_,_,rfl,?_,?_⟩⟩
  ·have f:=o.lt
   have N:=o.eq
   have f:R<W:=by simpa using f
   have N:A=W*val es+R:=by simpa using N
   obtain ⟨g1,Z⟩:=G N f
   rw [aI o.cI,g1] at D
   exact D.le (u.trans (B.trans t))
  ·have f:=o.lt
   have N:=o.eq
   have f:R<W:=by simpa using f
   have N:A=W*val es+R:=by simpa using N
   obtain ⟨g1,Z⟩:=G N f
   rw [Z] at E
   exact E.le t
theorem m_ {x:Nat}(h:(ae x).length<=2):x<18446744073709551616:=by
 have:=aC.1 h
 omega
theorem copied {V:View}{b n c:Nat}{ds:List Nat}{sp:List Value}{ty:TypeId}(hd:bl ds)(hn:n=ds.length)(hc:n<=c)(hb:V.aZ b (.cells (aA ds++sp).toArray ty (0,0))):RD V (some ⟨b,0,none⟩) n c ds:=by
 refine ⟨hn,hc,fun i v a=>⟨_,rfl,?_⟩,hd,fun e=>nomatch e⟩
 rw [add_zero']
 refine blk_at hb ?_
 rw [List.getElem?_append_left]
 ·exact a
 ·rcases Nat.lt_or_ge i (aA ds).length with e|e
  ·exact e
  ·rw [List.getElem?_eq_none e] at a;cases a
theorem cY {V:View}{p q:OA}{n c m e:Nat}{x y:Nat}(hx:RN V p n c x)(hy:RN V q m e y)(hm:(ae x).length<=274877906944)(hm':(ae y).length<=274877906944)(hy0:0<y) :
  Acts prog 119 #[.slice p n c,.slice q m e] V fun r V'=>∃p1 n1 c1 p2 n2 c2,r=.tuple #[.slice p1 n1 c1,.slice p2 n2 c2]/\RN V' p1 n1 c1 (x / y)/\RN V' p2 n2 c2 (x%y):=by
 have o:=hx.len
 have xj:=hy.len
 have a1:0<m:=by
  rcases Nat.eq_zero_or_pos m with h|h
  ·have:=aT.1 (List.length_eq_zero_iff.1 (xj▸h));omega
  ·exact h
 refine tS p n c q m e V _ fun V1 w=>(jl (hx.le w) (by omega)).mono ?_
 rintro r V2 G rfl
 rw [ab]
 refine ⟨_,_,rfl,fun z V'=>True,⟨fun a=>?_,fun a=>⟨(),by (try dsimp only);and_intros<;>first|exact True.intro|rfl,trivial⟩⟩,?_⟩
 ·have a:n<=2:=by simpa using a
  refine fun V3 l3=>(jl (hy.le (w.trans (G.trans l3))) (by omega)).mono ?_
  rintro r V4 l4 rfl
  rw [ab]
  refine ⟨_,_,rfl,fun f=>?_,fun f=>⟨(),by (try dsimp only);and_intros<;>first|exact True.intro|rfl,trivial⟩⟩
  have f:m<=2:=by simpa using f
  have a2:=m_ (x:=x) (by omega)
  have Px:=m_ (x:=y) (by omega)
  rw [if_pos a,if_pos f]
  have hq:x / y<=x:=Nat.div_le_self _ _
  have hr:x%y<y:=Nat.mod_lt _ hy0
  have H:((x:Nat):Int).tdiv (y:Int)=((x / y:Nat):Int):=by rw [Int.tdiv_eq_ediv_of_nonneg (by omega)];omega
  have I:((x:Nat):Int).tmod (y:Int)=((x%y:Nat):Int):=by rw [Int.tmod_eq_emod_of_nonneg (by omega)];omega
  rw [H,I]
  generalize x / y=qq at *
  generalize x%y=rr at *
  have K:u64.wrap (qq:Int)=qq:=aJ (by omega)
  rw [K]
  refine ⟨by omega,by omega,fun V5 l5=>(cO qq (by omega)).mono ?_⟩
  rintro r V6 l6 ⟨p1,n1,c1,rfl,L⟩
  refine ⟨_,_,_,rfl,fun V7 l7=>(cO rr (by omega)).mono ?_⟩
  rintro r V8 l8 ⟨p2,n2,c2,rfl,M⟩
  exact ⟨_,_,_,rfl,fun V9 l9=>⟨_,_,_,_,_,_,rfl,L.le (l7.trans (l8.trans l9)),M.le l9⟩⟩
 rintro _ a3 A _
 replace hx:=hx.le (w.trans (G.trans A))
 replace hy:=hy.le (w.trans (G.trans A))
 refine ⟨by trivial,fun a4 j=>(eW (hx.le j) (hy.le j) (by omega) (by omega)).mono ?_⟩
 rintro r a5 B rfl
 replace hx:=hx.le (j.trans B)
 replace hy:=hy.le (j.trans B)
 refine ⟨_,rfl,fun a=>⟨aA (ae x),hx.sl,by simp [o],by omega,by omega,by simp,by simp [o],?_,?_⟩,fun a=>⟨fun f=>?_,fun f=>?_⟩⟩
 ·intro v g
  simp only [aA,List.mem_map] at g
  obtain ⟨d,-,rfl⟩:=g
  rfl
 ·have a:x<y:=by simpa [eG] using a
  intro bk J sp c' f h2 V1 w b E
  rw [Nat.div_eq_of_lt a,Nat.mod_eq_of_lt a]
  refine ⟨_,_,_,_,_,_,rfl,RD.nil,?_⟩
  simp only [Nat.zero_add,Nat.zero_mul,List.take_zero,List.nil_append] at E f ⊢
  exact copied (aB x) o f E
 ·have a:y<=x:=by simpa [←Int.not_lt,eG] using a
  have f:m=1:=by simp at f;omega
  subst f
  obtain ⟨d,F⟩:=ju (ds:=ae y) (by omega)
  have N:d=y:=by have:=ab y;rw [F] at this;simpa using this
  subst N
  have O:d<4294967296:=by have:=aB d;rw [F] at this;exact (bl.cons.1 this).1
  try unfold RN at hy
  rw [F] at hy
  have a6:0<n:=by have:=ay a;omega
  have w1:i64.wrap ((n:Int)-1)=(n:Int)-1:=i64w (by omega)
  simp only [w1,Int.toNat_natCast,bU]
  have uK:=aB x
  have Km:=ab x
  try unfold RN at hx
  clear F
  rw [←Km]
  clear Km a
  generalize ae x=xs at *
  refine ⟨by omega,by omega,by omega,fun z V'=>0<=z.1/\z.1<d/\-1<=z.2.1/\z.2.1<n/\∃es:List Nat,z.2.2=aA es/\es.length=n/\bl es /\
   val (xs.drop (z.2.1+1).toNat)=d*val (es.drop (z.2.1+1).toNat)+z.1.toNat,fun z=>(z.2.1+1).toNat,
   ⟨(0,(n:Int)-1,aA (List.replicate n 0)),by (try dsimp only);and_intros<;>first|exact True.intro|rfl,by (try dsimp only);omega,by (try dsimp only);omega,by (try dsimp only);omega,by (try dsimp only);omega,_,rfl,by simp,bl.rep _,?_⟩,?_⟩
  ·(try dsimp only)
   rw [List.drop_of_length_le (by omega),List.drop_of_length_le (by simp)];rfl
  rintro ⟨rest,i,vs⟩ P Q ⟨C,R,S,T,es,rfl,U,s,g⟩
  dsimp only at C R S T g ⊢
  obtain ⟨rest,rfl⟩:=Int.eq_ofNat_of_zero_le C
  refine ⟨by trivial,fun t=>?_,fun t=>?_⟩
  ·have t:0<=i:=by simpa using t
   obtain ⟨i,rfl⟩:=Int.eq_ofNat_of_zero_le t
   have W:((i:Int)+1).toNat=i+1:=by omega
   rw [W] at g
   simp only [Int.toNat_natCast] at g ⊢
   have MX:=uK.get (i:=i) (by omega)
   refine (hx.le Q).rd i rfl (by omega) (yY (hy.le Q) (by simp) fun X Y=>(FT rest xs[i] d (by omega) MX O).mono ?_)
   rintro r lV dB rfl
   have hq:(rest*4294967296+xs[i]) / d<4294967296:=by
    rw [Nat.div_lt_iff_lt_mul (by omega)]
    have:rest+1<=d:=by omega
    have:=Nat.mul_le_mul_right 4294967296 this
    rw [Nat.mul_comm 4294967296 d]
    omega
   have hr:(rest*4294967296+xs[i])%d<d:=Nat.mod_lt _ (by omega)
   have Dx:=Nat.div_add_mod (rest*4294967296+xs[i]) d
   generalize (rest*4294967296+xs[i]) / d=q at *
   generalize (rest*4294967296+xs[i])%d=r at *
   have w2:i64.wrap ((i:Int)-1)=(i:Int)-1:=i64w (by omega)
   simp only [w2]
   refine ⟨_,_,rfl,⟨by omega,by omega⟩,by simp;omega,((r:Int),(i:Int)-1,aA (es.set i q)),?_,?_,?_⟩
   ·(try dsimp only);omega
   ·(try dsimp only);and_intros<;>first|exact True.intro|rfl|(rw [←aX];simp)
   ·(try dsimp only)
    refine ⟨by omega,by omega,by omega,by omega,_,rfl,by simpa using U,s.set _ _ (by omega),?_⟩
    have Z:((i:Int)-1+1).toNat=i:=by omega
    rw [Z,List.drop_eq_getElem_cons (by omega),List.drop_eq_getElem_cons (l:=es.set i q) (by simp;omega),List.getElem_set_self,List.drop_set_of_lt (by omega)]
    have h9:xs[i]+4294967296*val (List.drop (i+1) xs)=d*(q+4294967296*val (List.drop (i+1) es))+r:=rY g Dx
    rw [aR,aR,Int.toNat_natCast]
    exact h9
  ·have t:i=-1:=by simp at t;omega
   subst t
   simp only [Int.toNat_natCast] at g
   have g:val xs=d*val es+rest:=by simpa using g
   intro oB df bk E
   refine (bZ (RD.aZ E s (n:=n) (c:=n) (by omega) (Nat.le_refl _)) (by omega)).mono ?_
   rintro r qj eQ ⟨k,rfl,h4⟩
   refine ⟨_,_,_,rfl,fun _ vl fW a0 u=>?_⟩
   have u:vl.aZ a0 (.cells (aA [rest]).toArray 225 (0,0)):=by
    simpa [aA] using u
   refine (bZ (RD.aZ u (n:=1) (c:=1) (by simp [bl];omega) rfl (Nat.le_refl _)) (by simp)).mono ?_
   rintro r BF kb ⟨k2,rfl,h5⟩
   refine ⟨_,_,_,rfl,fun _ sZ gN=>⟨_,_,_,_,_,_,rfl,?_,?_⟩⟩
   ·have H:val xs / d=val es:=by rw [g,Nat.mul_add_div (by omega),Nat.div_eq_of_lt (by omega),Nat.add_zero]
    rw [aI s] at h4
    rw [H]
    exact h4.le (fW.trans (kb.trans gN))
   ·have I:val xs%d=rest:=by rw [g,Nat.mul_add_mod,Nat.mod_eq_of_lt (by omega)]
    rw [aI (by simp [bl];omega)] at h5
    have K:val [rest]=rest:=by simp
    rw [K] at h5
    rw [I]
    exact h5.le gN
 ·have a:y<=x:=by simpa [←Int.not_lt,eG] using a
  refine fun a7 D=>(Al (hx.le D) (hy.le D) hm hy0 (ay a)).mono ?_
  rintro r P Q ⟨p1,n1,c1,p2,n2,c2,rfl,L,M⟩
  exact ⟨_,_,_,_,_,_,rfl,fun X Y=>⟨_,_,_,_,_,_,rfl,L.le Y,M.le Y⟩⟩
end Go.Proofs.Tryz
