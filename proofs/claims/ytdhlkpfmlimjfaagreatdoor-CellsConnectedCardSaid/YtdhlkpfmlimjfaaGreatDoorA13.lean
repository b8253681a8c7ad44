import Derived.Test.YtdhlkpfmlimjfaaGreatDoorA12
import Derived.Test.YtdhlkpfmlimjfaaGreatDoorA8
import Derived.Test.YtdhlkpfmlimjfaaGreatDoorA10
import Derived.Test.YtdhlkpfmlimjfaaGreatDoorA6
set_option linter.unusedVariables false
open Go.IntKind (i64 u64 u32)
namespace Go.Big
def fu (x y:Rat):Int:=(x-y).num.sign
def im (x y:Rat):Rat:=mkRat (Nat.gcd (x.num.natAbs*y.den) (y.num.natAbs*x.den):Nat) (x.den*y.den)
theorem yF {q:Rat}:q.num<0↔q<0:=by
 have:=@Rat.num_nonneg q
 rw [←Rat.not_le,←this];omega
theorem yG {q:Rat}:0<q.num↔0<q:=by
 have h1:=@Rat.num_nonneg q
 have h2:=@Rat.num_eq_zero q
 rw [Rat.lt_iff_le_and_ne,←h1]
 constructor
 ·intro h;exact ⟨by omega,fun e=>by rw [←e] at h;simp at h⟩
 ·rintro ⟨h,hne⟩
  have:q.num≠0:=fun e=>hne (h2.1 e).symm
  omega
theorem BD {x y:Rat}:x<y↔fu x y=-1:=by
 unfold fu
 rw [Int.sign_eq_neg_one_iff_neg,yF,Rat.lt_iff_sub_pos x y,←Rat.neg_sub y x]
 constructor
 ·intro h;have:=Rat.neg_lt_neg h;simpa using this
 ·intro h;have:=Rat.neg_lt_neg h;rw [Rat.neg_neg] at this;simpa using this
theorem BC {x y:Rat}:y<x↔fu x y=1:=by
 unfold fu
 rw [Int.sign_eq_one_iff_pos,yG,Rat.lt_iff_sub_pos y x]
theorem js {x y:Rat}:x=y↔fu x y=0:=by
 unfold fu
 rw [Int.sign_eq_zero_iff_zero,Rat.num_eq_zero]
 constructor
 ·intro h;subst h;exact Rat.sub_self
 ·intro h
  have:=congrArg (·+ y) h
  simpa [Rat.sub_add_cancel,Rat.zero_add] using this
end Go.Big
namespace Go.Proofs.Tryz
open Go.Eng Go.Big
theorem vI {V:View}{v w:Value}{x y:Rat}(hx:RR V v x)(hy:RR V w y){k m:Nat}(hk:Sz k x)(hm:Sz m y)(hkm:k+m<1099511627776) :
  Acts prog 232 #[v,w] V fun r V'=>RR V' r (x-y):=by
 obtain ⟨r0,r1,r2,rfl⟩:=hx.shape
 obtain ⟨s0,s1,s2,rfl⟩:=hy.shape
 refine tH _ _ _ _ _ _ V _ fun V1 l1=>(eC (hy.le l1) hm (by omega)).mono ?_
 rintro r V2 l2 h2
 obtain ⟨n,d,p,rfl⟩:=h2.shape
 refine ⟨_,_,_,rfl,fun V3 l3=>(jd (hx.le (l1.trans (l2.trans l3))) (h2.le l3) hk hm.neg hkm).mono ?_⟩
 rintro r V4 l4 h4
 rw [←Rat.sub_eq_add_neg] at h4
 obtain ⟨n,d,p,rfl⟩:=h4.shape
 exact ⟨_,_,_,rfl,fun V5 l5=>h4.le l5⟩
theorem je {V:View}{v w:Value}{x y:Rat}(hx:RR V v x)(hy:RR V w y){k m:Nat}(hk:Sz k x)(hm:Sz m y)(hkm:k+m<1099511627776) :
  Acts prog 208 #[v,w] V fun r V'=>r=.int .i64 (fu x y):=by
 obtain ⟨r0,r1,r2,rfl⟩:=hx.shape
 obtain ⟨s0,s1,s2,rfl⟩:=hy.shape
 have gen:∀V14:View,V.Le V14->Acts prog 232 #[.agg #[.int .i64 r0,.int .i64 r1,.pointer r2],.agg #[.int .i64 s0,.int .i64 s1,.pointer s2]] V14 fun M6 V15=>∃PD:Int,∃KY:Int,∃Kq:OA,M6=.agg #[.int .i64 PD,.int .i64 KY,.pointer Kq]/\(∀me:View,V15.Le me->Acts prog 146 #[.agg #[.int .i64 PD,.int .i64 KY,.pointer Kq]] me fun M7 pS=>∃KZ:Int,M7=.int .i64 KZ/\(∀sQ:View,pS.Le sQ->Value.int .i64 KZ=.int .i64 (fu x y))):=by
  intro V1 l1
  refine (vI (hx.le l1) (hy.le l1) hk hm hkm).mono ?_
  rintro r V2 l2 h2
  obtain ⟨n,d,p,rfl⟩:=h2.shape
  refine ⟨_,_,_,rfl,fun V3 l3=>(eF (h2.le l3) (hk.sub hm) (by omega)).mono ?_⟩
  rintro r V4 l4 rfl
  exact ⟨_,rfl,fun _ _=>rfl⟩
 rcases hx with ⟨ex,wx⟩|⟨a,b,p,n,c,p',n',c',ex,-,-,-,-,-,wx⟩
 ·rcases hy with ⟨ey,wy⟩|⟨a,b,p,n,c,p',n',c',ey,-,-,-,-,-,wy⟩
  ·simp only [Value.agg.injEq,Array.mk.injEq,List.cons.injEq,Value.int.injEq,Value.pointer.injEq,true_and,and_true] at ex ey
   obtain ⟨rfl,rfl,rfl⟩:=ex
   obtain ⟨rfl,rfl,rfl⟩:=ey
   have hlt:x.den=y.den->((x<y↔x.num<y.num)/\(y<x↔y.num<x.num)/\(x=y↔x.num=y.num)):=by
    intro e
    have hd:(0:Int)<y.den:=by have:=y.den_nz;omega
    refine ⟨?_,?_,fun h=>by rw [h],fun h=>Rat.ext h e⟩
    ·rw [Rat.lt_iff,e];exact ⟨fun h=>Int.lt_of_mul_lt_mul_right h (by omega),fun h=>Int.mul_lt_mul_of_pos_right h hd⟩
    ·rw [Rat.lt_iff,e];exact ⟨fun h=>Int.lt_of_mul_lt_mul_right h (by omega),fun h=>Int.mul_lt_mul_of_pos_right h hd⟩
   refine iC _ _ _ _ _ _ V _ ⟨fun _=>⟨fun _=>⟨fun h1=>?_,fun _=>gen⟩,(fun h=>nomatch h)⟩,(fun h=>nomatch h)⟩
   have h1:x.den=y.den:=by rw [beq_iff_eq] at h1;omega
   obtain ⟨g1,g2,g3⟩:=hlt h1
   refine ⟨fun h V1 l1=>?_,fun h=>⟨fun h' V1 l1=>?_,fun h' V1 l1=>?_⟩⟩
   ·rw [BD.1 (g1.2 (by simpa using h))]
   ·rw [BC.1 (g2.2 (by simpa using h'))]
   ·rw [js.1 (g3.2 (by rw [decide_eq_false_iff_not] at h h';omega))]
  ·simp only [Value.agg.injEq,Array.mk.injEq,List.cons.injEq,Value.int.injEq,Value.pointer.injEq,true_and,and_true] at ex ey
   obtain ⟨rfl,rfl,rfl⟩:=ex
   obtain ⟨rfl,rfl,rfl⟩:=ey
   exact iC _ _ _ _ _ _ V _ ⟨fun _=>⟨(fun h=>nomatch h),fun _=>gen⟩,(fun h=>nomatch h)⟩
 ·simp only [Value.agg.injEq,Array.mk.injEq,List.cons.injEq,Value.int.injEq,Value.pointer.injEq,true_and,and_true] at ex
  obtain ⟨rfl,rfl,rfl⟩:=ex
  exact iC _ _ _ _ _ _ V _ ⟨(fun h=>nomatch h),fun _=>gen⟩
theorem uw {V:View}{v w:Value}{x y:Rat}(hx:RR V v x)(hy:RR V w y){k m:Nat}(hk:Sz k x)(hm:Sz m y)(hkm:k+m<1099511627776) :
  Acts prog 163 #[v,w] V fun r V'=>r=.bool (decide (x=y)):=by
 obtain ⟨r0,r1,r2,rfl⟩:=hx.shape
 obtain ⟨s0,s1,s2,rfl⟩:=hy.shape
 refine pE _ _ _ _ _ _ V _ fun V1 l1=>(je (hx.le l1) (hy.le l1) hk hm hkm).mono ?_
 rintro r V2 l2 rfl
 refine ⟨_,rfl,fun V3 l3=>?_⟩
 congr 1
 rw [Bool.eq_iff_iff,beq_iff_eq,decide_eq_true_eq,js]
theorem x_ {x y:Rat}{k m:Nat}(hx:Sz k x)(hy:Sz m y):x.num.natAbs*y.den<2^(k+m)/\y.num.natAbs*x.den<2^(k+m)/\Nat.gcd (x.num.natAbs*y.den) (y.num.natAbs*x.den)<2^(k+m)/\x.den*y.den<2^(k+m):=by
 have h1:x.num.natAbs*y.den<2^(k+m):=bL hx.1 hy.2
 have h2:y.num.natAbs*x.den<2^(k+m):=by rw [Nat.add_comm];exact bL hy.1 hx.2
 refine ⟨h1,h2,?_,bL hx.2 hy.2⟩
 rcases Nat.eq_zero_or_pos (x.num.natAbs*y.den) with e|e
 ·rw [e,Nat.gcd_zero_left];exact h2
 ·exact Nat.lt_of_le_of_lt (Nat.le_of_dvd e (Nat.gcd_dvd_left _ _)) h1
theorem kx {x y:Rat}{k m:Nat}(hx:Sz k x)(hy:Sz m y):Sz (k+m+1) (im x y):=by
 obtain ⟨-,-,h3,h4⟩:=x_ hx hy
 have h5:2^(k+m)<=2^(k+m+1):=Nat.pow_le_pow_right (by omega) (by omega)
 exact Go.Eng.Sz.mkRat (by rw [Int.natAbs_natCast];omega) (by omega) (by omega)
theorem jf {V:View}{v w:Value}{x y:Rat}(hx:RR V v x)(hy:RR V w y){k m:Nat}(hk:Sz k x)(hm:Sz m y)(hkm:k+m<1099511627776) :
  Acts prog 162 #[v,w] V fun r V'=>RR V' r (im x y):=by
 obtain ⟨r0,r1,r2,rfl⟩:=hx.shape
 obtain ⟨s0,s1,s2,rfl⟩:=hy.shape
 obtain ⟨b1,b2,b3,b4⟩:=x_ hk hm
 have q1:=ae hk.1
 have q2:=ae hk.2
 have q3:=ae hm.1
 have q4:=ae hm.2
 have q5:=ae b1
 have q6:=ae b2
 have q7:=ae b3
 have q8:=ae b4
 have gen:(∀Of:View,V.Le Of->Acts prog 207 #[.agg #[.int .i64 r0,.int .i64 r1,.pointer r2]] Of fun Nk PX=>∃(Kr:OA)(Kc Je:Nat),Nk=.slice Kr Kc Je/\(∀Og:View,PX.Le Og->Acts prog 207 #[.agg #[.int .i64 s0,.int .i64 s1,.pointer s2]] Og fun Nl PY=>∃(Ks:OA)(Kd Jf:Nat),Nl=.slice Ks Kd Jf/\(∀Oh:View,PY.Le Oh->Acts prog 206 #[.slice Kr Kc Je,.slice Ks Kd Jf] Oh fun Nm PZ=>∃(EG:OA)(Er DD:Nat),Nm=.slice EG Er DD/\(∀Oi:View,PZ.Le Oi->Acts prog 139 #[.agg #[.int .i64 r0,.int .i64 r1,.pointer r2]] Oi fun Nn P0=>∃LP:Bool,∃(Ku:OA)(Kf Jh:Nat),Nn=.agg #[.bool LP,.slice Ku Kf Jh]/\(∀Oj:View,P0.Le Oj->Acts prog 207 #[.agg #[.int .i64 s0,.int .i64 s1,.pointer s2]] Oj fun Np P1=>∃(EH:OA)(Et DE:Nat),Np=.slice EH Et DE/\(∀Ok:View,P1.Le Ok->Acts prog 206 #[.slice Ku Kf Jh,.slice EH Et DE] Ok fun Nq P2=>∃(Kv:OA)(Kg Ji:Nat),Nq=.slice Kv Kg Ji/\(∀Ol:View,P2.Le Ol->Acts prog 139 #[.agg #[.int .i64 s0,.int .i64 s1,.pointer s2]] Ol fun Nr P3=>∃LQ:Bool,∃(EI:OA)(Eu DF:Nat),Nr=.agg #[.bool LQ,.slice EI Eu DF]/\(∀Om:View,P3.Le Om->Acts prog 207 #[.agg #[.int .i64 r0,.int .i64 r1,.pointer r2]] Om fun Ns P4=>∃(Kx:OA)(Ki Jk:Nat),Ns=.slice Kx Ki Jk/\(∀On:View,P4.Le On->Acts prog 206 #[.slice EI Eu DF,.slice Kx Ki Jk] On fun Nt P5=>∃(EJ:OA)(Ev DG:Nat),Nt=.slice EJ Ev DG/\(∀Oo:View,P5.Le Oo->Acts prog 183 #[.slice Kv Kg Ji,.slice EJ Ev DG] Oo fun Nu P6=>∃(Ky:OA)(Kj Jl:Nat),Nu=.slice Ky Kj Jl/\(∀Oq:View,P6.Le Oq->Acts prog 144 #[.agg #[.bool false,.slice Ky Kj Jl],.slice EG Er DD] Oq fun Nv P7=>∃K0:Int,∃K1:Int,∃EK:OA,Nv=.agg #[.int .i64 K0,.int .i64 K1,.pointer EK]/\(∀I5:View,P7.Le I5->RR I5 (.agg #[.int .i64 K0,.int .i64 K1,.pointer EK]) (im x y))))))))))))):=by
  intro V1 l1
  refine (dL (hx.le l1) hk (by omega)).mono ?_
  rintro r V2 l2 ⟨p1,n1,c1,rfl,g1⟩
  refine ⟨_,_,_,rfl,fun V3 l3=>(dL (hy.le (l1.trans (l2.trans l3))) hm (by omega)).mono ?_⟩
  rintro r V4 l4 ⟨p2,n2,c2,rfl,g2⟩
  refine ⟨_,_,_,rfl,fun V5 l5=>(fe (g1.le (l3.trans (l4.trans l5))) (g2.le l5) (by omega)).mono ?_⟩
  rintro r V6 l6 ⟨p3,n3,c3,rfl,g3⟩
  rw [ab,ab] at g3
  have L6:=l1.trans (l2.trans (l3.trans (l4.trans (l5.trans l6))))
  refine ⟨_,_,_,rfl,fun V7 l7=>(eE (hx.le (L6.trans l7)) hk (by omega)).mono ?_⟩
  rintro r V8 l8 ⟨p4,n4,c4,rfl,g4⟩
  refine ⟨_,_,_,_,rfl,fun V9 l9=>(dL (hy.le (L6.trans (l7.trans (l8.trans l9)))) hm (by omega)).mono ?_⟩
  rintro r V10 l10 ⟨p5,n5,c5,rfl,g5⟩
  refine ⟨_,_,_,rfl,fun V11 l11=>(fe (g4.le (l9.trans (l10.trans l11))) (g5.le l11) (by omega)).mono ?_⟩
  rintro r V12 l12 ⟨p6,n6,c6,rfl,g6⟩
  rw [ab,ab] at g6
  have Dl:=L6.trans (l7.trans (l8.trans (l9.trans (l10.trans (l11.trans l12)))))
  refine ⟨_,_,_,rfl,fun V13 l13=>(eE (hy.le (Dl.trans l13)) hm (by omega)).mono ?_⟩
  rintro r V14 eY ⟨p7,n7,c7,rfl,g7⟩
  refine ⟨_,_,_,_,rfl,fun V15 eZ=>(dL (hx.le (Dl.trans (l13.trans (eY.trans eZ)))) hk (by omega)).mono ?_⟩
  rintro r me eU ⟨p8,n8,c8,rfl,g8⟩
  refine ⟨_,_,_,rfl,fun pS dX=>(fe (g7.le (eZ.trans (eU.trans dX))) (g8.le dX) (by omega)).mono ?_⟩
  rintro r sQ fB ⟨p9,n9,c9,rfl,g9⟩
  rw [ab,ab] at g9
  have N1:=l13.trans (eY.trans (eZ.trans (eU.trans (dX.trans fB))))
  refine ⟨_,_,_,rfl,fun ua fH=>(uz (g6.le (N1.trans fH)) (g9.le fH) (by omega) (by omega)).mono ?_⟩
  rintro r Dc lG ⟨M5,n10,c10,rfl,g10⟩
  rw [ab,ab] at g10
  refine ⟨_,_,_,rfl,fun ub hU=>(bP false (g10.le hU) (g3.le (l7.trans (l8.trans (l9.trans (l10.trans (l11.trans (l12.trans (N1.trans (fH.trans (lG.trans hU)))))))))) (by omega) (by omega)).mono ?_⟩
  rintro r xn mF h22
  rw [lF,ab,ab] at h22
  obtain ⟨n,d,p,rfl⟩:=h22.shape
  exact ⟨_,_,_,rfl,fun xo kb=>h22.le kb⟩
 rcases hx with ⟨ex,wx⟩|⟨a,b,p,n,c,p',n',c',ex,-,-,-,-,-,wx⟩
 ·rcases hy with ⟨ey,wy⟩|⟨a,b,p,n,c,p',n',c',ey,-,-,-,-,-,wy⟩
  ·simp only [Value.agg.injEq,Array.mk.injEq,List.cons.injEq,Value.int.injEq,Value.pointer.injEq,true_and,and_true] at ex ey
   obtain ⟨rfl,rfl,rfl⟩:=ex
   obtain ⟨rfl,rfl,rfl⟩:=ey
   obtain ⟨KW,Pz⟩:=wx
   obtain ⟨KX,PA⟩:=wy
   refine kr _ _ _ _ _ _ V _ ⟨fun _=>⟨fun _=>⟨fun h1=>⟨fun _ _=>True,⟨fun h2 V1 l1=>?_,fun _=>⟨(),by and_intros<;>rfl,trivial⟩⟩,fun _ V1 l1 _=>⟨by trivial,fun V2 l2=>gen V2 (l1.trans l2)⟩⟩,fun _=>gen⟩,(fun h=>nomatch h)⟩,(fun h=>nomatch h)⟩
   have h1:x.den=1:=by rw [beq_iff_eq] at h1;omega
   have h2:y.den=1:=by rw [beq_iff_eq] at h2;omega
   refine (gm _ (by omega) (by omega)).mono ?_
   rintro r V2 l2 rfl
   refine ⟨_,rfl,fun V3 l3=>(gm _ (by omega) (by omega)).mono ?_⟩
   rintro r V4 l4 rfl
   refine ⟨_,rfl,fun V5 l5=>(qw _ _ (by omega) (by omega)).mono ?_⟩
   rintro r V6 l6 rfl
   refine ⟨_,rfl,fun V7 l7=>.inl ?_⟩
   have e:im x y=((Nat.gcd x.num.natAbs y.num.natAbs:Nat):Int):=by
    unfold im
    rw [h1,h2,Nat.mul_one,Nat.mul_one,Nat.mul_one]
    exact mkRat_one _
   have hl:Nat.gcd x.num.natAbs y.num.natAbs<4611686018427387904:=by
    rcases Nat.eq_zero_or_pos x.num.natAbs with e|e
    ·rw [e,Nat.gcd_zero_left];exact KX
    ·exact Nat.lt_of_le_of_lt (Nat.le_of_dvd e (Nat.gcd_dvd_left _ _)) KW
   rw [e,i64w (by omega)]
   exact ⟨rfl,q_ (by rw [Int.natAbs_natCast];exact hl)⟩
  ·simp only [Value.agg.injEq,Array.mk.injEq,List.cons.injEq,Value.int.injEq,Value.pointer.injEq,true_and,and_true] at ex ey
   obtain ⟨rfl,rfl,rfl⟩:=ex
   obtain ⟨rfl,rfl,rfl⟩:=ey
   exact kr _ _ _ _ _ _ V _ ⟨fun _=>⟨(fun h=>nomatch h),fun _=>gen⟩,(fun h=>nomatch h)⟩
 ·simp only [Value.agg.injEq,Array.mk.injEq,List.cons.injEq,Value.int.injEq,Value.pointer.injEq,true_and,and_true] at ex
  obtain ⟨rfl,rfl,rfl⟩:=ex
  exact kr _ _ _ _ _ _ V _ ⟨(fun h=>nomatch h),fun _=>gen⟩
theorem nI {V:View}{p:OA}{n c x:Nat}(h:RN V p n c x) :
  Acts prog 69 #[.bool false,.slice p n c] V fun r V'=>RI V' r (x:Int):=by
 have:=fg false h
 rwa [if_neg (by decide)] at this
theorem bQ {x:Rat}{k:Nat}(h:Sz k x):(af x.num.natAbs).length<=k/\(af x.den).length<=k/\(af (x.den:Int).natAbs).length<=k:=⟨ae h.1,ae h.2,ae h.2⟩
theorem jq {V:View}{v w:Value}{x y:Rat}(hx:RQ V v x)(hy:RQ V w y){k m:Nat}(hk:Sz k x)(hm:Sz m y)(hkm:k+m<274877906944) :
  Acts prog 65 #[v,w] V fun r V'=>RQ V' r (x+y):=by
 obtain ⟨p,n,c,p',n',c',rfl,hx1,hx2⟩:=hx
 obtain ⟨q,i,e,q',i',e',rfl,hy1,hy2⟩:=hy
 have hlx:=jZ hx2
 have xh:=jZ hy2
 obtain ⟨b1,b2,b3,b4⟩:=qj hk hm
 obtain ⟨d1,d2,d3⟩:=bQ hk
 obtain ⟨d4,d5,d6⟩:=bQ hm
 have hxy:x+y=mkRat (x.num*y.den+y.num*x.den) (x.den*y.den):=Rat.add_def' x y
 refine (fun tail=>zG _ p n c p' n' c' _ q i e q' i' e' V _ ⟨fun h0=>⟨fun h1 V1 l1=>?_,fun _=>tail⟩,fun _=>tail⟩) ?_
 ·clear tail
  have h0:x.den=1:=hlx.1 (by simp at h0;omega)
  have h1:y.den=1:=xh.1 (by simp at h1;omega)
  refine (uC x.num y.num (hx1.le l1) (hy1.le l1) (by omega) (by omega)).mono ?_
  rintro r V2 l2 ⟨p2,n2,c2,rfl,g⟩
  have e1:x+y=((x.num+y.num:Int):Rat):=by
   rw [hxy,h0,h1];simp [Rat.mkRat_one]
  rw [e1]
  exact ⟨_,_,_,_,rfl,fun V3 l3=>mR (z:=x.num+y.num) (d:=1) rfl rfl (g.le l3) RD.nil rfl⟩
 ·intro V1 l1
  refine (dj y _ (hy2.le l1)).mono ?_
  rintro r V2 l2 ⟨p1,n1,c1,rfl,g1⟩
  refine ⟨_,_,_,rfl,fun V3 l3=>(nI (g1.le l3)).mono ?_⟩
  rintro r V4 l4 ⟨p3,n3,c3,rfl,g3⟩
  have l04:=l1.trans (l2.trans (l3.trans l4))
  refine ⟨_,_,_,_,rfl,fun V5 l5=>(kz x.num y.den (hx1.le (l04.trans l5)) (g3.le l5) (by omega)).mono ?_⟩
  rintro r V6 l6 ⟨p5,n5,c5,rfl,g5⟩
  have IP:=l04.trans (l5.trans l6)
  refine ⟨_,_,_,_,rfl,fun V7 l7=>(dj x _ (hx2.le (IP.trans l7))).mono ?_⟩
  rintro r V8 l8 ⟨p7,n7,c7,rfl,g7⟩
  have G_:=IP.trans (l7.trans l8)
  refine ⟨_,_,_,rfl,fun V9 l9=>(nI (g7.le l9)).mono ?_⟩
  rintro r V10 l10 ⟨p9,n9,c9,rfl,g9⟩
  have J1:=G_.trans (l9.trans l10)
  refine ⟨_,_,_,_,rfl,fun V11 l11=>(kz y.num x.den (hy1.le (J1.trans l11)) (g9.le l11) (by omega)).mono ?_⟩
  rintro r V12 l12 ⟨RC,n11,c11,rfl,g11⟩
  have F0:=J1.trans (l11.trans l12)
  refine ⟨_,_,_,_,rfl,fun V13 l13=>(uC _ _ (g5.le (l7.trans (l8.trans (l9.trans (l10.trans (l11.trans (l12.trans l13))))))) (g11.le l13) (Nat.le_trans (ae b1) (by omega)) (Nat.le_trans (ae b2) (by omega))).mono ?_⟩
  rintro r V14 eY ⟨S1,n13,c13,rfl,g13⟩
  have Ed:=F0.trans (l13.trans eY)
  refine ⟨_,_,_,_,rfl,fun V15 eZ=>(dj x _ (hx2.le (Ed.trans eZ))).mono ?_⟩
  rintro r me eU ⟨S2,n15,c15,rfl,g15⟩
  have H5:=Ed.trans (eZ.trans eU)
  refine ⟨_,_,_,rfl,fun pS dX=>(dj y _ (hy2.le (H5.trans dX))).mono ?_⟩
  rintro r sQ fB ⟨S3,n17,c17,rfl,g17⟩
  refine ⟨_,_,_,rfl,fun ua fH=>(cj (g15.le (dX.trans (fB.trans fH))) (g17.le fH) (by omega)).mono ?_⟩
  rintro r Dc lG ⟨S4,n19,c19,rfl,g19⟩
  rw [ab,ab] at g19
  refine ⟨_,_,_,rfl,fun ub hU=>(qB _ (g13.le (eZ.trans (eU.trans (dX.trans (fB.trans (fH.trans (lG.trans hU))))))) (g19.le hU) (Nat.le_trans (ae b3) (by omega)) (Nat.le_trans (ae b4) (by omega)) (Nat.mul_ne_zero x.den_nz y.den_nz)).mono ?_⟩
  rw [hxy]
  rintro r xn mF ⟨RH,n21,c21,RJ,n22,Qr,rfl,g21,g22⟩
  exact ⟨_,_,_,_,_,_,_,rfl,fun xo kb=>⟨_,_,_,_,_,_,rfl,g21.le kb,g22.le kb⟩⟩
theorem Cr {V:View}{v w:Value}{x y:Rat}(hx:RQ V v x)(hy:RQ V w y){k m:Nat}(hk:Sz k x)(hm:Sz m y)(hkm:k+m<274877906944) :
  Acts prog 102 #[v,w] V fun r V'=>RQ V' r (x-y):=by
 have hx0:=hx
 obtain ⟨p,n,c,p',n',c',rfl,hx1,hx2⟩:=hx
 obtain ⟨q,i,e,q',i',e',rfl,hy1,hy2⟩:=hy
 refine Bm _ p n c p' n' c' _ q i e q' i' e' V _ fun V1 l1=>(nH y (hy1.le l1) (hy2.le l1)).mono ?_
 rintro r V2 l2 h2
 obtain ⟨p1,n1,c1,p2,n2,c2,rfl,g1,g2⟩:=id h2
 refine ⟨_,_,_,_,_,_,_,rfl,fun V3 l3=>(jq (hx0.le (l1.trans (l2.trans l3))) (h2.le l3) hk hm.neg hkm).mono ?_⟩
 rw [←Rat.sub_eq_add_neg]
 rintro r V4 l4 ⟨p3,n3,c3,p4,n4,c4,rfl,g3,g4⟩
 exact ⟨_,_,_,_,_,_,_,rfl,fun V5 l5=>⟨_,_,_,_,_,_,rfl,g3.le l5,g4.le l5⟩⟩
theorem Bz {V:View}{v w:Value}{x y:Rat}(hx:RQ V v x)(hy:RQ V w y){k m:Nat}(hk:Sz k x)(hm:Sz m y)(hkm:k+m<274877906944) :
  Acts prog 130 #[v,w] V fun r V'=>r=.int .i64 (fu x y):=by
 have hx0:=hx
 have hy0:=hy
 obtain ⟨p,n,c,p',n',c',rfl,hx1,hx2⟩:=hx
 obtain ⟨q,i,e,q',i',e',rfl,hy1,hy2⟩:=hy
 refine Fg _ p n c p' n' c' _ q i e q' i' e' V _ fun V1 l1=>(Cr (hx0.le l1) (hy0.le l1) hk hm hkm).mono ?_
 rintro r V2 l2 ⟨p1,n1,c1,p2,n2,c2,rfl,g1,g2⟩
 refine ⟨_,_,_,_,_,_,_,rfl,fun V3 l3=>(FD (x-y) (g1.le l3)).mono ?_⟩
 rintro r V4 l4 rfl
 exact ⟨_,rfl,fun V5 l5=>rfl⟩
theorem cV {V:View}{v w:Value}{x y:Rat}(hx:RQ V v x)(hy:RQ V w y){k m:Nat}(hk:Sz k x)(hm:Sz m y)(hkm:k+m<274877906944) :
  Acts prog 66 #[v,w] V fun r V'=>RQ V' r (x*y):=by
 obtain ⟨p,n,c,p',n',c',rfl,hx1,hx2⟩:=hx
 obtain ⟨q,i,e,q',i',e',rfl,hy1,hy2⟩:=hy
 have hlx:=jZ hx2
 have xh:=jZ hy2
 obtain ⟨d1,d2,d3⟩:=bQ hk
 obtain ⟨d4,d5,d6⟩:=bQ hm
 have hxy:x*y=mkRat (x.num*y.num) (x.den*y.den):=Rat.mul_def' x y
 have b1:(x.num*y.num).natAbs<2^(k+m):=by rw [Int.natAbs_mul];exact bL hk.1 hm.1
 have b2:x.den*y.den<2^(k+m):=bL hk.2 hm.2
 refine (fun tail=>wU _ p n c p' n' c' _ q i e q' i' e' V _ ⟨fun h0=>⟨fun h1 V1 l1=>?_,fun _=>tail⟩,fun _=>tail⟩) ?_
 ·clear tail
  have h0:x.den=1:=hlx.1 (by simp at h0;omega)
  have h1:y.den=1:=xh.1 (by simp at h1;omega)
  refine (kz x.num y.num (hx1.le l1) (hy1.le l1) (by omega)).mono ?_
  rintro r V2 l2 ⟨p2,n2,c2,rfl,g⟩
  have e1:x*y=((x.num*y.num:Int):Rat):=by
   rw [hxy,h0,h1];simp [Rat.mkRat_one]
  rw [e1]
  exact ⟨_,_,_,_,rfl,fun V3 l3=>mR (z:=x.num*y.num) (d:=1) rfl rfl (g.le l3) RD.nil rfl⟩
 ·intro V1 l1
  refine (kz x.num y.num (hx1.le l1) (hy1.le l1) (by omega)).mono ?_
  rintro r V2 l2 ⟨p2,n2,c2,rfl,g2⟩
  refine ⟨_,_,_,_,rfl,fun V3 l3=>(dj x _ (hx2.le (l1.trans (l2.trans l3)))).mono ?_⟩
  rintro r V4 l4 ⟨p4,n4,c4,rfl,g4⟩
  refine ⟨_,_,_,rfl,fun V5 l5=>(dj y _ (hy2.le (l1.trans (l2.trans (l3.trans (l4.trans l5)))))).mono ?_⟩
  rintro r V6 l6 ⟨p6,n6,c6,rfl,g6⟩
  refine ⟨_,_,_,rfl,fun V7 l7=>(cj (g4.le (l5.trans (l6.trans l7))) (g6.le l7) (by omega)).mono ?_⟩
  rintro r V8 l8 ⟨p8,n8,c8,rfl,g8⟩
  rw [ab,ab] at g8
  refine ⟨_,_,_,rfl,fun V9 l9=>(qB _ (g2.le (l3.trans (l4.trans (l5.trans (l6.trans (l7.trans (l8.trans l9))))))) (g8.le l9) (Nat.le_trans (ae b1) (by omega)) (Nat.le_trans (ae b2) (by omega)) (Nat.mul_ne_zero x.den_nz y.den_nz)).mono ?_⟩
  rw [hxy]
  rintro r xn mF ⟨RH,n21,c21,RJ,n22,Qr,rfl,g21,g22⟩
  exact ⟨_,_,_,_,_,_,_,rfl,fun xo kb=>⟨_,_,_,_,_,_,rfl,g21.le kb,g22.le kb⟩⟩
end Go.Proofs.Tryz
namespace Go.Eng
open Go.Big
def RP (V:View)(v:Value)(x y:Rat):Prop:=∃p n c p' n' c' q m e q' m' e',v=.agg #[.bool (decide (x.num<0)),.slice p n c,.slice p' n' c',.bool (decide (y.num<0)),.slice q m e,.slice q' m' e'] /\
 RQ V (.agg #[.bool (decide (x.num<0)),.slice p n c,.slice p' n' c']) x/\RQ V (.agg #[.bool (decide (y.num<0)),.slice q m e,.slice q' m' e']) y
theorem RP.le {V V':View}{v:Value}{x y:Rat}(h:RP V v x y)(l:V.Le V'):RP V' v x y:=by
 obtain ⟨p,n,c,p',n',c',q,m,e,q',m',e',rfl,h1,h2⟩:=h
 exact ⟨p,n,c,p',n',c',q,m,e,q',m',e',rfl,h1.le l,h2.le l⟩
theorem RQ.shape {V:View}{v:Value}{q:Rat}(h:RQ V v q):∃p n c p' n' c',v=.agg #[.bool (decide (q.num<0)),.slice p n c,.slice p' n' c']:=by
 obtain ⟨p,n,c,p',n',c',e,-⟩:=h;exact ⟨_,_,_,_,_,_,e⟩
end Go.Eng
namespace Go.Proofs.Tryz
open Go.Eng Go.Big
theorem xM {V:View}{p:OA}{n c:Nat}{ds:List Nat}(h:RD V p n c ds)(hm:ds.length<=1099511627776) :
  Acts prog 107 #[.slice p n c] V fun r V'=>∃p1 n1 c1,r=.slice p1 n1 c1/\RD V' p1 n1 c1 ds:=by
 have hl:=h.len
 refine wW p n c V _ ⟨ay ds,h.sl,by simp [hl],by omega,by omega,by simp,by simp [hl],?_,?_⟩
 ·intro v hv
  simp only [ay,List.mem_map] at hv
  obtain ⟨d,-,rfl⟩:=hv
  rfl
 ·intro bk J sp c' h1 h2 V1 l1 b hb
  refine ⟨_,_,_,rfl,?_⟩
  simp only [Nat.zero_add,Nat.zero_mul,List.take_zero,List.nil_append] at hb h1 ⊢
  exact copied h.dS hl h1 hb
theorem jX {V:View}{v:Value}{z:Int}(h:RI V v z)(hm:(af z.natAbs).length<=1099511627776) :
  Acts prog 72 #[v] V fun r V'=>RI V' r z:=by
 obtain ⟨p,n,c,rfl,h⟩:=h
 refine wV _ p n c V _ fun V1 l1=>(xM (h.le l1) hm).mono ?_
 rintro r V2 l2 ⟨p1,n1,c1,rfl,g⟩
 exact ⟨_,_,_,rfl,fun V3 l3=>⟨_,_,_,rfl,g.le l3⟩⟩
theorem qC {V:View}(x y:Int)(h0:-9223372036854775808<=x)(h1:x<=9223372036854775807)(h2:-9223372036854775808<=y)(h3:y<=9223372036854775807) :
  Acts prog 29 #[.int .i64 x,.int .i64 y] V fun r V'=>RP V' r (x:Rat) (y:Rat):=by
 refine zN x y V _ fun V1 l1=>(mj x h0 h1).mono ?_
 rintro r V2 l2 hx
 obtain ⟨p,n,c,p',n',c',rfl⟩:=hx.shape
 refine ⟨_,_,_,_,_,_,_,rfl,fun V3 l3=>(mj y h2 h3).mono ?_⟩
 rintro r V4 l4 hy
 obtain ⟨q,m,e,q',m',e',rfl⟩:=hy.shape
 exact ⟨_,_,_,_,_,_,_,rfl,fun V5 l5=>⟨_,_,_,_,_,_,_,_,_,_,_,_,rfl,hx.le (l3.trans (l4.trans l5)),hy.le l5⟩⟩
theorem oH {V:View}{u v w:Value}{px py c qx qy:Rat}(hp:RP V u px py)(hc:RQ V v c)(hq:RP V w qx qy){k m:Nat}(s1:Sz k px)(s2:Sz k py)(s3:Sz m c)(s4:Sz m qx)(s5:Sz m qy)(hkm:k+(m+m+1)<274877906944) :
  Acts prog 91 #[u,v,w] V fun r V'=>RP V' r (px+c*qx) (py+c*qy):=by
 obtain ⟨p1,n1,c1,p2,n2,c2,p3,n3,c3,p4,n4,c4,rfl,hp1,hp2⟩:=hp
 obtain ⟨p5,n5,c5,p6,n6,c6,rfl⟩:=hc.shape
 obtain ⟨q1,m1,e1,q2,m2,e2,q3,m3,e3,q4,m4,e4,rfl,hq1,hq2⟩:=hq
 refine wX _ p1 n1 c1 p2 n2 c2 _ p3 n3 c3 p4 n4 c4 _ p5 n5 c5 p6 n6 c6 _ q1 m1 e1 q2 m2 e2 _ q3 m3 e3 q4 m4 e4 V _ fun V1 l1=>(cV (hc.le l1) (hq1.le l1) s3 s4 (by omega)).mono ?_
 rintro r V2 l2 g1
 obtain ⟨a1,a2,a3,a4,a5,a6,rfl⟩:=g1.shape
 refine ⟨_,_,_,_,_,_,_,rfl,fun V3 l3=>(jq (hp1.le (l1.trans (l2.trans l3))) (g1.le l3) s1 (s3.mul s4) (by omega)).mono ?_⟩
 rintro r V4 l4 g2
 obtain ⟨b1,b2,b3,b4,b5,b6,rfl⟩:=g2.shape
 have l04:=l1.trans (l2.trans (l3.trans l4))
 refine ⟨_,_,_,_,_,_,_,rfl,fun V5 l5=>(cV (hc.le (l04.trans l5)) (hq2.le (l04.trans l5)) s3 s5 (by omega)).mono ?_⟩
 rintro r V6 l6 g3
 obtain ⟨d1,d2,d3,d4,d5,d6,rfl⟩:=g3.shape
 refine ⟨_,_,_,_,_,_,_,rfl,fun V7 l7=>(jq (hp2.le (l04.trans (l5.trans (l6.trans l7)))) (g3.le l7) s2 (s3.mul s5) (by omega)).mono ?_⟩
 rintro r V8 l8 g4
 obtain ⟨f1,f2,f3,f4,f5,f6,rfl⟩:=g4.shape
 exact ⟨_,_,_,_,_,_,_,rfl,fun V9 l9=>⟨_,_,_,_,_,_,_,_,_,_,_,_,rfl,g2.le (l5.trans (l6.trans (l7.trans (l8.trans l9)))),g4.le l9⟩⟩
theorem Gv:Sz 1 ((-1:Int):Rat):=by unfold Sz;decide
theorem xN {V:View}{u w:Value}{px py qx qy:Rat}(hp:RP V u px py)(hq:RP V w qx qy){k m:Nat}(s1:Sz k px)(s2:Sz k py)(s4:Sz m qx)(s5:Sz m qy)(hm:1<=m)(hkm:k+(m+m+1)<274877906944) :
  Acts prog 63 #[u,w] V fun r V'=>RP V' r (px-qx) (py-qy):=by
 have hp0:=hp
 have hq0:=hq
 obtain ⟨p1,n1,c1,p2,n2,c2,p3,n3,c3,p4,n4,c4,rfl,-,-⟩:=hp
 obtain ⟨q1,m1,e1,q2,m2,e2,q3,m3,e3,q4,m4,e4,rfl,-,-⟩:=hq
 refine wY _ p1 n1 c1 p2 n2 c2 _ p3 n3 c3 p4 n4 c4 _ q1 m1 e1 q2 m2 e2 _ q3 m3 e3 q4 m4 e4 V _ fun V1 l1=>(mj (-1) (by omega) (by omega)).mono ?_
 rintro r V2 l2 g1
 obtain ⟨a1,a2,a3,a4,a5,a6,rfl⟩:=g1.shape
 have l02:=l1.trans l2
 refine ⟨_,_,_,_,_,_,_,rfl,fun V3 l3=>(oH (hp0.le (l02.trans l3)) (g1.le l3) (hq0.le (l02.trans l3)) s1 s2 (Gv.mono hm) s4 s5 hkm).mono ?_⟩
 have e1:∀a b:Rat,a+((-1:Int):Rat)*b=a-b:=by
  intro a b
  have:((-1:Int):Rat)=-1:=rfl
  rw [this,Rat.neg_mul,Rat.one_mul,Rat.sub_eq_add_neg]
 rw [e1,e1]
 rintro r V4 l4 ⟨b1,b2,b3,b4,b5,b6,b7,b8,b9,b10,b11,b12,rfl,g2,g3⟩
 exact ⟨_,_,_,_,_,_,_,_,_,_,_,_,_,_,rfl,fun V5 l5=>⟨_,_,_,_,_,_,_,_,_,_,_,_,rfl,g2.le l5,g3.le l5⟩⟩
theorem vM {V:View}{u w:Value}{px py qx qy:Rat}(hp:RP V u px py)(hq:RP V w qx qy){k m:Nat}(s1:Sz k px)(s2:Sz k py)(s4:Sz m qx)(s5:Sz m qy)(hkm:k+m<274877906944) :
  Acts prog 135 #[u,w] V fun r V'=>r=.bool (decide (px=qx/\py=qy)):=by
 obtain ⟨p1,n1,c1,p2,n2,c2,p3,n3,c3,p4,n4,c4,rfl,hp1,hp2⟩:=hp
 obtain ⟨q1,m1,e1,q2,m2,e2,q3,m3,e3,q4,m4,e4,rfl,hq1,hq2⟩:=hq
 refine tV _ p1 n1 c1 p2 n2 c2 _ p3 n3 c3 p4 n4 c4 _ q1 m1 e1 q2 m2 e2 _ q3 m3 e3 q4 m4 e4 V _ fun V1 l1=>(Bz (hp1.le l1) (hq1.le l1) s1 s4 hkm).mono ?_
 rintro r V2 l2 rfl
 refine ⟨_,rfl,fun h0 V3 l3=>(Bz (hp2.le (l1.trans (l2.trans l3))) (hq2.le (l1.trans (l2.trans l3))) s2 s5 hkm).mono ?_,fun h0 V3 l3=>?_⟩
 ·have h0:px=qx:=js.2 (by simpa using h0)
  rintro r V4 l4 rfl
  refine ⟨_,rfl,fun V5 l5=>?_⟩
  congr 1
  rw [Bool.eq_iff_iff,decide_eq_true_eq,beq_iff_eq,←js]
  exact ⟨fun h=>⟨h0,h⟩,fun h=>h.2⟩
 ·have h0:¬px=qx:=fun e=>by rw [js.1 e] at h0;simp at h0
  rw [decide_eq_false fun h=>h0 h.1]
end Go.Proofs.Tryz
namespace Go.Eng
open Go.Big
def RL (V:View)(v:Value)(a b c:Int):Prop:=∃p n s p' n' s' q m e,v=.agg #[.bool (decide (a<0)),.slice p n s,.bool (decide (b<0)),.slice p' n' s',.bool (decide (c<0)),.slice q m e] /\
 RD V p n s (af a.natAbs)/\RD V p' n' s' (af b.natAbs)/\RD V q m e (af c.natAbs)
theorem RL.le {V V':View}{v:Value}{a b c:Int}(h:RL V v a b c)(l:V.Le V'):RL V' v a b c:=by
 obtain ⟨p,n,s,p',n',s',q,m,e,rfl,h1,h2,h3⟩:=h
 exact ⟨p,n,s,p',n',s',q,m,e,rfl,h1.le l,h2.le l,h3.le l⟩
end Go.Eng
namespace Go.Proofs.Tryz
open Go.Eng Go.Big
theorem xO {V:View}{v:Value}{a b c:Int}(hx:RL V v a b c)(h1:(af a.natAbs).length<=1099511627776)(h2:(af b.natAbs).length<=1099511627776)(h3:(af c.natAbs).length<=1099511627776) :
  Acts prog 30 #[v] V fun r V'=>RL V' r a b c:=by
 obtain ⟨p,n,s,p',n',s',q,m,e,rfl,x1,x2,x3⟩:=hx
 refine wZ _ p n s _ p' n' s' _ q m e V _ fun V1 l1=>(jX ⟨_,_,_,rfl,x1.le l1⟩ h1).mono ?_
 rintro r V2 l2 ⟨p1,n1,c1,rfl,g1⟩
 refine ⟨_,_,_,_,rfl,fun V3 l3=>(jX ⟨_,_,_,rfl,x2.le (l1.trans (l2.trans l3))⟩ h2).mono ?_⟩
 rintro r V4 l4 ⟨p2,n2,c2,rfl,g2⟩
 refine ⟨_,_,_,_,rfl,fun V5 l5=>(jX ⟨_,_,_,rfl,x3.le (l1.trans (l2.trans (l3.trans (l4.trans l5))))⟩ h3).mono ?_⟩
 rintro r V6 l6 ⟨p3,n3,c3,rfl,g3⟩
 exact ⟨_,_,_,_,rfl,fun V7 l7=>⟨_,_,_,_,_,_,_,_,_,rfl,g1.le (l3.trans (l4.trans (l5.trans (l6.trans l7)))),g2.le (l5.trans (l6.trans l7)),g3.le l7⟩⟩
theorem qN {z:Int}{g:Nat}(hg:0<g)(hd:g∣z.natAbs):(if decide (z<0)=true then -((z.natAbs / g:Nat):Int) else ((z.natAbs / g:Nat):Int))=z / (g:Int):=by
 obtain ⟨k,hk⟩:=hd
 have hk1:z.natAbs / g=k:=by rw [hk,Nat.mul_div_cancel_left _ hg]
 rw [hk1]
 have hz:z=(g:Int)*(if decide (z<0)=true then -(k:Int) else k):=by
  split
  ·rename_i h
   rw [decide_eq_true_eq] at h
   rw [Int.mul_neg,←Int.natCast_mul,←hk];omega
  ·rename_i h
   rw [decide_eq_true_eq] at h
   rw [←Int.natCast_mul,←hk];omega
 generalize (if decide (z<0)=true then -(k:Int) else k)=t at *
 rw [hz,Int.mul_ediv_cancel_left _ (by omega)]
def gC (a b c:Int):Nat:=Nat.gcd (Nat.gcd a.natAbs b.natAbs) c.natAbs
theorem tj {V:View}{u v w:Value}{a b c:Int}(ha:RI V u a)(hb:RI V v b)(hc:RI V w c)(h1:(af a.natAbs).length<=274877906944)(h2:(af b.natAbs).length<=274877906944)(h3:(af c.natAbs).length<=274877906944) :
  Acts prog 70 #[u,v,w] V fun r V'=>(a=0/\b=0->∃l,r=.tuple #[l,.bool false]/\RL V' l 0 0 0) /\
   (¬(a=0/\b=0)->∃l,r=.tuple #[l,.bool true]/\RL V' l (a / (gC a b c:Int)) (b / (gC a b c:Int)) (c / (gC a b c:Int))):=by
 obtain ⟨p,n,s,rfl,ha⟩:=ha
 obtain ⟨p',n',s',rfl,hb⟩:=hb
 obtain ⟨q,m,e,rfl,hc⟩:=hc
 refine sM _ p n s _ p' n' s' _ q m e V _ fun V1 l1=>(jn (ha.le l1) (hb.le l1) h1 h2).mono ?_
 rintro r V2 l2 ⟨p1,n1,c1,rfl,g1⟩
 have hp:=eM g1.len
 have hab:Nat.gcd a.natAbs b.natAbs=0↔a=0/\b=0:=by rw [Nat.gcd_eq_zero_iff];omega
 refine ⟨_,_,_,rfl,fun h0 V3 l3=>⟨fun _=>⟨_,rfl,_,_,_,_,_,_,_,_,_,rfl,RD.nil,RD.nil,RD.nil⟩,fun h=>?_⟩,fun h0 V4 l4=>?_⟩
 ·exact absurd (hab.1 (by simp at h0;omega)) h
 have hne:¬(a=0/\b=0):=fun h=>by have:=hab.2 h;simp at h0;omega
 have hg0:0<Nat.gcd a.natAbs b.natAbs:=by have:=hab;omega
 have hgl:(af (Nat.gcd a.natAbs b.natAbs)).length<=274877906944:=by
  rcases Nat.eq_zero_or_pos a.natAbs with h|h
  ·rw [h,Nat.gcd_zero_left];exact h2
  ·exact Nat.le_trans (aB (Nat.gcd_le_left _ h)) h1
 refine (jn (g1.le l4) (hc.le (l1.trans (l2.trans l4))) hgl h3).mono ?_
 rintro r V5 l5 ⟨p2,n2,c2,rfl,g2⟩
 have l05:=l1.trans (l2.trans (l4.trans l5))
 have e3:Nat.gcd (Nat.gcd a.natAbs b.natAbs) c.natAbs=gC a b c:=rfl
 have hG0:0<gC a b c:=Nat.gcd_pos_of_pos_left _ hg0
 have IJ:(af (gC a b c)).length<=274877906944:=Nat.le_trans (aB (Nat.gcd_le_left _ hg0)) hgl
 have da:gC a b c∣a.natAbs:=Nat.dvd_trans (Nat.gcd_dvd_left _ _) (Nat.gcd_dvd_left _ _)
 have db:gC a b c∣b.natAbs:=Nat.dvd_trans (Nat.gcd_dvd_left _ _) (Nat.gcd_dvd_right _ _)
 have dc:gC a b c∣c.natAbs:=Nat.gcd_dvd_right _ _
 have sa:=qN hG0 da
 have sb:=qN hG0 db
 have sc:=qN hG0 dc
 rw [e3] at g2
 generalize gC a b c=G at *
 refine ⟨_,_,_,rfl,fun V6 l6=>(dk (ha.le (l05.trans l6)) (g2.le l6) h1 IJ hG0).mono ?_⟩
 rintro r V7 l7 ⟨p3,n3,c3,p4,n4,c4,rfl,g3,-⟩
 have F2:=l6.trans l7
 refine ⟨_,_,_,_,_,_,rfl,fun V8 l8=>(dk (hb.le (l05.trans (F2.trans l8))) (g2.le (F2.trans l8)) h2 IJ hG0).mono ?_⟩
 rintro r V9 l9 ⟨p5,n5,c5,p6,n6,c6,rfl,g5,-⟩
 have Pb:=F2.trans (l8.trans l9)
 refine ⟨_,_,_,_,_,_,rfl,fun V10 l10=>(dk (hc.le (l05.trans (Pb.trans l10))) (g2.le (Pb.trans l10)) h3 IJ hG0).mono ?_⟩
 rintro r V11 l11 ⟨p7,n7,c7,p8,n8,c8,rfl,g7,-⟩
 refine ⟨_,_,_,_,_,_,rfl,fun V12 l12=>(fg _ (g3.le (l8.trans (l9.trans (l10.trans (l11.trans l12)))))).mono ?_⟩
 rw [sa]
 rintro r V13 l13 ⟨p9,n9,c9,rfl,g9⟩
 refine ⟨_,_,_,_,rfl,fun V14 eY=>(fg _ (g5.le (l10.trans (l11.trans (l12.trans (l13.trans eY)))))).mono ?_⟩
 rw [sb]
 rintro r V15 eZ ⟨M5,n10,c10,rfl,g10⟩
 refine ⟨_,_,_,_,rfl,fun me eU=>(fg _ (g7.le (l12.trans (l13.trans (eY.trans (eZ.trans eU)))))).mono ?_⟩
 rw [sc]
 rintro r pS dX ⟨RC,n11,c11,rfl,g11⟩
 refine ⟨_,_,_,_,rfl,fun sQ fB=>⟨fun h=>absurd h hne,fun _=>⟨_,rfl,_,_,_,_,_,_,_,_,_,rfl,?_,?_,?_⟩⟩⟩
 ·exact g9.le (eY.trans (eZ.trans (eU.trans (dX.trans fB))))
 ·exact g10.le (eU.trans (dX.trans fB))
 ·exact g11.le fB
abbrev L3:=Int×Int×Int
def okL (x:L3):Bool:=decide (¬(x.1=0/\x.2.1=0))&&decide (gC x.1 x.2.1 x.2.2=1)
def Bd (x:L3):Prop:=x.1.natAbs<2^1000/\x.2.1.natAbs<2^1000/\x.2.2.natAbs<2^1000
inductive Tr where
 | leaf (i:Bool)|node (l:L3) (a b:Tr)
 deriving DecidableEq
structure Nd where
 ln:L3
 left:Int
 right:Int
 deriving DecidableEq
def Tr.size:Tr->Nat
 | .leaf _=>0
 | .node _ a b=>a.size+b.size+1
def Tr.H3:Tr->Bool
 | .leaf _=>true
 | .node ..=>false
def Tr.All (p:L3->Prop):Tr->Prop
 | .leaf _=>True
 | .node l a b=>p l/\a.All p/\b.All p
theorem Tr.All.imp {p q:L3->Prop}(h:∀x,p x->q x):∀{t:Tr},t.All p->t.All q
 | .leaf _,_=>trivial
 | .node _ _ _,⟨h1,h2,h3⟩=>⟨h _ h1,Tr.All.imp h h2,Tr.All.imp h h3⟩
def rt (k:Nat):Tr->Int
 | .leaf i=>if i then -2 else -1
 | .node ..=>(k:Int)
def wr:Nat->Tr->List Nd
 | _,.leaf _=>[]
 | k,.node l a b=>⟨l,rt (k+1) a,rt (k+1+a.size) b⟩::(wr (k+1) a++wr (k+1+a.size) b)
theorem dA:∀(t:Tr)(k:Nat),(wr k t).length=t.size
 | .leaf _,_=>rfl
 | .node _ a b,k=>by simp only [wr,List.length_cons,List.length_append,dA a,dA b,Tr.size]
def I4 (l:List Nd):Int->Tr->List Nat->Prop
 | n,.leaf i,I=>n=(if i then -2 else -1)/\I=[]
 | n,.node ln a b,I=>∃(k:Nat)(x:Nd)(A B:List Nat),n=(k:Int)/\l[k]?=some x/\x.ln=ln/\I4 l x.left a A/\I4 l x.right b B/\I=k::(A++B)
theorem AW:∀(t:Tr)(l pre post:List Nd)(k:Nat),l=pre++(wr k t++post)->pre.length=k->I4 l (rt k t) t (List.range' k t.size)
 | .leaf i,l,pre,post,k,_,_=>⟨rfl,rfl⟩
 | .node ln a b,l,pre,post,k,hl,hp=>by
  refine ⟨k,⟨ln,rt (k+1) a,rt (k+1+a.size) b⟩,List.range' (k+1) a.size,List.range' (k+1+a.size) b.size,rfl,?_,rfl,?_,?_,?_⟩
  ·subst hl
   rw [List.getElem?_append_right (by omega)]
   simp [hp,wr]
  ·refine AW a l (pre++[⟨ln,rt (k+1) a,rt (k+1+a.size) b⟩]) (wr (k+1+a.size) b++post) (k+1) ?_ (by simp [hp])
   rw [hl];simp [wr]
  ·refine AW b l (pre++(⟨ln,rt (k+1) a,rt (k+1+a.size) b⟩::wr (k+1) a)) post (k+1+a.size) ?_ (by simp [hp,dA];omega)
   rw [hl];simp [wr]
  ·simp only [Tr.size]
   rw [List.range'_succ,←List.range'_append_1]
structure RS where
 seen:List Bool
 iD:Nat
 bad:Bool
def cR (l:List Nd):Nat->Int->RS->Tr×RS
 | 0,_,s=>(.leaf false,s)
 | f+1,n,s=>
  if n=-2 then (.leaf true,s) else if n=-1 then (.leaf false,s) else if n<0 then (.leaf false,{ s with bad:=true })
  else match l[n.toNat]?,s.seen[n.toNat]? with
   | some x,some false=>
    if okL x.ln then
     let r1:=cR l f x.left ⟨s.seen.set n.toNat true,s.iD+1,s.bad⟩
     let r2:=cR l f x.right r1.2
     (.node x.ln r1.1 r2.1,r2.2)
    else (.leaf false,⟨s.seen.set n.toNat true,s.iD+1,true⟩)
   | _,_=>(.leaf false,{ s with bad:=true })
theorem count_set {l:List Bool}{k:Nat}(h:l[k]?=some false):(l.set k true).count false+1=l.count false:=by
 induction l generalizing k with
 | nil=>simp at h
 | cons x r ih=>
  cases k with
  | zero=>simp at h;subst h;simp
  | succ k=>
   simp at h
   have:=ih h
   simp only [List.set_cons_succ,List.count_cons]
   omega
theorem mL (l:List Nd):∀(f:Nat)(n:Int)(s:RS),(cR l f n s).2.seen.count false<=s.seen.count false/\(cR l f n s).2.seen.length=s.seen.length
 | 0,_,_=>⟨Nat.le_refl _,rfl⟩
 | f+1,n,s=>by
  simp only [cR]
  split
  ·exact ⟨Nat.le_refl _,rfl⟩
  ·split
   ·exact ⟨Nat.le_refl _,rfl⟩
   ·split
    ·exact ⟨Nat.le_refl _,rfl⟩
    ·split
     ·rename_i x hx hs
      have hc:=count_set hs
      split
      ·obtain ⟨h1,h2⟩:=mL l f x.left ⟨s.seen.set n.toNat true,s.iD+1,s.bad⟩
       obtain ⟨h3,h4⟩:=mL l f x.right (cR l f x.left ⟨s.seen.set n.toNat true,s.iD+1,s.bad⟩).2
       dsimp only at h1 h2 h3 h4 ⊢
       exact ⟨by omega,by rw [h4,h2,List.length_set]⟩
      ·dsimp only;exact ⟨by omega,by simp⟩
     ·exact ⟨Nat.le_refl _,rfl⟩
theorem p_ (l:List Nd):∀(f:Nat)(n:Int)(s:RS),(cR l f n s).2.iD+(cR l f n s).2.seen.count false=s.iD+s.seen.count false
 | 0,_,_=>rfl
 | f+1,n,s=>by
  simp only [cR]
  split
  ·rfl
  ·split
   ·rfl
   ·split
    ·rfl
    ·split
     ·rename_i x hx hs
      have hc:=count_set hs
      split
      ·have h1:=p_ l f x.left ⟨s.seen.set n.toNat true,s.iD+1,s.bad⟩
       have h3:=p_ l f x.right (cR l f x.left ⟨s.seen.set n.toNat true,s.iD+1,s.bad⟩).2
       dsimp only at h1 h3 ⊢
       omega
      ·dsimp only;omega
     ·rfl
theorem wh {p:L3->Prop}{l:List Nd}(hl:∀x∈l,p x.ln):∀(f:Nat)(n:Int)(s:RS),(cR l f n s).1.All p
 | 0,_,_=>trivial
 | f+1,n,s=>by
  simp only [cR]
  split
  ·trivial
  ·split
   ·trivial
   ·split
    ·trivial
    ·split
     ·rename_i x hx hs
      split
      ·exact ⟨hl x (List.mem_of_getElem? hx),wh hl f _ _,wh hl f _ _⟩
      ·trivial
     ·trivial
theorem rN (l:List Nd):∀(f:Nat)(n:Int)(s:RS),(cR l f n s).1.size+s.iD<=(cR l f n s).2.iD
 | 0,_,_=>by simp [cR,Tr.size]
 | f+1,n,s=>by
  simp only [cR]
  split
  ·simp [Tr.size]
  ·split
   ·simp [Tr.size]
   ·split
    ·simp [Tr.size]
    ·split
     ·split
      ·rename_i x hx hs hok
       have h1:=rN l f x.left ⟨s.seen.set n.toNat true,s.iD+1,s.bad⟩
       have h3:=rN l f x.right (cR l f x.left ⟨s.seen.set n.toNat true,s.iD+1,s.bad⟩).2
       dsimp only at h1 h3 ⊢
       simp only [Tr.size]
       omega
      ·simp [Tr.size]
     ·simp [Tr.size]
def lK (s:List Bool)(I:List Nat):List Bool:=I.foldl (fun s k=>s.set k true) s
theorem rU:∀(I:List Nat)(s:List Bool)(k:Nat),k∉I->(lK s I)[k]?=s[k]?
 | [],_,_,_=>rfl
 | i::r,s,k,h=>by
  have:=rU r (s.set i true) k (fun h'=>h (List.mem_cons_of_mem _ h'))
  unfold lK at this ⊢
  rw [List.foldl_cons,this,List.getElem?_set_ne (fun e=>h (by simp [e]))]
theorem wo (l:List Nd):∀(t:Tr)(f:Nat)(n:Int)(s:RS)(I:List Nat),I4 l n t I->I.Nodup->(∀k∈I,s.seen[k]?=some false)->t.All (fun x=>okL x=true)->t.size<f->cR l f n s=(t,⟨lK s.seen I,s.iD+t.size,s.bad⟩)
 | .leaf i,f,n,s,I,⟨h1,h2⟩,_,_,_,hf=>by
  subst h2
  obtain ⟨f,rfl⟩:∃g,f=g+1:=⟨f-1,by simp [Tr.size] at hf;omega⟩
  cases i with
  | true=>simp only [if_true] at h1;subst h1;simp [cR,lK,Tr.size]
  | false=>
   have h1:n=-1:=by simpa using h1
   subst h1;simp [cR,lK,Tr.size]
 | .node ln a b,f,n,s,I,⟨k,x,A,B,h1,h2,h3,h4,h5,h6⟩,hnd,hun,hok,hf=>by
  subst h1 h3 h6
  obtain ⟨f,rfl⟩:∃g,f=g+1:=⟨f-1,by simp [Tr.size] at hf;omega⟩
  rw [List.nodup_cons,List.nodup_append] at hnd
  obtain ⟨hk,hA,hB,QJ⟩:=hnd
  have hks:=hun k (by simp)
  simp only [Tr.size] at hf
  have e1:=wo l a f x.left ⟨s.seen.set k true,s.iD+1,s.bad⟩ A h4 hA (fun j hj=>by
   have:k≠j:=fun e=>hk (by rw [e];simp [hj])
   dsimp only
   rw [List.getElem?_set_ne this]
   exact hun j (by simp [hj])) hok.2.1 (by omega)
  have e2:=wo l b f x.right ⟨lK (s.seen.set k true) A,s.iD+1+a.size,s.bad⟩ B h5 hB (fun j hj=>by
   have:k≠j:=fun e=>hk (by rw [e];simp [hj])
   dsimp only
   rw [rU A _ j (fun h=>QJ j h j hj rfl),List.getElem?_set_ne this]
   exact hun j (by simp [hj])) hok.2.2 (by omega)
  have hn1:¬((k:Int)=-2):=by omega
  have hn2:¬((k:Int)=-1):=by omega
  have Q5:¬((k:Int)<0):=by omega
  have e0:cR l (f+1) (k:Int) s=(.node x.ln (cR l f x.left ⟨s.seen.set k true,s.iD+1,s.bad⟩).1 (cR l f x.right (cR l f x.left ⟨s.seen.set k true,s.iD+1,s.bad⟩).2).1,(cR l f x.right (cR l f x.left ⟨s.seen.set k true,s.iD+1,s.bad⟩).2).2):=by
   rw [cR]
   rw [if_neg hn1,if_neg hn2,if_neg Q5]
   simp only [Int.toNat_natCast,h2,hks,hok.1,if_true]
  rw [e0,e1]
  dsimp only
  rw [e2]
  simp only [lK,List.foldl_cons,List.foldl_append,Tr.size,Prod.mk.injEq,RS.mk.injEq,true_and]
  first|omega|exact ⟨by omega,trivial⟩
def ofT (l:List Nd)(root:Int):Option Tr:=
 if 65536<l.length then none else
 let r:=cR l (l.length+1) root ⟨List.replicate l.length false,0,false⟩
 if r.2.bad=true\/r.2.iD≠l.length then none else some r.1
theorem Ga {l:List Nd}{n:Int}{t:Tr}{I:List Nat}(h:I4 l n t I)(hn:I.Nodup)(hI:∀k∈I,k<l.length)(hs:t.size=l.length)(hok:t.All fun x=>okL x=true)(hl:l.length<=65536):ofT l n=some t:=by
 unfold ofT
 rw [if_neg (by omega)]
 rw [wo l t (l.length+1) n _ I h hn (fun k hk=>by simp [hI k hk]) hok (by omega)]
 simp [hs]
theorem Ih {t:Tr}(hok:t.All fun x=>okL x=true)(hl:t.size<=65536):ofT (wr 0 t) (rt 0 t)=some t:=by
 have h:=AW t (wr 0 t) [] [] 0 (by simp) rfl
 refine Ga h List.nodup_range' (fun k hk=>?_) (dA t 0).symm hok (by rw [dA];exact hl)
 rw [dA]
 have:=List.mem_range'_1.1 hk
 omega
theorem ofT_all {p:L3->Prop}{l:List Nd}{n:Int}{t:Tr}(hl:∀x∈l,p x.ln)(h:ofT l n=some t):t.All p:=by
 unfold ofT at h
 split at h
 ·cases h
 ·dsimp only at h
  split at h
  ·cases h
  ·cases h;exact wh hl _ _ _
theorem ofT_size {l:List Nd}{n:Int}{t:Tr}(h:ofT l n=some t):t.size<=65536:=by
 unfold ofT at h
 split at h
 ·cases h
 ·dsimp only at h
  split at h
  ·cases h
  ·rename_i h1 h2
   cases h
   have:=rN l (l.length+1) n ⟨List.replicate l.length false,0,false⟩
   dsimp only at this
   have h3:(cR l (l.length+1) n ⟨List.replicate l.length false,0,false⟩).2.iD=l.length:=by
    rcases Nat.lt_or_ge 0 1 with _|h
    ·by_cases e:(cR l (l.length+1) n ⟨List.replicate l.length false,0,false⟩).2.iD=l.length
     ·exact e
     ·exact absurd (.inr e) h2
    ·omega
   omega
def Ru (n LX i:Nat):Nat:=n-1-(i+LX)%n
def mv (n LX:Nat)(i:Int):Int:=if i<0 then i else (Ru n LX i.toNat:Int)
end Go.Proofs.Tryz
namespace Go.Eng
open Go.Big
def ph (V:View)(v:Value)(a b c:Rat):Prop:=∃(x1 x2:Int)(p:OA)(y1 y2:Int)(q:OA)(z1 z2:Int)(r:OA),v=.agg #[.int .i64 x1,.int .i64 x2,.pointer p,.int .i64 y1,.int .i64 y2,.pointer q,.int .i64 z1,.int .i64 z2,.pointer r] /\
 RR V (.agg #[.int .i64 x1,.int .i64 x2,.pointer p]) a/\RR V (.agg #[.int .i64 y1,.int .i64 y2,.pointer q]) b/\RR V (.agg #[.int .i64 z1,.int .i64 z2,.pointer r]) c
def Fq (v:Value):Prop:=∃(x1 x2:Int)(x3:OA)(y1 y2:Int)(y3:OA)(z1 z2:Int)(z3:OA),v=.agg #[.int .i64 x1,.int .i64 x2,.pointer x3,.int .i64 y1,.int .i64 y2,.pointer y3,.int .i64 z1,.int .i64 z2,.pointer z3]
theorem ph.le {V V':View}{v:Value}{a b c:Rat}(h:ph V v a b c)(l:V.Le V'):ph V' v a b c:=by
 obtain ⟨x1,x2,p,y1,y2,q,z1,z2,r,rfl,h1,h2,h3⟩:=h
 exact ⟨x1,x2,p,y1,y2,q,z1,z2,r,rfl,h1.le l,h2.le l,h3.le l⟩
end Go.Eng
namespace Go.Proofs.Tryz
open Go.Eng Go.Big
theorem Cm {V:View}{v:Value}{a b c:Rat}(h:ph V v a b c){k:Nat}(s1:Sz k a)(s2:Sz k b)(s3:Sz k c)(hk:k<=1099511627776) :
  Acts prog 96 #[v] V fun r V'=>RL V' r a.num b.num c.num:=by
 obtain ⟨x1,x2,p,y1,y2,q,z1,z2,r,rfl,h1,h2,h3⟩:=h
 refine tL _ _ _ _ _ _ _ _ _ V _ fun V1 l1=>(eE (h1.le l1) s1 hk).mono ?_
 rintro r V2 l2 ⟨p1,n1,c1,rfl,g1⟩
 refine ⟨_,_,_,_,rfl,fun V3 l3=>(eE (h2.le (l1.trans (l2.trans l3))) s2 hk).mono ?_⟩
 rintro r V4 l4 ⟨p2,n2,c2,rfl,g2⟩
 refine ⟨_,_,_,_,rfl,fun V5 l5=>(eE (h3.le (l1.trans (l2.trans (l3.trans (l4.trans l5))))) s3 hk).mono ?_⟩
 rintro r V6 l6 ⟨p3,n3,c3,rfl,g3⟩
 exact ⟨_,_,_,_,rfl,fun V7 l7=>⟨_,_,_,_,_,_,_,_,_,rfl,g1.le (l3.trans (l4.trans (l5.trans (l6.trans l7)))),g2.le (l5.trans (l6.trans l7)),g3.le l7⟩⟩
def rI (b1:Bool)(xs:List Nat)(b2:Bool)(ys:List Nat)(b3:Bool)(zs:List Nat):Bool:=
 jM b1 xs&&jM b2 ys&&jM b3 zs&&!(decide ((aO b1 xs:Rat)=0)&&decide ((aO b2 ys:Rat)=0))&&decide (im (im (aO b1 xs) (aO b2 ys)) (aO b3 zs)=((1:Int):Rat))
theorem nU {V:View}{ok:Bool}{A B C:Rat}(h:ok=false):∃v,Value.tuple #[.agg #[.int .i64 0,.int .i64 0,.pointer none,.int .i64 0,.int .i64 0,.pointer none,.int .i64 0,.int .i64 0,.pointer none],.bool false]=.tuple #[v,.bool ok]/\Fq v/\(ok=true->ph V v A B C):=by
 subst h;exact ⟨_,rfl,⟨_,_,_,_,_,_,_,_,_,rfl⟩,fun h=>nomatch h⟩
theorem Fb:Sz 1 ((1:Int):Rat):=by unfold Sz;decide
theorem qz {V:View}(b1 b2 b3:Bool){p q s:OA}{n c m e i j:Nat}{xs ys zs:List Nat}(hx:RD V p n c xs)(hy:RD V q m e ys)(hz:RD V s i j zs)
  (h1:xs.length<=1099511627776)(h2:ys.length<=1099511627776)(h3:zs.length<=1099511627776){k:Nat}(s1:Sz k (aO b1 xs:Rat))(s2:Sz k (aO b2 ys:Rat))(s3:Sz k (aO b3 zs:Rat))(hk:4*k+4<1099511627776) :
  Acts prog 132 #[.agg #[.bool b1,.slice p n c,.bool b2,.slice q m e,.bool b3,.slice s i j]] V fun r V'=>∃v,r=.tuple #[v,.bool (rI b1 xs b2 ys b3 zs)]/\Fq v/\(rI b1 xs b2 ys b3 zs=true->ph V' v (aO b1 xs) (aO b2 ys) (aO b3 zs)):=by
 refine zu _ p n c _ q m e _ s i j V _ fun V1 l1=>(fc b1 (hx.le l1) h1).mono ?_
 rintro r V2 l2 rfl
 refine ⟨_,rfl,fun h0 V3 l3=>nU ?_,fun h0 V4 l4=>(fc b2 (hy.le (l1.trans (l2.trans l4))) h2).mono ?_⟩
 ·have h0:jM b1 xs=false:=by simpa using h0
  simp [rI,h0]
 have h0:jM b1 xs=true:=by simpa using h0
 rintro r V5 l5 rfl
 refine ⟨_,rfl,fun g0 V6 l6=>nU ?_,fun g0 V7 l7=>(fc b3 (hz.le (l1.trans (l2.trans (l4.trans (l5.trans l7))))) h3).mono ?_⟩
 ·have g0:jM b2 ys=false:=by simpa using g0
  simp [rI,g0]
 have g0:jM b2 ys=true:=by simpa using g0
 rintro r V8 l8 rfl
 have G_:=l1.trans (l2.trans (l4.trans (l5.trans (l7.trans l8))))
 refine ⟨_,rfl,fun f0 V9 l9=>nU ?_,fun f0 V10 l10=>(jg b1 (hx.le (G_.trans l10)) h1).mono ?_⟩
 ·have f0:jM b3 zs=false:=by simpa using f0
  simp [rI,f0]
 have f0:jM b3 zs=true:=by simpa using f0
 rintro r V11 l11 ra
 obtain ⟨x1,x2,x3,rfl⟩:=ra.shape
 have J0:=G_.trans (l10.trans l11)
 refine ⟨_,_,_,rfl,fun V12 l12=>(jg b2 (hy.le (J0.trans l12)) h2).mono ?_⟩
 rintro r V13 l13 rb
 obtain ⟨y1,y2,y3,rfl⟩:=rb.shape
 have MQ:=J0.trans (l12.trans l13)
 refine ⟨_,_,_,rfl,fun V14 eY=>(jg b3 (hz.le (MQ.trans eY)) h3).mono ?_⟩
 rintro r V15 eZ rc
 obtain ⟨z1,z2,z3,rfl⟩:=rc.shape
 replace ra:=ra.le (l12.trans (l13.trans (eY.trans eZ)))
 replace rb:=rb.le (eY.trans eZ)
 have hok:rI b1 xs b2 ys b3 zs=(!(decide ((aO b1 xs:Rat)=0)&&decide ((aO b2 ys:Rat)=0))&&decide (im (im (aO b1 xs) (aO b2 ys)) (aO b3 zs)=((1:Int):Rat))):=by
  simp only [rI,h0,g0,f0,Bool.true_and]
 rw [hok]
 clear hok h0 g0 f0 hx hy hz
 generalize (aO b1 xs:Rat)=A at *
 generalize (aO b2 ys:Rat)=B at *
 generalize (aO b3 zs:Rat)=C at *
 refine ⟨_,_,_,rfl,fun me eU=>(xE (ra.le eU)).mono ?_⟩
 rintro r pS dX rfl
 refine ⟨_,rfl,fun t0 sQ fB=>(xE (rb.le (eU.trans (dX.trans fB)))).mono ?_,fun t0 ub hU=>?_⟩
 ·rintro r ua fH rfl
  refine ⟨_,rfl,fun u0 Dc lG=>nU (by rw [t0,u0];rfl),fun u0 ub hU=>?_⟩
  have lb:V15.Le ub:=eU.trans (dX.trans (fB.trans (fH.trans hU)))
  have hn:(decide (A=0)&&decide (B=0))=false:=by rw [u0,Bool.and_false]
  rw [hn]
  refine (jf (ra.le lb) (rb.le lb) s1 s2 (by omega)).mono ?_
  rintro r xn mF rg
  obtain ⟨g1,g2,g3,rfl⟩:=rg.shape
  refine ⟨_,_,_,rfl,fun xo kb=>(jf (rg.le kb) (rc.le (lb.trans (mF.trans kb))) (kx s1 s2) s3 (by omega)).mono ?_⟩
  rintro r Hm F3 rh
  obtain ⟨h1,h2,h3,rfl⟩:=rh.shape
  refine ⟨_,_,_,rfl,fun GJ l25=>(gk 1 (by omega) (by omega)).mono ?_⟩
  rintro r Ld l26 ri
  obtain ⟨i1,i2,i3,rfl⟩:=ri.shape
  refine ⟨_,_,_,rfl,fun Lf l27=>(uw (rh.le (l25.trans (l26.trans l27))) (ri.le l27) (kx (kx s1 s2) s3) Fb (by omega)).mono ?_⟩
  rintro r Lg H8 rfl
  have lz:V15.Le Lg:=lb.trans (mF.trans (kb.trans (F3.trans (l25.trans (l26.trans (l27.trans H8))))))
  refine ⟨_,rfl,fun w0 N3 IQ=>nU ?_,fun w0 Lh Di=>?_⟩
  ·rw [Bool.not_eq_true'] at w0
   rw [w0];rfl
  ·have w0:decide (im (im A B) C=((1:Int):Rat))=true:=by
    cases h:decide (im (im A B) C=((1:Int):Rat))
    ·rw [h] at w0;cases w0
    ·rfl
   rw [w0]
   exact ⟨_,rfl,⟨_,_,_,_,_,_,_,_,_,rfl⟩,fun _=>⟨_,_,_,_,_,_,_,_,_,rfl,ra.le (lz.trans Di),rb.le (lz.trans Di),rc.le (lz.trans Di)⟩⟩
 ·have lb:V15.Le ub:=eU.trans (dX.trans hU)
  have hn:(decide (A=0)&&decide (B=0))=false:=by rw [t0,Bool.false_and]
  rw [hn]
  refine (jf (ra.le lb) (rb.le lb) s1 s2 (by omega)).mono ?_
  rintro r xn mF rg
  obtain ⟨g1,g2,g3,rfl⟩:=rg.shape
  refine ⟨_,_,_,rfl,fun xo kb=>(jf (rg.le kb) (rc.le (lb.trans (mF.trans kb))) (kx s1 s2) s3 (by omega)).mono ?_⟩
  rintro r Hm F3 rh
  obtain ⟨h1,h2,h3,rfl⟩:=rh.shape
  refine ⟨_,_,_,rfl,fun GJ l25=>(gk 1 (by omega) (by omega)).mono ?_⟩
  rintro r Ld l26 ri
  obtain ⟨i1,i2,i3,rfl⟩:=ri.shape
  refine ⟨_,_,_,rfl,fun Lf l27=>(uw (rh.le (l25.trans (l26.trans l27))) (ri.le l27) (kx (kx s1 s2) s3) Fb (by omega)).mono ?_⟩
  rintro r Lg H8 rfl
  have lz:V15.Le Lg:=lb.trans (mF.trans (kb.trans (F3.trans (l25.trans (l26.trans (l27.trans H8))))))
  refine ⟨_,rfl,fun w0 N3 IQ=>nU ?_,fun w0 Lh Di=>?_⟩
  ·rw [Bool.not_eq_true'] at w0
   rw [w0];rfl
  ·have w0:decide (im (im A B) C=((1:Int):Rat))=true:=by
    cases h:decide (im (im A B) C=((1:Int):Rat))
    ·rw [h] at w0;cases w0
    ·rfl
   rw [w0]
   exact ⟨_,rfl,⟨_,_,_,_,_,_,_,_,_,rfl⟩,fun _=>⟨_,_,_,_,_,_,_,_,_,rfl,ra.le (lz.trans Di),rb.le (lz.trans Di),rc.le (lz.trans Di)⟩⟩
def Gd:List Int->Int
 | []=>0
 | x::r=>if x=0 then Gd r else x
def H0 (l:List Int):List Value:=l.map fun x=>Value.int .i64 x
theorem Im {l:List Int}:Gd l=0↔∀x∈l,x=0:=by
 induction l with
 | nil=>simp [Gd]
 | cons x r ih=>
  simp only [Gd,List.mem_cons,forall_eq_or_imp]
  split
  ·rename_i h;simp [h,ih]
  ·rename_i h;simp [h]
theorem DM {V:View}{p:OA}{n c:Nat}{l:List Int}(hl:n=l.length)(hs:V.sl p (H0 l))(hm:l.length<=1099511627776) :
  Acts prog 245 #[.slice p n c] V fun r V'=>r=.int .i64 (Gd l):=by
 refine Da p n c V _ ⟨fun z V'=>0<=z/\z<=n/\Gd l=Gd (l.drop z.toNat),fun z=>n-z.toNat,⟨0,by (try dsimp only);and_intros<;>first|exact True.intro|rfl,by (try dsimp only);omega,by (try dsimp only);omega,rfl⟩,?_⟩
 rintro i V1 l1 ⟨hi0,hi1,he⟩
 dsimp only at hi1 he ⊢
 obtain ⟨i,rfl⟩:=Int.eq_ofNat_of_zero_le hi0
 simp only [Int.toNat_natCast] at he
 refine ⟨by trivial,fun h3=>?_,fun h3 V3 l3=>?_⟩
 ·have h3:i<n:=by simpa using h3
  have hil:i<l.length:=by omega
  obtain ⟨ad,e1,hat⟩:=(l1.sl hs) i (.int .i64 l[i]) (by simp [H0,hil])
  rw [List.drop_eq_getElem_cons hil,Gd] at he
  refine ⟨by rw [e1];rfl,⟨by omega,by omega⟩,l[i],⟨ad.add i,by rw [e1];simp [addrAdd],hat⟩,fun h4 V2 l2=>?_,fun h4=>?_⟩
  ·have h4:l[i]≠0:=by simpa using h4
   rw [if_neg h4] at he
   rw [he]
  ·have h4:l[i]=0:=by simpa using h4
   rw [if_pos h4] at he
   have w:i64.wrap ((i:Int)+1)=((i+1:Nat):Int):=by rw [i64w (by omega)];omega
   simp only [w]
   refine ⟨((i+1:Nat):Int),?_,by (try dsimp only);and_intros<;>first|exact True.intro|rfl,by (try dsimp only);omega,by (try dsimp only);omega,?_⟩
   ·(try dsimp only);omega
   ·exact he
 ·have h3:i=n:=by simp at h3;omega
  rw [List.drop_of_length_le (by omega)] at he
  rw [he];rfl
theorem Cn {V:View}{v w:Value}{a b c a' b' c':Rat}(hx:ph V v a b c)(hy:ph V w a' b' c'){k m:Nat}(s1:Sz k a)(s2:Sz k b)(s3:Sz k c)(t1:Sz m a')(t2:Sz m b')(t3:Sz m c')(hk:k+m<1099511627776) :
  Acts prog 231 #[v,w] V fun r V'=>r=.int .i64 (Gd [fu a a',fu b b',fu c c']):=by
 obtain ⟨x1,x2,p,y1,y2,q,z1,z2,r,rfl,h1,h2,h3⟩:=hx
 obtain ⟨x3,x4,p',y3,y4,q',z3,z4,r',rfl,g1,g2,g3⟩:=hy
 refine tM _ _ _ _ _ _ _ _ _ _ _ _ _ _ _ _ _ _ V _ fun V1 l1=>(je (h1.le l1) (g1.le l1) s1 t1 hk).mono ?_
 rintro r V2 l2 rfl
 refine ⟨_,rfl,fun V3 l3=>(je (h2.le (l1.trans (l2.trans l3))) (g2.le (l1.trans (l2.trans l3))) s2 t2 hk).mono ?_⟩
 rintro r V4 l4 rfl
 have l04:=l1.trans (l2.trans (l3.trans l4))
 refine ⟨_,rfl,fun V5 l5=>(je (h3.le (l04.trans l5)) (g3.le (l04.trans l5)) s3 t3 hk).mono ?_⟩
 rintro r V6 l6 rfl
 refine ⟨_,rfl,fun V7 l7 bk hb=>(DM (l:=[fu a a',fu b b',fu c c']) rfl (fun i v hv=>⟨_,rfl,by rw [add_zero'];exact blk_at (xs:=H0 [fu a a',fu b b',fu c c']) hb hv⟩) (by simp)).mono ?_⟩
 rintro r V8 l8 rfl
 exact ⟨_,rfl,fun _ V9 l9=>rfl⟩
theorem xG {V:View}{v w:Value}{a b c a' b' c':Rat}(hx:ph V v a b c)(hy:ph V w a' b' c'){k m:Nat}(s1:Sz k a)(s2:Sz k b)(s3:Sz k c)(t1:Sz m a')(t2:Sz m b')(t3:Sz m c')(hk:k+m<1099511627776) :
  Acts prog 197 #[v,w] V fun r V'=>r=.bool (decide (a=a'/\b=b'/\c=c')):=by
 have hx0:=hx
 have hy0:=hy
 obtain ⟨x1,x2,p,y1,y2,q,z1,z2,r,rfl,-,-,-⟩:=hx
 obtain ⟨x3,x4,p',y3,y4,q',z3,z4,r',rfl,-,-,-⟩:=hy
 refine pH _ _ _ _ _ _ _ _ _ _ _ _ _ _ _ _ _ _ V _ fun V1 l1=>(Cn (hx0.le l1) (hy0.le l1) s1 s2 s3 t1 t2 t3 hk).mono ?_
 rintro r V2 l2 rfl
 refine ⟨_,rfl,fun V3 l3=>?_⟩
 congr 1
 rw [Bool.eq_iff_iff,decide_eq_true_eq,beq_iff_eq,Im]
 simp [←js]
theorem addadd (a:Addr)(i j:Nat):(a.add i).add j=a.add (i+j):=by
 unfold Addr.add
 by_cases h1:i=0
 ·subst h1;simp
 ·by_cases h2:j=0
  ·subst h2;simp [h1]
  ·simp [h1,h2,Nat.add_assoc]
theorem rdc {V:View}{b:Nat}{xs:List Value}{ty:TypeId}{m:Nat×Nat}(h:V.a_ b (.cells xs.toArray ty m))(i:Nat){v:Value}(hv:xs[i]?=some v):∃a,addrAdd (some ⟨b,0,none⟩) i=some a/\V.at a v:=
 ⟨⟨b,i,none⟩,by simp [addrAdd,add_zero'],blk_at h hv⟩
theorem yI {a b c:Int}:rI (decide (a<0)) (af a.natAbs) (decide (b<0)) (af b.natAbs) (decide (c<0)) (af c.natAbs)=okL (a,b,c):=by
 have hn:∀z:Int,jM (decide (z<0)) (af z.natAbs)=true:=by
  intro z
  unfold jM
  rw [ab]
  simp only [decide_true,Bool.true_and]
  by_cases h:z<0
  ·simp only [h,decide_true,Bool.not_true,Bool.false_or,decide_eq_true_eq]
   intro e
   have:=bf.1 e
   omega
  ·simp [h]
 have hg:im (im (a:Rat) (b:Rat)) (c:Rat)=((gC a b c:Nat):Int):=by
  have g2:∀x y:Int,im (x:Rat) (y:Rat)=((Nat.gcd x.natAbs y.natAbs:Nat):Int):=by
   intro x y
   unfold im
   have e1:((x:Rat)).num=x:=rfl
   have e2:((y:Rat)).num=y:=rfl
   have e3:((x:Rat)).den=1:=rfl
   have e4:((y:Rat)).den=1:=rfl
   rw [e1,e2,e3,e4]
   simp only [Nat.mul_one]
   exact Rat.mkRat_one _
  rw [g2,g2]
  rfl
 unfold rI okL
 rw [hn,hn,hn,aA,aA,aA,hg]
 have h0:∀z:Int,((z:Rat)=0)↔z=0:=fun z=>by exact Rat.intCast_eq_zero_iff
 simp only [Bool.true_and,h0]
 rw [Bool.eq_iff_iff]
 simp only [Bool.and_eq_true,Bool.not_eq_true',Bool.and_eq_false_iff,decide_eq_false_iff_not,decide_eq_true_eq]
 have h1:(((gC a b c:Nat):Int):Rat)=((1:Int):Rat)↔gC a b c=1:=by
  rw [Rat.intCast_inj];omega
 rw [h1]
 constructor
 ·rintro ⟨h,h'⟩;exact ⟨fun e=>by rcases h with h|h;exact h e.1;exact h e.2,h'⟩
 ·rintro ⟨h,h'⟩
  refine ⟨?_,h'⟩
  by_cases ha:a=0
  ·exact .inr fun hb=>h ⟨ha,hb⟩
  ·exact .inl ha
theorem wK {z:Int}{k:Nat}(h:z.natAbs<2^k)(hk:0<k):Sz k (z:Rat):=⟨h,Nat.one_lt_two_pow (by omega)⟩
theorem Bd.af {x:L3}(h:Bd x):(af x.1.natAbs).length<=1000/\(af x.2.1.natAbs).length<=1000/\(af x.2.2.natAbs).length<=1000:=⟨ae h.1,ae h.2.1,ae h.2.2⟩
theorem Bd.sz {x:L3}(h:Bd x):Sz 1000 (x.1:Rat)/\Sz 1000 (x.2.1:Rat)/\Sz 1000 (x.2.2:Rat):=⟨wK h.1 (by omega),wK h.2.1 (by omega),wK h.2.2 (by omega)⟩
theorem xH {V:View}{v:Value}{x:L3}(h:RL V v x.1 x.2.1 x.2.2)(hb:Bd x) :
  Acts prog 132 #[v] V fun r V'=>∃w,r=.tuple #[w,.bool (okL x)]/\Fq w/\(okL x=true->ph V' w x.1 x.2.1 x.2.2):=by
 obtain ⟨p,n,s,p',n',s',q,m,e,rfl,h1,h2,h3⟩:=h
 obtain ⟨d1,d2,d3⟩:=hb.af
 obtain ⟨s1,s2,s3⟩:=hb.sz
 have hc:=qz (V:=V) (decide (x.1<0)) (decide (x.2.1<0)) (decide (x.2.2<0)) h1 h2 h3 (by omega) (by omega) (by omega) (k:=1000) (by rw [aA];exact s1) (by rw [aA];exact s2) (by rw [aA];exact s3) (by omega)
 rw [yI,aA,aA,aA] at hc
 exact hc
def RT (V:View):OA->Tr->Prop
 | p,.leaf i=>∃(b:Nat)(c0 c1 c2 c3 c4 c5 c6 c7 c8:Value)(r:OA),p=some ⟨b,0,none⟩/\V.a_ b (.cells #[c0,c1,c2,c3,c4,c5,c6,c7,c8,.pointer none,.pointer r,.bool i] 122 (0,0))
 | p,.node l x y=>∃(b:Nat)(x1 x2:Int)(x3:OA)(y1 y2:Int)(y3:OA)(z1 z2:Int)(z3:OA)(pl pr:OA)(i:Bool),p=some ⟨b,0,none⟩ /\
   V.a_ b (.cells #[.int .i64 x1,.int .i64 x2,.pointer x3,.int .i64 y1,.int .i64 y2,.pointer y3,.int .i64 z1,.int .i64 z2,.pointer z3,.pointer pl,.pointer pr,.bool i] 122 (0,0)) /\
   ph V (.agg #[.int .i64 x1,.int .i64 x2,.pointer x3,.int .i64 y1,.int .i64 y2,.pointer y3,.int .i64 z1,.int .i64 z2,.pointer z3]) l.1 l.2.1 l.2.2/\RT V pl x/\RT V pr y
theorem RT.le {V V':View}(h:V.Le V'):∀{t:Tr} {p:OA},RT V p t->RT V' p t
 | .leaf i,p,⟨b,c0,c1,c2,c3,c4,c5,c6,c7,c8,r,e,hb⟩=>⟨b,c0,c1,c2,c3,c4,c5,c6,c7,c8,r,e,h _ _ hb⟩
 | .node l x y,p,⟨b,x1,x2,x3,y1,y2,y3,z1,z2,z3,pl,pr,i,e,hb,hl,hx,hy⟩=>⟨b,x1,x2,x3,y1,y2,y3,z1,z2,z3,pl,pr,i,e,h _ _ hb,hl.le h,RT.le h hx,RT.le h hy⟩
theorem RT.MM {V:View}{t:Tr}{p:OA}(h:RT V p t):p.isSome=true:=by
 cases t with
 | leaf i=>obtain ⟨b,c0,c1,c2,c3,c4,c5,c6,c7,c8,r,rfl,hb⟩:=h;rfl
 | node l x y=>obtain ⟨b,x1,x2,x3,y1,y2,y3,z1,z2,z3,pl,pr,i,rfl,-⟩:=h;rfl
theorem fa {V:View}(i:Bool):Acts prog 175 #[.bool i] V fun r V'=>∃p,r=.pointer p/\RT V' p (.leaf i):=
 zm i V _ fun V1 l1 b hb=>⟨_,rfl,b,_,_,_,_,_,_,_,_,_,_,rfl,hb⟩
theorem c_bsp_IsLeaf {V:View}{p:OA}{t:Tr}(h:RT V p t):Acts prog 137 #[.pointer p] V fun r V'=>r=.bool t.H3:=by
 cases t with
 | leaf i=>
  obtain ⟨b,c0,c1,c2,c3,c4,c5,c6,c7,c8,r,rfl,hb⟩:=h
  exact jL _ V _ ⟨rfl,rfl,_,rdc hb 9 rfl,fun V1 l1=>rfl⟩
 | node l x y=>
  obtain ⟨b,x1,x2,x3,y1,y2,y3,z1,z2,z3,pl,pr,i,rfl,hb,hl,hx,hy⟩:=h
  refine jL _ V _ ⟨rfl,rfl,_,rdc hb 9 rfl,fun V1 l1=>?_⟩
  have:=hx.MM
  cases pl with
  | none=>cases this
  | some a=>rfl
theorem Cl {V:View}{v:Value}{l:L3}{p q:OA}{x y:Tr}(hl:ph V v l.1 l.2.1 l.2.2)(hx:RT V p x)(hy:RT V q y) :
  Acts prog 176 #[v,.pointer p,.pointer q] V fun r V'=>∃p',r=.pointer p'/\RT V' p' (.node l x y):=by
 have hl0:=hl
 obtain ⟨x1,x2,x3,y1,y2,y3,z1,z2,z3,rfl,-⟩:=hl
 exact A5 _ _ _ _ _ _ _ _ _ p q V _ fun V1 l1 b hb=>⟨_,rfl,b,_,_,_,_,_,_,_,_,_,_,_,_,rfl,hb,hl0.le l1,hx.le l1,hy.le l1⟩
def Fs (V:View)(v:Value)(l:L3):Prop:=RL V v l.1 l.2.1 l.2.2\/okL l=false/\∃b1 p n c xs b2 q m e ys b3 s i j zs,v=.agg #[.bool b1,.slice p n c,.bool b2,.slice q m e,.bool b3,.slice s i j]/\RD V p n c xs/\RD V q m e ys/\RD V s i j zs /\
 rI b1 xs b2 ys b3 zs=false/\(xs.length<=1000000/\ys.length<=1000000/\zs.length<=1000000)/\Sz 1000000 (aO b1 xs:Rat)/\Sz 1000000 (aO b2 ys:Rat)/\Sz 1000000 (aO b3 zs:Rat)
theorem Fs.le {V V':View}{v:Value}{l:L3}(h:Fs V v l)(e:V.Le V'):Fs V' v l:=by
 rcases h with h|⟨ho,b1,p,n,c,xs,b2,q,m,e',ys,b3,s,i,j,zs,hv,h1,h2,h3,h4⟩
 ·exact .inl (h.le e)
 ·exact .inr ⟨ho,b1,p,n,c,xs,b2,q,m,e',ys,b3,s,i,j,zs,hv,h1.le e,h2.le e,h3.le e,h4⟩
theorem Fs.ok {V:View}{v:Value}{l:L3}(h:Fs V v l)(ho:okL l=true):RL V v l.1 l.2.1 l.2.2:=by
 rcases h with h|⟨h,-⟩
 ·exact h
 ·rw [ho] at h;cases h
theorem vJ {V:View}{v:Value}{x:L3}(h:Fs V v x)(hb:Bd x) :
  Acts prog 132 #[v] V fun r V'=>∃w,r=.tuple #[w,.bool (okL x)]/\Fq w/\(okL x=true->ph V' w x.1 x.2.1 x.2.2):=by
 rcases h with h|⟨ho,b1,p,n,c,xs,b2,q,m,e',ys,b3,s,i,j,zs,rfl,h1,h2,h3,h4,⟨m1,m2,m3⟩,s1,s2,s3⟩
 ·exact xH h hb
 ·refine (qz b1 b2 b3 h1 h2 h3 (by omega) (by omega) (by omega) s1 s2 s3 (by omega)).mono ?_
  rintro r V2 l2 ⟨w,rfl,g1,g2⟩
  rw [h4] at g2 ⊢
  rw [ho]
  exact ⟨w,rfl,g1,fun h=>by cases h⟩
def NR (V:View)(vs:List Value)(l:List Nd):Prop:=∀(i:Nat)(d:Nd),l[i]?=some d->∃(b1:Bool)(p1:OA)(n1 c1:Nat)(b2:Bool)(p2:OA)(n2 c2:Nat)(b3:Bool)(p3:OA)(n3 c3:Nat),
 (∀j v,([.bool b1,.slice p1 n1 c1,.bool b2,.slice p2 n2 c2,.bool b3,.slice p3 n3 c3,.int .i64 d.left,.int .i64 d.right]:List Value)[j]?=some v->vs[i*8+j]?=some v) /\
 Fs V (.agg #[.bool b1,.slice p1 n1 c1,.bool b2,.slice p2 n2 c2,.bool b3,.slice p3 n3 c3]) d.ln
theorem NR.le {V V':View}{vs:List Value}{l:List Nd}(h:NR V vs l)(hl:V.Le V'):NR V' vs l:=fun i d hd=>by
 obtain ⟨b1,p1,n1,c1,b2,p2,n2,c2,b3,p3,n3,c3,h1,h2⟩:=h i d hd
 exact ⟨b1,p1,n1,c1,b2,p2,n2,c2,b3,p3,n3,c3,h1,h2.le hl⟩
structure NS (V:View) (p:OA) (n c:Nat) (l:List Nd):Prop where
 len:n=l.length
 cap:n<=c
 row:∃vs,V.sl p vs/\NR V vs l
 CN:p.isNone=true->c=0
theorem NS.le {V V':View}{p:OA}{n c:Nat}{l:List Nd}(h:NS V p n c l)(hl:V.Le V'):NS V' p n c l:=by
 obtain ⟨h1,h2,⟨vs,h3,h4⟩,h5⟩:=h
 exact ⟨h1,h2,⟨vs,hl.sl h3,h4.le hl⟩,h5⟩
theorem NS.nil {V:View}:NS V none 0 0 []:=⟨rfl,Nat.le_refl _,⟨[],fun i v h=>by simp at h,fun i d h=>by simp at h⟩,fun _=>rfl⟩
theorem NS.MM {V:View}{p:OA}{n c:Nat}{l:List Nd}(h:NS V p n c l)(hn:n≠0):p.isSome=true:=by
 cases p with
 | none=>have:=h.CN rfl;have:=h.cap;omega
 | some a=>rfl
def jS (l:List Bool):List Value:=l.map .bool
theorem Ch {l:List Bool}{i:Nat}{b:Bool}(h:l[i]?=some b):(jS l)[i]?=some (.bool b):=by simp [jS,h]
theorem NS.rd {V:View}{p:OA}{n c:Nat}{l:List Nd}(h:NS V p n c l){k:Nat}{d:Nd}(hd:l[k]?=some d) :
  ∃(b1:Bool)(p1:OA)(n1 c1:Nat)(b2:Bool)(p2:OA)(n2 c2:Nat)(b3:Bool)(p3:OA)(n3 c3:Nat)(a:Addr),addrAdd p (k*8)=some a /\
   V.at (a.add 0) (.bool b1)/\V.at (a.add 1) (.slice p1 n1 c1)/\V.at (a.add 2) (.bool b2)/\V.at (a.add 3) (.slice p2 n2 c2)/\V.at (a.add 4) (.bool b3)/\V.at (a.add 5) (.slice p3 n3 c3)/\V.at (a.add 6) (.int .i64 d.left)/\V.at (a.add 7) (.int .i64 d.right) /\
   Fs V (.agg #[.bool b1,.slice p1 n1 c1,.bool b2,.slice p2 n2 c2,.bool b3,.slice p3 n3 c3]) d.ln:=by
 obtain ⟨vs,hs,hr⟩:=h.row
 obtain ⟨b1,p1,n1,c1,b2,p2,n2,c2,b3,p3,n3,c3,h1,h2⟩:=hr k d hd
 obtain ⟨ad,rfl,-⟩:=hs _ _ (h1 0 _ rfl)
 have key:∀j v,([.bool b1,.slice p1 n1 c1,.bool b2,.slice p2 n2 c2,.bool b3,.slice p3 n3 c3,.int .i64 d.left,.int .i64 d.right]:List Value)[j]?=some v->V.at ((ad.add (k*8)).add j) v:=by
  intro j v hv
  obtain ⟨ad',e,ha⟩:=hs _ _ (h1 j v hv)
  cases e
  rw [addadd]
  exact ha
 exact ⟨b1,p1,n1,c1,b2,p2,n2,c2,b3,p3,n3,c3,_,rfl,key 0 _ rfl,key 1 _ rfl,key 2 _ rfl,key 3 _ rfl,key 4 _ rfl,key 5 _ rfl,key 6 _ rfl,key 7 _ rfl,h2⟩
theorem Ab {l:List Nd}(hb:∀x∈l,Bd x.ln)(hlen:l.length<=65536):∀(f:Nat) (n:Int) (s:RS) {V:View} {rb sb:Nat} {IU:OA} {nc:Nat},NS V IU l.length nc l ->
  V.w.heap[rb]?=some (.cells #[.slice IU l.length nc,.slice (some ⟨sb,0,none⟩) l.length l.length,.int .i64 (s.iD:Int),.bool s.bad] 252 (0,0))->V.X rb ->
  V.w.heap[sb]?=some (.cells (jS s.seen).toArray 4 (0,0))->V.X sb->rb≠sb->s.seen.length=l.length->s.seen.count false<f->s.iD+s.seen.count false<=l.length ->
  Acts prog 136 #[.pointer (some ⟨rb,0,none⟩),.int .i64 n] V fun r V'=>∃p,r=.pointer p/\RT V' p (cR l f n s).1 /\
   V'.w.heap[rb]?=some (.cells #[.slice IU l.length nc,.slice (some ⟨sb,0,none⟩) l.length l.length,.int .i64 ((cR l f n s).2.iD:Int),.bool (cR l f n s).2.bad] 252 (0,0)) /\
   V'.w.heap[sb]?=some (.cells (jS (cR l f n s).2.seen).toArray 4 (0,0)):=by
 intro f
 induction f with
 | zero=>intro n s V rb sb IU nc _ _ _ _ _ _ _ h;omega
 | succ f ih=>
  intro n s V rb sb IU nc hns hw1 hx1 hw2 hx2 hne hsl hcf hct
  refine lT rb sb IU l.length nc l.length l.length s.iD s.bad (jS s.seen) n V _ hw1 hx1 hw2 hx2 hne ⟨fun h0 V1 l1=>(fa _).mono ?_,fun h0=>⟨fun h1 V4 l4=>(fa _).mono ?_,fun h1=>⟨fun h2 V7 l7=>(fa _).mono ?_,fun h2=>⟨fun h3 V10 l10=>(fa _).mono ?_,fun h3=>?_⟩⟩⟩⟩
  ·rintro r V2 l2 ⟨p,rfl,hp⟩
   have e0:n=-2:=by simpa using h0
   have e:cR l (f+1) n s=(.leaf true,s):=by simp [cR,e0]
   rw [h0] at hp
   exact ⟨p,rfl,fun V3 l3 g1 g2=>⟨p,rfl,by rw [e];exact hp.le l3,by rw [e];exact g1,by rw [e];exact g2⟩⟩
  ·rintro r V2 l2 ⟨p,rfl,hp⟩
   have e0:n=-1:=by simpa using h1
   have e:cR l (f+1) n s=(.leaf false,s):=by simp [cR,e0]
   rw [h0] at hp
   exact ⟨p,rfl,fun V3 l3 g1 g2=>⟨p,rfl,by rw [e];exact hp.le l3,by rw [e];exact g1,by rw [e];exact g2⟩⟩
  ·rintro r V2 l2 ⟨p,rfl,hp⟩
   have n0:¬n=-2:=by simpa using h0
   have n1:¬n=-1:=by simpa using h1
   have n2:n<0:=by simpa using h2
   have e:cR l (f+1) n s=(.leaf false,{ s with bad:=true }):=by simp [cR,n0,n1,n2]
   exact ⟨p,rfl,fun V3 l3 g1 g2=>⟨p,rfl,by rw [e];exact hp.le l3,by rw [e];exact g1,by rw [e];exact g2⟩⟩
  ·rintro r V2 l2 ⟨p,rfl,hp⟩
   have n0:¬n=-2:=by simpa using h0
   have n1:¬n=-1:=by simpa using h1
   have n2:¬n<0:=by simpa using h2
   have n3:(l.length:Int)<=n:=by simpa using h3
   have e:cR l (f+1) n s=(.leaf false,{ s with bad:=true }):=by
    simp only [cR,n0,n1,n2,if_false]
    rw [List.getElem?_eq_none (by omega)]
   exact ⟨p,rfl,fun V3 l3 g1 g2=>⟨p,rfl,by rw [e];exact hp.le l3,by rw [e];exact g1,by rw [e];exact g2⟩⟩
  ·have n0:¬n=-2:=by simpa using h0
   have n1:¬n=-1:=by simpa using h1
   have n2:¬n<0:=by simpa using h2
   have n3:n<(l.length:Int):=by simpa using h3
   clear h0 h1 h2 h3
   obtain ⟨k,rfl⟩:=Int.eq_ofNat_of_zero_le (Int.not_lt.1 n2)
   have hk:k<l.length:=by omega
   have hks:k<s.seen.length:=by omega
   simp only [Int.toNat_natCast,Nat.mul_one,Nat.zero_add]
   have hsk:s.seen[k]?=some s.seen[k]:=List.getElem?_eq_getElem hks
   have hlk:l[k]?=some l[k]:=List.getElem?_eq_getElem hk
   refine ⟨⟨by omega,n3⟩,s.seen[k],Ch hsk,fun h4 V13 l13=>(fa _).mono ?_,fun h4=>⟨⟨by omega,n3⟩,by simp [jS];omega,hns.MM (by omega),⟨by omega,n3⟩,?_⟩⟩
   ·rintro r V2 l2 ⟨p,rfl,hp⟩
    have e:cR l (f+1) (k:Int) s=(.leaf false,{ s with bad:=true }):=by
     simp only [cR,n0,n1,n2,if_false,Int.toNat_natCast]
     rw [hsk,h4,hlk]
    exact ⟨p,rfl,fun V3 l3 g1 g2=>⟨p,rfl,by rw [e];exact hp.le l3,by rw [e];exact g1,by rw [e];exact g2⟩⟩
   ·obtain ⟨b1,p1,m1,c1,b2,p2,m2,c2,b3,p3,m3,c3,a,ha,a0,a1,a2,a3,a4,a5,a6,a7,hL⟩:=hns.rd hlk
    refine ⟨b1,p1,m1,c1,b2,p2,m2,c2,b3,p3,m3,c3,_,_,a,ha,a0,a1,a2,a3,a4,a5,a6,a7,fun me eU=>(vJ (hL.le eU) (hb _ (List.getElem_mem hk))).mono ?_⟩
    rintro r pS dX ⟨w,rfl,⟨x1,x2,x3,y1,y2,y3,z1,z2,z3,rfl⟩,hw⟩
    rw [h4] at hsk
    have hset:(jS s.seen).set k (.bool true)=jS (s.seen.set k true):=by simp [jS,List.map_set]
    have hcount:=count_set hsk
    have w1:i64.wrap ((s.iD:Int)+1)=((s.iD+1:Nat):Int):=by rw [i64w (by omega)];omega
    rw [hset,w1]
    refine ⟨_,_,_,_,_,_,_,_,_,_,rfl,fun h5 sQ fB=>(fa _).mono ?_,fun h5 ub hU bk1 bk2 g1 g2 g3 g4 g5=>?_⟩
    ·rintro r V2 l2 ⟨p,rfl,hp⟩
     have h5:okL l[k].ln=false:=by simpa using h5
     have e:cR l (f+1) (k:Int) s=(.leaf false,⟨s.seen.set k true,s.iD+1,true⟩):=by
      simp only [cR,n0,n1,n2,if_false,Int.toNat_natCast]
      rw [hsk,hlk]
      simp [h5]
     exact ⟨p,rfl,fun V3 l3 g1 g2=>⟨p,rfl,by rw [e];exact hp.le l3,by rw [e];exact g1,by rw [e];exact g2⟩⟩
    ·have h5:okL l[k].ln=true:=by simpa using h5
     have lv:V.Le ub:=eU.trans (dX.trans hU)
     have lX:∀(U:View)(u v:Nat),U.H u->U.H v->(U.lend [u,v]).X u/\(U.lend [u,v]).X v:=fun U u v hu hv=>⟨⟨by simp,hu⟩,⟨by simp,hv⟩⟩
     have i1:=ih l[k].left ⟨s.seen.set k true,s.iD+1,s.bad⟩ (V:=ub.lend [bk1,bk2]) (hns.le lv) g1 (lX _ _ _ g2 g4).1 g3 (lX _ _ _ g2 g4).2 g5 (by simp [hsl]) (by dsimp only;omega) (by dsimp only;omega)
     have hm:=mL l f l[k].left ⟨s.seen.set k true,s.iD+1,s.bad⟩
     have hcc:=p_ l f l[k].left ⟨s.seen.set k true,s.iD+1,s.bad⟩
     have e:cR l (f+1) (k:Int) s=(.node l[k].ln (cR l f l[k].left ⟨s.seen.set k true,s.iD+1,s.bad⟩).1 (cR l f l[k].right (cR l f l[k].left ⟨s.seen.set k true,s.iD+1,s.bad⟩).2).1,(cR l f l[k].right (cR l f l[k].left ⟨s.seen.set k true,s.iD+1,s.bad⟩).2).2):=by
      simp only [cR,n0,n1,n2,if_false,Int.toNat_natCast]
      rw [hsk,hlk]
      simp [h5]
     rw [e]
     clear e
     dsimp only
     generalize cR l f l[k].left ⟨s.seen.set k true,s.iD+1,s.bad⟩=q1 at *
     obtain ⟨t1,s1⟩:=q1
     dsimp only at i1 hm hcc ⊢
     refine i1.mono ?_
     rintro r xn mF ⟨p,rfl,hp,e1,e2⟩
     refine ⟨p,rfl,_,_,_,_,_,e1,_,e2,fun xo kb Jc bk4 f1 f2 f3 f4 f5=>?_⟩
     have Pk:ub.Le xo:=fun b o h=>kb b o (mF b o h)
     have i2:=ih l[k].right s1 (V:=xo.lend [Jc,bk4]) (hns.le (lv.trans Pk)) f1 (lX _ _ _ f2 f4).1 f3 (lX _ _ _ f2 f4).2 f5 (by rw [hm.2];simp [hsl]) (by omega) (by omega)
     generalize cR l f l[k].right s1=q2 at *
     obtain ⟨t2,s2⟩:=q2
     dsimp only at i2 ⊢
     refine i2.mono ?_
     rintro r Hm F3 ⟨q,rfl,hq,e3,e4⟩
     refine ⟨q,rfl,_,_,_,_,_,e3,_,e4,fun GJ l25=>?_⟩
     have J2:xo.Le Hm:=fun b o h=>F3 b o h
     have H7:Hm.Le GJ:=fun b o h=>l25 b o h
     have lw:pS.Le GJ:=hU.trans (Pk.trans (J2.trans H7))
     have MR:xn.Le xo:=fun b o h=>kb b o h
     refine (Cl ((hw h5).le lw) (hp.le (MR.trans (J2.trans H7))) (hq.le H7)).mono ?_
     rintro r Ld l26 ⟨u,rfl,hu⟩
     exact ⟨u,rfl,fun Lf l27 g1 g2=>⟨u,rfl,hu.le l27,g1,g2⟩⟩
theorem DL {V:View}{l:List Nd}(hb:∀x∈l,Bd x.ln){p:OA}{n c:Nat}(root:Int)(h:NS V p n c l) :
  Acts prog 93 #[.agg #[.int .i64 root,.slice p n c]] V fun r V'=>(ofT l root=none->∃q,r=.tuple #[.pointer q,.bool false])/\(∀t,ofT l root=some t->∃q,r=.tuple #[.pointer q,.bool true]/\RT V' q t):=by
 have hl:=h.len
 subst hl
 refine C_ root p l.length c V _ ⟨fun h0 V1 l1=>?_,fun h0=>⟨by omega,Int.le_refl _,?_,fun V2 l2 bk1 bk2 g1 g2 g3 g4 g5=>?_⟩⟩
 ·have h0:65536<l.length:=by simp at h0;omega
  have e:ofT l root=none:=by unfold ofT;rw [if_pos h0]
  exact ⟨fun _=>⟨_,rfl⟩,fun t ht=>by rw [e] at ht;cases ht⟩
 ·have h0:¬65536<l.length:=by simp at h0;omega
  omega
 ·have h0:¬65536<l.length:=by simp at h0;omega
  simp only [Int.toNat_natCast] at g1 g3 ⊢
  have hr:List.replicate l.length (Value.bool false)=jS (List.replicate l.length false):=by simp [jS]
  rw [hr] at g3
  have hc0:(List.replicate l.length false).count false=l.length:=by simp
  refine (Ab hb (by omega) (l.length+1) root ⟨List.replicate l.length false,0,false⟩ (V:=V2.lend [bk1,bk2]) (h.le l2) g1 ⟨by simp,g2⟩ g3 ⟨by simp,g4⟩ g5 (by simp) (by dsimp only;omega) (by dsimp only;omega)).mono ?_
  rintro r V3 l3 ⟨q,rfl,hq,e1,e2⟩
  have hof:ofT l root=if (cR l (l.length+1) root ⟨List.replicate l.length false,0,false⟩).2.bad=true\/(cR l (l.length+1) root ⟨List.replicate l.length false,0,false⟩).2.iD≠l.length then none else some (cR l (l.length+1) root ⟨List.replicate l.length false,0,false⟩).1:=by
   unfold ofT;rw [if_neg h0]
  rw [hof]
  clear hof
  generalize cR l (l.length+1) root ⟨List.replicate l.length false,0,false⟩=r0 at *
  obtain ⟨t,s⟩:=r0
  refine ⟨q,rfl,_,_,_,_,_,e1,_,e2,fun h1 V4 l4=>?_,fun h1=>⟨fun h2 V5 l5=>?_,fun h2 V6 l6=>?_⟩⟩
  ·rw [if_pos (.inl h1)]
   exact ⟨fun _=>⟨_,rfl⟩,fun t ht=>by cases ht⟩
  ·have h2:s.iD≠l.length:=by simp at h2;omega
   rw [if_pos (.inr h2)]
   exact ⟨fun _=>⟨_,rfl⟩,fun t ht=>by cases ht⟩
  ·have h2:s.iD=l.length:=by simp at h2;omega
   dsimp only at h1 ⊢
   rw [if_neg (by rw [h1,h2];simp)]
   exact ⟨fun e=>(by cases e),fun t1 ht=>by cases ht;exact ⟨q,rfl,RT.le (V:=V3) (V':=V6) (fun b o h=>l6 b o h) hq⟩⟩
theorem Acts.Kb {f:FuncId}{args:Array Value}{V:View}{R R':Value->View->Prop}(h:Acts prog f args V R)(hR:∀r V',V.Le V'->(∀b,V'.H b->V.H b)->R r V'->R' r V'):Acts prog f args V R':=
 ⟨h.1,h.2.mono fun _ w' ⟨r,he,hx,hr⟩=>⟨r,he,hx,hR r _ (V.Ha w' hx) (fun _ hb=>hb) hr⟩⟩
theorem vb_ne {vs:List Value}{n b:Nat}(h:vs≠[]):vb vs n b=b:=by cases vs with|nil=>exact absurd rfl h|cons v r=>rfl
theorem NR.push {V:View}{vs sp:List Value}{l:List Nd}(h:NR V vs l)(hl:l.length*8<=vs.length){ln:L3}{x y:Int}{b1:Bool}{p1:OA}{n1 c1:Nat}{b2:Bool}{p2:OA}{n2 c2:Nat}{b3:Bool}{p3:OA}{n3 c3:Nat}
  (hL:RL V (.agg #[.bool b1,.slice p1 n1 c1,.bool b2,.slice p2 n2 c2,.bool b3,.slice p3 n3 c3]) ln.1 ln.2.1 ln.2.2) :
  NR V (vs.take (l.length*8)++[.bool b1,.slice p1 n1 c1,.bool b2,.slice p2 n2 c2,.bool b3,.slice p3 n3 c3,.int .i64 x,.int .i64 y]++sp) (l++[⟨ln,x,y⟩]):=by
 intro i d hd
 rcases Nat.lt_or_ge i l.length with hi|hi
 ·rw [List.getElem?_append_left hi] at hd
  obtain ⟨b1',M4,n1',c1',b2',RG,Rw,c2',b3',RK,Rx,c3',h1,h2⟩:=h i d hd
  refine ⟨b1',M4,n1',c1',b2',RG,Rw,c2',b3',RK,Rx,c3',fun j v hv=>?_,h2⟩
  have hj:j<8:=by
   rcases Nat.lt_or_ge j 8 with hj|hj
   ·exact hj
   ·rw [List.getElem?_eq_none (by simpa using hj)] at hv;cases hv
  have:=h1 j v hv
  rw [List.append_assoc,List.getElem?_append_left (by rw [List.length_take];omega),List.getElem?_take,if_pos (by omega)]
  exact this
 ·rw [List.getElem?_append_right hi] at hd
  have hi':i=l.length:=by
   rcases Nat.lt_or_ge (i-l.length) 1 with h'|h'
   ·omega
   ·rw [List.getElem?_eq_none (by simpa using h')] at hd;cases hd
  subst hi'
  simp only [Nat.sub_self,List.getElem?_cons_zero,Option.some.injEq] at hd
  subst hd
  refine ⟨b1,p1,n1,c1,b2,p2,n2,c2,b3,p3,n3,c3,fun j v hv=>?_,.inl hL⟩
  have hj:j<8:=by
   rcases Nat.lt_or_ge j 8 with hj|hj
   ·exact hj
   ·rw [List.getElem?_eq_none (by simpa using hj)] at hv;cases hv
  rw [List.append_assoc,List.getElem?_append_right (by rw [List.length_take];omega),List.length_take,Nat.min_eq_left hl,Nat.add_sub_cancel_left,List.getElem?_append_left (by simpa using hj)]
  exact hv
theorem NR.NA {V:View}{vs:List Value}{l:List Nd}(h:NR V vs l){k:Nat}{d:Nd}(hd:l[k]?=some d){x:Int}:NR V (vs.set (k*8+6) (.int .i64 x)) (l.set k ⟨d.ln,x,d.right⟩):=by
 intro i d' hd'
 rw [List.getElem?_set] at hd'
 split at hd'
 ·rename_i e
  subst e
  split at hd'
  ·cases hd'
   obtain ⟨b1,p1,n1,c1,b2,p2,n2,c2,b3,p3,n3,c3,h1,h2⟩:=h k d hd
   refine ⟨b1,p1,n1,c1,b2,p2,n2,c2,b3,p3,n3,c3,fun j v hv=>?_,h2⟩
   rw [List.getElem?_set]
   by_cases hj:j=6
   ·subst hj
    have:=h1 6 _ rfl
    have hlt:k*8+6<vs.length:=by
     rcases Nat.lt_or_ge (k*8+6) vs.length with h|h
     ·exact h
     ·rw [List.getElem?_eq_none h] at this;cases this
    rw [if_pos rfl,if_pos hlt]
    exact hv
   ·rw [if_neg (by omega)]
    refine h1 j v ?_
    match j,hj,hv with
    | 0,_,hv=>exact hv
    | 1,_,hv=>exact hv
    | 2,_,hv=>exact hv
    | 3,_,hv=>exact hv
    | 4,_,hv=>exact hv
    | 5,_,hv=>exact hv
    | 6,hj,_=>exact absurd rfl hj
    | 7,_,hv=>exact hv
    | n+8,_,hv=>exact hv
  ·cases hd'
 ·rename_i e
  obtain ⟨b1,p1,n1,c1,b2,p2,n2,c2,b3,p3,n3,c3,h1,h2⟩:=h i d' hd'
  refine ⟨b1,p1,n1,c1,b2,p2,n2,c2,b3,p3,n3,c3,fun j v hv=>?_,h2⟩
  have hj:j<8:=by
   rcases Nat.lt_or_ge j 8 with hj|hj
   ·exact hj
   ·rw [List.getElem?_eq_none (by simpa using hj)] at hv;cases hv
  rw [List.getElem?_set_ne (by omega)]
  exact h1 j v hv
theorem NR.NB {V:View}{vs:List Value}{l:List Nd}(h:NR V vs l){k:Nat}{d:Nd}(hd:l[k]?=some d){x:Int}:NR V (vs.set (k*8+7) (.int .i64 x)) (l.set k ⟨d.ln,d.left,x⟩):=by
 intro i d' hd'
 rw [List.getElem?_set] at hd'
 split at hd'
 ·rename_i e
  subst e
  split at hd'
  ·cases hd'
   obtain ⟨b1,p1,n1,c1,b2,p2,n2,c2,b3,p3,n3,c3,h1,h2⟩:=h k d hd
   refine ⟨b1,p1,n1,c1,b2,p2,n2,c2,b3,p3,n3,c3,fun j v hv=>?_,h2⟩
   rw [List.getElem?_set]
   by_cases hj:j=7
   ·subst hj
    have:=h1 7 _ rfl
    have hlt:k*8+7<vs.length:=by
     rcases Nat.lt_or_ge (k*8+7) vs.length with h|h
     ·exact h
     ·rw [List.getElem?_eq_none h] at this;cases this
    rw [if_pos rfl,if_pos hlt]
    exact hv
   ·rw [if_neg (by omega)]
    refine h1 j v ?_
    match j,hj,hv with
    | 0,_,hv=>exact hv
    | 1,_,hv=>exact hv
    | 2,_,hv=>exact hv
    | 3,_,hv=>exact hv
    | 4,_,hv=>exact hv
    | 5,_,hv=>exact hv
    | 6,_,hv=>exact hv
    | 7,hj,_=>exact absurd rfl hj
    | n+8,_,hv=>exact hv
  ·cases hd'
 ·rename_i e
  obtain ⟨b1,p1,n1,c1,b2,p2,n2,c2,b3,p3,n3,c3,h1,h2⟩:=h i d' hd'
  refine ⟨b1,p1,n1,c1,b2,p2,n2,c2,b3,p3,n3,c3,fun j v hv=>?_,h2⟩
  have hj:j<8:=by
   rcases Nat.lt_or_ge j 8 with hj|hj
   ·exact hj
   ·rw [List.getElem?_eq_none (by simpa using hj)] at hv;cases hv
  rw [List.getElem?_set_ne (by omega)]
  exact h1 j v hv
theorem NR.kids {V:View}{vs:List Value}{l r:List Nd}{ln:L3}{u v x y:Int}(h:NR V vs (l++⟨ln,u,v⟩::r)):NR V ((vs.set (l.length*8+6) (.int .i64 x)).set (l.length*8+7) (.int .i64 y)) (l++⟨ln,x,y⟩::r):=by
 have e1:(l++(⟨ln,u,v⟩:Nd)::r)[l.length]?=some ⟨ln,u,v⟩:=by simp
 have h1:=h.NA e1 (x:=x)
 have e2:(l++(⟨ln,u,v⟩:Nd)::r).set l.length ⟨ln,x,v⟩=l++⟨ln,x,v⟩::r:=by simp
 rw [e2] at h1
 have e3:(l++(⟨ln,x,v⟩:Nd)::r)[l.length]?=some ⟨ln,x,v⟩:=by simp
 have h2:=h1.NB e3 (x:=y)
 have e4:(l++(⟨ln,x,v⟩:Nd)::r).set l.length ⟨ln,x,y⟩=l++⟨ln,x,y⟩::r:=by simp
 rw [e4] at h2
 exact h2
theorem NR.take {V:View}{vs:List Value}{l:List Nd}(h:NR V vs l):NR V (vs.take (l.length*8)) l:=by
 intro i d hd
 obtain ⟨b1,p1,n1,c1,b2,p2,n2,c2,b3,p3,n3,c3,h1,h2⟩:=h i d hd
 refine ⟨b1,p1,n1,c1,b2,p2,n2,c2,b3,p3,n3,c3,fun j v hv=>?_,h2⟩
 have hj:j<8:=by
  rcases Nat.lt_or_ge j 8 with hj|hj
  ·exact hj
  ·rw [List.getElem?_eq_none (by simpa using hj)] at hv;cases hv
 have hi:i<l.length:=by
  rcases Nat.lt_or_ge i l.length with h|h
  ·exact h
  ·rw [List.getElem?_eq_none h] at hd;cases hd
 rw [List.getElem?_take,if_pos (by omega)]
 exact h1 j v hv
theorem NS.ofRow {V:View}{b c:Nat}{vm:List Value}{l:List Nd}{ty:TypeId}(hb:vm≠[]->V.a_ b (.cells vm.toArray ty (0,0)))(hc:l.length<=c)(hr:NR V vm l):NS V (mA b c) l.length c l:=by
 refine ⟨rfl,hc,⟨_,?_,hr.take⟩,?_⟩
 ·intro i v hv
  rw [List.getElem?_take] at hv
  split at hv
  ·rename_i hi
   have hne:vm≠[]:=fun e=>by rw [e] at hv;simp at hv
   refine ⟨⟨b,0,none⟩,by unfold mA;rw [if_neg (by omega)],?_⟩
   rw [add_zero']
   exact blk_at (hb hne) hv
  ·cases hv
 ·intro e
  unfold mA at e
  split at e
  ·assumption
  ·cases e
def LM (V:View)(vs:List Value)(ts:List Tr):Prop:=∀(i:Nat)(t:Tr),ts[i]?=some t->∃p,vs[i]?=some (.pointer p)/\RT V p t
theorem LM.le {V V':View}{vs:List Value}{ts:List Tr}(h:LM V vs ts)(l:V.Le V'):LM V' vs ts:=fun i t ht=>by
 obtain ⟨p,h1,h2⟩:=h i t ht
 exact ⟨p,h1,h2.le l⟩
def AT (V:View)(v:Value)(root:Int)(l:List Nd):Prop:=∃q n c,v=.agg #[.int .i64 root,.slice q n c]/\NS V q n c l
theorem AT.le {V V':View}{v:Value}{root:Int}{l:List Nd}(h:AT V v root l)(hl:V.Le V'):AT V' v root l:=by
 obtain ⟨q,n,c,e,h⟩:=h;exact ⟨q,n,c,e,h.le hl⟩
theorem AT.zero {V:View}:AT V (.agg #[.int .i64 0,.slice none 0 0]) 0 []:=⟨_,_,_,rfl,NS.nil⟩
theorem c_bsp_Of' {V:View}{l:List Nd}(hb:∀x∈l,Bd x.ln){v:Value}{root:Int}(h:AT V v root l) :
  Acts prog 93 #[v] V fun r V'=>∃q,r=.tuple #[.pointer q,.bool (ofT l root).isSome]/\∀t,ofT l root=some t->RT V' q t:=by
 obtain ⟨p,n,c,rfl,h⟩:=h
 refine (DL hb root h).mono ?_
 rintro r V' _ ⟨h1,h2⟩
 cases e:ofT l root with
 | none=>obtain ⟨q,rfl⟩:=h1 e;exact ⟨q,rfl,fun t ht=>by cases ht⟩
 | some t=>obtain ⟨q,rfl,hq⟩:=h2 t e;exact ⟨q,rfl,fun t' ht=>by cases ht;exact hq⟩
theorem RQ.ofNat {V:View}{p:OA}{n c x:Nat}(h:RN V p n c x){b:Bool}(hb:b=decide ((x:Int)<0)):RQ V (.agg #[.bool b,.slice p n c,.slice none 0 0]) ((x:Int):Rat):=
 mR (z:=(x:Int)) (d:=1) rfl rfl h RD.nil hb
theorem RQ.int {V:View}{q:Rat}{b:Bool}{p:OA}{n c:Nat}{p':OA}{n' c':Nat}(h:RQ V (.agg #[.bool b,.slice p n c,.slice p' n' c']) q):RI V (.agg #[.bool b,.slice p n c]) q.num:=by
 obtain ⟨p1,n1,c1,p2,n2,c2,e,h1,h2⟩:=h
 cases e
 exact ⟨_,_,_,rfl,h1⟩
theorem RQ.den {V:View}{q:Rat}{b:Bool}{p:OA}{n c:Nat}{p':OA}{n' c':Nat}(h:RQ V (.agg #[.bool b,.slice p n c,.slice p' n' c']) q):RD V p' n' c' (po q.den):=by
 obtain ⟨p1,n1,c1,p2,n2,c2,e,h1,h2⟩:=h
 cases e
 exact h2
def wL (px py qx qy:Rat):Rat×Rat×Rat:=
 let a:=-(qy-py);let b:=qx-px;let c:=-(a*px+b*py)
 let f:Rat:=(((a.den*b.den*c.den:Nat):Int):Rat)
 (a*f,b*f,c*f)
theorem Ix {n k:Nat}(h:n<2^k)(hk:0<k):Sz k (((n:Nat):Int):Rat):=by
 refine ⟨?_,?_⟩
 ·show ((n:Nat):Int).natAbs<_
  simpa using h
 ·show 1<2^k
  exact Nat.one_lt_two_pow (by omega)
theorem pk {V:View}{u w:Value}{px py qx qy:Rat}(hp:RP V u px py)(hq:RP V w qx qy){k:Nat}(s1:Sz k px)(s2:Sz k py)(s3:Sz k qx)(s4:Sz k qy)(hk1:1<=k)(hk:64*k+64<274877906944) :
  Acts prog 28 #[u,w] V fun r V'=>((wL px py qx qy).1.num=0/\(wL px py qx qy).2.1.num=0->∃l,r=.tuple #[l,.bool false]/\RL V' l 0 0 0) /\
   (¬((wL px py qx qy).1.num=0/\(wL px py qx qy).2.1.num=0)->∃l,r=.tuple #[l,.bool true] /\
    RL V' l ((wL px py qx qy).1.num / (gC (wL px py qx qy).1.num (wL px py qx qy).2.1.num (wL px py qx qy).2.2.num:Int)) ((wL px py qx qy).2.1.num / (gC (wL px py qx qy).1.num (wL px py qx qy).2.1.num (wL px py qx qy).2.2.num:Int)) ((wL px py qx qy).2.2.num / (gC (wL px py qx qy).1.num (wL px py qx qy).2.1.num (wL px py qx qy).2.2.num:Int))):=by
 have hp0:=hp
 have hq0:=hq
 obtain ⟨p1,n1,c1,p2,n2,c2,p3,n3,c3,p4,n4,c4,rfl,hp1,hp2⟩:=hp
 obtain ⟨q1,m1,e1,q2,m2,e2,q3,m3,e3,q4,m4,e4,rfl,-,-⟩:=hq
 refine ow _ p1 n1 c1 p2 n2 c2 _ p3 n3 c3 p4 n4 c4 _ q1 m1 e1 q2 m2 e2 _ q3 m3 e3 q4 m4 e4 V _ fun V1 l1=>(xN (hq0.le l1) (hp0.le l1) s3 s4 s1 s2 hk1 (by omega)).mono ?_
 rintro r V2 l2 ⟨a1,a2,a3,a4,a5,a6,a7,a8,a9,SG,SH,a12,rfl,hb,hd⟩
 have tb:Sz (k+k+1) (qx-px):=s3.sub s1
 have td:Sz (k+k+1) (qy-py):=s4.sub s2
 have l02:=l1.trans l2
 refine ⟨_,_,_,_,_,_,_,_,_,_,_,_,_,_,rfl,fun V3 l3=>(nH (qy-py) (by obtain ⟨_,_,_,_,_,_,e,h1,h2⟩:=hd.le l3;cases e;exact h1) (RQ.den (hd.le l3))).mono ?_⟩
 rintro r V4 l4 ha
 obtain ⟨b1,b2,b3,b4,b5,b6,rfl⟩:=ha.shape
 have ta:=td.neg
 have MC:wL px py qx qy=(-(qy-py)*(((((-(qy-py)).den*(qx-px).den*(-(-(qy-py)*px+(qx-px)*py)).den:Nat):Int):Rat)),(qx-px)*(((((-(qy-py)).den*(qx-px).den*(-(-(qy-py)*px+(qx-px)*py)).den:Nat):Int):Rat)),(-(-(qy-py)*px+(qx-px)*py))*(((((-(qy-py)).den*(qx-px).den*(-(-(qy-py)*px+(qx-px)*py)).den:Nat):Int):Rat))):=rfl
 rw [MC]
 generalize -(qy-py)=A at *
 generalize qx-px=B at *
 replace hb:=hb.le (l3.trans l4)
 replace hp1:=hp1.le (l02.trans (l3.trans l4))
 replace hp2:=hp2.le (l02.trans (l3.trans l4))
 refine ⟨_,_,_,_,_,_,_,rfl,fun V5 l5=>(cV (ha.le l5) (hp1.le l5) ta s1 (by omega)).mono ?_⟩
 rintro r V6 l6 g6
 obtain ⟨d1,d2,d3,d4,d5,d6,rfl⟩:=g6.shape
 refine ⟨_,_,_,_,_,_,_,rfl,fun V7 l7=>(cV (hb.le (l5.trans (l6.trans l7))) (hp2.le (l5.trans (l6.trans l7))) tb s2 (by omega)).mono ?_⟩
 rintro r V8 l8 g8
 obtain ⟨f1,f2,f3,f4,f5,f6,rfl⟩:=g8.shape
 refine ⟨_,_,_,_,_,_,_,rfl,fun V9 l9=>(jq (g6.le (l7.trans (l8.trans l9))) (g8.le l9) (ta.mul s1) (tb.mul s2) (by omega)).mono ?_⟩
 rintro r V10 l10 g10
 have tc:=((ta.mul s1).add (tb.mul s2)).neg
 obtain ⟨i1,i2,i3,i4,i5,i6,rfl⟩:=g10.shape
 refine ⟨_,_,_,_,_,_,_,rfl,fun V11 l11=>(nH (A*px+B*py) (by obtain ⟨_,_,_,_,_,_,e,h1,h2⟩:=g10.le l11;cases e;exact h1) (RQ.den (g10.le l11))).mono ?_⟩
 rintro r V12 l12 hc
 generalize -(A*px+B*py)=C at *
 obtain ⟨j1,j2,j3,j4,j5,j6,rfl⟩:=hc.shape
 have F0:=l5.trans (l6.trans (l7.trans (l8.trans (l9.trans (l10.trans (l11.trans l12))))))
 replace ha:=ha.le F0
 replace hb:=hb.le F0
 refine ⟨_,_,_,_,_,_,_,rfl,fun V13 l13=>(dj A _ (RQ.den (ha.le l13))).mono ?_⟩
 rintro r V14 eY ⟨k1,k2,k3,rfl,g14⟩
 refine ⟨_,_,_,rfl,fun V15 eZ=>(dj B _ (RQ.den (hb.le (l13.trans (eY.trans eZ))))).mono ?_⟩
 rintro r me eU ⟨k4,k5,k6,rfl,g16⟩
 obtain ⟨-,da,-⟩:=bQ ta
 obtain ⟨-,db,-⟩:=bQ tb
 obtain ⟨-,dc,-⟩:=bQ tc
 refine ⟨_,_,_,rfl,fun pS dX=>(cj (g14.le (eZ.trans (eU.trans dX))) (g16.le dX) (by omega)).mono ?_⟩
 rintro r sQ fB ⟨k7,k8,k9,rfl,g18⟩
 rw [ab,ab] at g18
 refine ⟨_,_,_,rfl,fun ua fH=>(dj C _ (RQ.den (hc.le (l13.trans (eY.trans (eZ.trans (eU.trans (dX.trans (fB.trans fH))))))))).mono ?_⟩
 rintro r Dc lG ⟨k10,k11,k12,rfl,g20⟩
 have SJ:=fQ (a:=A.den) (b:=B.den)
 refine ⟨_,_,_,rfl,fun ub hU=>(cj (g18.le (fH.trans (lG.trans hU))) (g20.le hU) (by omega)).mono ?_⟩
 rintro r xn mF ⟨k13,k14,k15,rfl,g22⟩
 rw [ab,ab] at g22
 have tf:Sz (k+k+1+(k+k+1)+(k+k+1+k+1+(k+k+1+k+1)+1)) (((A.den*B.den*C.den:Nat):Int):Rat):=Ix (bL (bL ta.2 tb.2) tc.2) (by omega)
 generalize A.den*B.den*C.den=M at *
 refine ⟨_,_,_,rfl,fun xo kb=>(nI (g22.le kb)).mono ?_⟩
 rintro r Hm F3 ⟨k16,k17,k18,rfl,g24⟩
 have hf:=RQ.ofNat g24 rfl
 have H6:=l13.trans (eY.trans (eZ.trans (eU.trans (dX.trans (fB.trans (fH.trans (lG.trans (hU.trans (mF.trans (kb.trans F3))))))))))
 refine ⟨_,_,_,_,rfl,fun GJ l25=>(cV (ha.le (H6.trans l25)) (hf.le l25) ta tf (by omega)).mono ?_⟩
 rintro r Ld l26 OO
 obtain ⟨o1,o2,o3,o4,o5,o6,rfl⟩:=OO.shape
 refine ⟨_,_,_,_,_,_,_,rfl,fun Lf l27=>(cV (hb.le (H6.trans (l25.trans (l26.trans l27)))) (hf.le (l25.trans (l26.trans l27))) tb tf (by omega)).mono ?_⟩
 rintro r Lg H8 OP
 obtain ⟨o7,o8,o9,SU,SW,SX,rfl⟩:=OP.shape
 refine ⟨_,_,_,_,_,_,_,rfl,fun N3 IQ=>(cV (hc.le (H6.trans (l25.trans (l26.trans (l27.trans (H8.trans IQ)))))) (hf.le (l25.trans (l26.trans (l27.trans (H8.trans IQ))))) tc tf (by omega)).mono ?_⟩
 rintro r Lh Di xg
 obtain ⟨t1,t2,t3,t4,t5,t6,rfl⟩:=xg.shape
 refine ⟨_,_,_,_,_,_,_,rfl,fun SD MS=>(tj (RQ.int (OO.le (l27.trans (H8.trans (IQ.trans (Di.trans MS)))))) (RQ.int (OP.le (IQ.trans (Di.trans MS)))) (RQ.int (xg.le MS)) (Nat.le_trans (bQ (ta.mul tf)).1 (by omega)) (Nat.le_trans (bQ (tb.mul tf)).1 (by omega)) (Nat.le_trans (bQ (tc.mul tf)).1 (by omega))).mono ?_⟩
 rintro r SE SR ⟨z1,z2⟩
 by_cases hz:(A*((M:Int):Rat)).num=0/\(B*((M:Int):Rat)).num=0
 ·obtain ⟨l,rfl,y1,y2,y3,y4,y5,y6,y7,y8,y9,rfl,w1,w2,w3⟩:=z1 hz
  exact ⟨_,_,_,_,_,_,_,_,_,_,_,_,_,rfl,fun PH H9=>⟨fun _=>⟨_,rfl,_,_,_,_,_,_,_,_,_,rfl,w1.le H9,w2.le H9,w3.le H9⟩,fun h=>absurd hz h⟩⟩
 ·obtain ⟨l,rfl,y1,y2,y3,y4,y5,y6,y7,y8,y9,rfl,w1,w2,w3⟩:=z2 hz
  exact ⟨_,_,_,_,_,_,_,_,_,_,_,_,_,rfl,fun PH H9=>⟨fun h=>absurd h hz,fun _=>⟨_,rfl,_,_,_,_,_,_,_,_,_,rfl,w1.le H9,w2.le H9,w3.le H9⟩⟩⟩
theorem Gx (x y u w:Int):wL (x:Rat) (y:Rat) ((x:Rat)+((1:Int):Rat)*(u:Rat)) ((y:Rat)+((1:Int):Rat)*(w:Rat))=(((-w:Int):Rat),((u:Int):Rat),((w*x-u*y:Int):Rat)):=by
 have e1:(x:Rat)+((1:Int):Rat)*(u:Rat)=((x+u:Int):Rat):=by rw [←Rat.intCast_mul,←Rat.intCast_add,Int.one_mul]
 have e2:(y:Rat)+((1:Int):Rat)*(w:Rat)=((y+w:Int):Rat):=by rw [←Rat.intCast_mul,←Rat.intCast_add,Int.one_mul]
 rw [e1,e2]
 have ha:-(((y+w:Int):Rat)-(y:Rat))=((-w:Int):Rat):=by rw [←Rat.intCast_sub,←Rat.intCast_neg];congr 1;omega
 have hb:((x+u:Int):Rat)-(x:Rat)=((u:Int):Rat):=by rw [←Rat.intCast_sub];congr 1;omega
 have hc:-(((-w:Int):Rat)*(x:Rat)+((u:Int):Rat)*(y:Rat))=((w*x-u*y:Int):Rat):=by
  rw [←Rat.intCast_mul,←Rat.intCast_mul,←Rat.intCast_add,←Rat.intCast_neg];congr 1;rw [Int.neg_mul];omega
 have hf:(((((-w:Int):Rat).den*((u:Int):Rat).den*((w*x-u*y:Int):Rat).den:Nat):Int):Rat)=1:=rfl
 unfold wL
 dsimp only
 rw [ha,hb,hc,hf,Rat.mul_one,Rat.mul_one,Rat.mul_one]
def AB (a b c:Int):L3:=(a / (gC a b c:Int),b / (gC a b c:Int),c / (gC a b c:Int))
def small (z:Int)(k:Nat):Bool:=decide (z.natAbs<=k)
theorem Eh:∀i:Fin 9,∀j:Fin 9,∀k:Fin 65,(i.1=4/\j.1=4)\/(okL (AB ((i.1:Int)-4) ((j.1:Int)-4) ((k.1:Int)-32))&&small (AB ((i.1:Int)-4) ((j.1:Int)-4) ((k.1:Int)-32)).1 32&&small (AB ((i.1:Int)-4) ((j.1:Int)-4) ((k.1:Int)-32)).2.1 32&&small (AB ((i.1:Int)-4) ((j.1:Int)-4) ((k.1:Int)-32)).2.2 32)=true:=by decide +kernel
theorem Hu (k:Nat)(hk:6<=k){z:Int}(h:z.natAbs<=32):z.natAbs<2^k:=Nat.lt_of_le_of_lt h (Nat.lt_of_lt_of_le (by decide:32<2^6) (Nat.pow_le_pow_right (by decide) hk))
theorem Jb (k:Nat)(hk:6<=k){x:L3}(h1:x.1.natAbs<=32)(h2:x.2.1.natAbs<=32)(h3:x.2.2.natAbs<=32):x.1.natAbs<2^k/\x.2.1.natAbs<2^k/\x.2.2.natAbs<2^k:=⟨Hu k hk h1,Hu k hk h2,Hu k hk h3⟩
theorem F7 {a b c:Int}(h1:-4<=a/\a<=4)(h2:-4<=b/\b<=4)(h3:-32<=c/\c<=32)(h:¬(a=0/\b=0)):okL (AB a b c)=true/\Bd (AB a b c):=by
 have:=Eh ⟨(a+4).toNat,by omega⟩ ⟨(b+4).toNat,by omega⟩ ⟨(c+32).toNat,by omega⟩
 dsimp only at this
 rw [show (((a+4).toNat:Nat):Int)-4=a from by omega,show (((b+4).toNat:Nat):Int)-4=b from by omega,show (((c+32).toNat:Nat):Int)-32=c from by omega] at this
 rcases this with h'|h'
 ·omega
 ·simp only [Bool.and_eq_true,small,decide_eq_true_eq] at h'
  exact ⟨h'.1.1.1,Jb 1000 (by decide) h'.1.1.2 h'.1.2 h'.2⟩
theorem En {x y:Int}(h1:-4<=x/\x<=4)(h2:-4<=y/\y<=4):-16<=x*y/\x*y<=16:=by
 have:(x*y).natAbs<=4*4:=by rw [Int.natAbs_mul];exact Nat.mul_le_mul (by omega) (by omega)
 omega
end Go.Proofs.Tryz
