import Derived.Test.YtapnijmlbakblaaGreatDoorS12
import Derived.Test.YtapnijmlbakblaaGreatDoorS11
import Derived.Test.YtapnijmlbakblaaGreatDoorS8
set_option linter.unusedVariables false
open Go.IntKind (i64 u64 u32)
namespace Go.Big
def cmpQ (x y:Rat):Int:=(x-y).num.sign
def cQ (x y:Rat):Rat:=mkRat (Nat.gcd (x.num.natAbs*y.den) (y.num.natAbs*x.den):Nat) (x.den*y.den)
theorem C8 {q:Rat}:q.num<0↔q<0:=by
 have:=@Rat.num_nonneg q;rw [←Rat.not_le,←this];omega
theorem C9 {q:Rat}:0<q.num↔0<q:=by
 have b:=@Rat.num_nonneg q;have c:=@Rat.num_eq_zero q;rw [Rat.lt_iff_le_and_ne,←b];constructor
 ·intro h;exact ⟨by omega,fun e=>by rw [←e] at h;simp at h⟩
 ·rintro ⟨h,a⟩;have:q.num≠0:=fun e=>a (c.1 e).symm;omega
theorem Gl {x y:Rat}:x<y↔cmpQ x y=-1:=by
 unfold cmpQ;rw [Int.sign_eq_neg_one_iff_neg,C8,Rat.lt_iff_sub_pos x y,←Rat.neg_sub y x];constructor
 ·intro h;have:=Rat.neg_lt_neg h;simpa using this
 ·intro h;have:=Rat.neg_lt_neg h;rw [Rat.neg_neg] at this;simpa using this
theorem Gk {x y:Rat}:y<x↔cmpQ x y=1:=by
 unfold cmpQ;rw [Int.sign_eq_one_iff_pos,C9,Rat.lt_iff_sub_pos y x]
theorem dX {x y:Rat}:x=y↔cmpQ x y=0:=by
 unfold cmpQ;rw [Int.sign_eq_zero_iff_zero,Rat.num_eq_zero];constructor
 ·intro h;subst h;exact Rat.sub_self
 ·intro h;have:=congrArg (·+ y) h;simpa [Rat.sub_add_cancel,Rat.zero_add] using this
end Go.Big
namespace Go.Proofs.Tryz
open Go.Eng Go.Big
theorem AE {V:View}{v w:Value}{x y:Rat}(hx:RR V v x)(hy:RR V w y){k m:Nat}(hk:Sz k x)(hm:Sz m y)(hkm:k+m<1099511627776) :
  ae prog 169 #[v,w] V fun r V'=>RR V' r (x-y):=by
 obtain ⟨h,i,j,rfl⟩:=hx.shape;obtain ⟨l,s1,s2,rfl⟩:=hy.shape;refine yo _ _ _ _ _ _ V _ fun o b=>(gL (hy.le b) hm (by omega)).mono ?_;rintro r V2 f c;obtain ⟨n,d,p,rfl⟩:=c.shape;refine ⟨_,_,_,rfl,fun q e=>(pD (hx.le (b.trans (f.trans e))) (c.le e) hk hm.neg hkm).mono ?_⟩;rintro r s t a;rw [←Rat.sub_eq_add_neg] at a;obtain ⟨n,d,p,rfl⟩:=a.shape;exact ⟨_,_,_,rfl,fun u g=>a.le g⟩
theorem jr {V:View}{v w:Value}{x y:Rat}(hx:RR V v x)(hy:RR V w y){k m:Nat}(hk:Sz k x)(hm:Sz m y)(hkm:k+m<1099511627776) :
  ae prog 111 #[v,w] V fun r V'=>r=.int .i64 (cmpQ x y):=by
 obtain ⟨t,u,z,rfl⟩:=hx.shape;obtain ⟨A,s1,s2,rfl⟩:=hy.shape
 have gen:∀j8:View,V.Le j8->ae prog 169 #[.agg #[.int .i64 t,.int .i64 u,.pointer z],.agg #[.int .i64 A,.int .i64 s1,.pointer s2]] j8 fun B C=>∃Te:Int,∃K3:Int,∃Ka:OA,B=.agg #[.int .i64 Te,.int .i64 K3,.pointer Ka]/\(∀mS:View,C.Le mS->ae prog 160 #[.agg #[.int .i64 Te,.int .i64 K3,.pointer Ka]] mS fun D E=>∃S3:Int,D=.int .i64 S3/\(∀uC:View,E.Le uC->Value.int .i64 S3=.int .i64 (cmpQ x y))):=by
  intro i f;refine (AE (hx.le f) (hy.le f) hk hm hkm).mono ?_;rintro r V2 O q;obtain ⟨n,d,p,rfl⟩:=q.shape;refine ⟨_,_,_,rfl,fun P F=>(pE (q.le F) (hk.sub hm) (by omega)).mono ?_⟩;rintro r Q R rfl;exact ⟨_,rfl,fun _ _=>rfl⟩
 rcases hx with ⟨ex,G⟩|⟨a,b,p,n,c,H,I,J,ex,-,-,-,-,-,G⟩
 ·rcases hy with ⟨g,K⟩|⟨a,b,p,n,c,H,I,J,g,-,-,-,-,-,K⟩
  ·simp only [Value.agg.injEq,Array.mk.injEq,List.cons.injEq,Value.int.injEq,Value.pointer.injEq,true_and,and_true] at ex g;obtain ⟨rfl,rfl,rfl⟩:=ex;obtain ⟨rfl,rfl,rfl⟩:=g
   have j:x.den=y.den->((x<y↔x.num<y.num)/\(y<x↔y.num<x.num)/\(x=y↔x.num=y.num)):=by
    intro e;have s:(0:Int)<y.den:=by have:=y.den_nz;omega
    refine ⟨?_,?_,fun h=>by rw [h],fun h=>Rat.ext h e⟩
    ·rw [Rat.lt_iff,e];exact ⟨fun h=>Int.lt_of_mul_lt_mul_right h (by omega),fun h=>Int.mul_lt_mul_of_pos_right h s⟩
    ·rw [Rat.lt_iff,e];exact ⟨fun h=>Int.lt_of_mul_lt_mul_right h (by omega),fun h=>Int.mul_lt_mul_of_pos_right h s⟩
   refine jW _ _ _ _ _ _ V _ ⟨fun _=>⟨fun _=>⟨fun l=>?_,fun _=>gen⟩,(fun h=>nomatch h)⟩,(fun h=>nomatch h)⟩;have l:x.den=y.den:=by rw [beq_iff_eq] at l;omega
   obtain ⟨L,M,N⟩:=j l;refine ⟨fun h i f=>?_,fun h=>⟨fun o i f=>?_,fun o i f=>?_⟩⟩
   ·rw [Gl.1 (L.2 (by simpa using h))]
   ·rw [Gk.1 (M.2 (by simpa using o))]
   ·rw [dX.1 (N.2 (by rw [decide_eq_false_iff_not] at h o;omega))]
  ·simp only [Value.agg.injEq,Array.mk.injEq,List.cons.injEq,Value.int.injEq,Value.pointer.injEq,true_and,and_true] at ex g;obtain ⟨rfl,rfl,rfl⟩:=ex;obtain ⟨rfl,rfl,rfl⟩:=g;exact jW _ _ _ _ _ _ V _ ⟨fun _=>⟨(fun h=>nomatch h),fun _=>gen⟩,(fun h=>nomatch h)⟩
 ·simp only [Value.agg.injEq,Array.mk.injEq,List.cons.injEq,Value.int.injEq,Value.pointer.injEq,true_and,and_true] at ex;obtain ⟨rfl,rfl,rfl⟩:=ex;exact jW _ _ _ _ _ _ V _ ⟨(fun h=>nomatch h),fun _=>gen⟩
theorem kc {V:View}{v w:Value}{x y:Rat}(hx:RR V v x)(hy:RR V w y){k m:Nat}(hk:Sz k x)(hm:Sz m y)(hkm:k+m<1099511627776) :
  ae prog 90 #[v,w] V fun r V'=>r=.bool (decide (x=y)):=by
 obtain ⟨b,c,d,rfl⟩:=hx.shape;obtain ⟨e,s1,s2,rfl⟩:=hy.shape;refine tK _ _ _ _ _ _ V _ fun f a=>(jr (hx.le a) (hy.le a) hk hm hkm).mono ?_;rintro r V2 g rfl;refine ⟨_,rfl,fun h i=>?_⟩;congr 1;rw [Bool.eq_iff_iff,beq_iff_eq,decide_eq_true_eq,dX]
theorem CG {x y:Rat}{k m:Nat}(hx:Sz k x)(hy:Sz m y):x.num.natAbs*y.den<2^(k+m)/\y.num.natAbs*x.den<2^(k+m)/\Nat.gcd (x.num.natAbs*y.den) (y.num.natAbs*x.den)<2^(k+m)/\x.den*y.den<2^(k+m):=by
 have a:x.num.natAbs*y.den<2^(k+m):=bN hx.1 hy.2;have b:y.num.natAbs*x.den<2^(k+m):=by rw [Nat.add_comm];exact bN hy.1 hx.2
 refine ⟨a,b,?_,bN hx.2 hy.2⟩;rcases Nat.eq_zero_or_pos (x.num.natAbs*y.den) with e|e
 ·rw [e,Nat.gcd_zero_left];exact b
 ·exact Nat.lt_of_le_of_lt (Nat.le_of_dvd e (Nat.gcd_dvd_left _ _)) a
theorem fP {x y:Rat}{k m:Nat}(hx:Sz k x)(hy:Sz m y):Sz (k+m+1) (cQ x y):=by
 obtain ⟨-,-,a,b⟩:=CG hx hy;have c:2^(k+m)<=2^(k+m+1):=Nat.pow_le_pow_right (by omega) (by omega);exact Go.Eng.Sz.mkRat (by rw [Int.natAbs_natCast];omega) (by omega) (by omega)
theorem gy {V:View}{v w:Value}{x y:Rat}(hx:RR V v x)(hy:RR V w y){k m:Nat}(hk:Sz k x)(hm:Sz m y)(hkm:k+m<1099511627776) :
  ae prog 89 #[v,w] V fun r V'=>RR V' r (cQ x y):=by
 obtain ⟨A,B,C,rfl⟩:=hx.shape;obtain ⟨D,s1,s2,rfl⟩:=hy.shape;obtain ⟨b1,b2,b3,b4⟩:=CG hk hm;have q1:=ag hk.1;have q2:=ag hk.2;have q3:=ag hm.1;have q4:=ag hm.2;have q5:=ag b1;have q6:=ag b2;have q7:=ag b3;have q8:=ag b4
 have gen:(∀Xq:View,V.Le Xq->ae prog 151 #[.agg #[.int .i64 A,.int .i64 B,.pointer C]] Xq fun Ws ZF=>∃(Sq:OA)(R6 QF:Nat),Ws=.slice Sq R6 QF/\(∀Xr:View,ZF.Le Xr->ae prog 151 #[.agg #[.int .i64 D,.int .i64 s1,.pointer s2]] Xr fun Wt ZG=>∃(Sr:OA)(R7 QG:Nat),Wt=.slice Sr R7 QG/\(∀Xs:View,ZG.Le Xs->ae prog 150 #[.slice Sq R6 QF,.slice Sr R7 QG] Xs fun Wu ZH=>∃(Kc:OA)(JU IY:Nat),Wu=.slice Kc JU IY/\(∀Xt:View,ZH.Le Xt->ae prog 153 #[.agg #[.int .i64 A,.int .i64 B,.pointer C]] Xt fun Wv ZI=>∃Ug:Bool,∃(Su:OA)(R9 QI:Nat),Wv=.agg #[.bool Ug,.slice Su R9 QI]/\(∀Xu:View,ZI.Le Xu->ae prog 151 #[.agg #[.int .i64 D,.int .i64 s1,.pointer s2]] Xu fun Ww ZJ=>∃(Kd:OA)(JV IZ:Nat),Ww=.slice Kd JV IZ/\(∀Xv:View,ZJ.Le Xv->ae prog 150 #[.slice Su R9 QI,.slice Kd JV IZ] Xv fun Wx ZK=>∃(Sv:OA)(R_ QJ:Nat),Wx=.slice Sv R_ QJ/\(∀Xw:View,ZK.Le Xw->ae prog 153 #[.agg #[.int .i64 D,.int .i64 s1,.pointer s2]] Xw fun Wy ZL=>∃Uh:Bool,∃(Ke:OA)(JW I0:Nat),Wy=.agg #[.bool Uh,.slice Ke JW I0]/\(∀Xx:View,ZL.Le Xx->ae prog 151 #[.agg #[.int .i64 A,.int .i64 B,.pointer C]] Xx fun Wz ZM=>∃(Sx:OA)(Sb QL:Nat),Wz=.slice Sx Sb QL/\(∀Xy:View,ZM.Le Xy->ae prog 150 #[.slice Ke JW I0,.slice Sx Sb QL] Xy fun WA ZN=>∃(Kf:OA)(JX I1:Nat),WA=.slice Kf JX I1/\(∀Xz:View,ZN.Le Xz->ae prog 152 #[.slice Sv R_ QJ,.slice Kf JX I1] Xz fun WB ZO=>∃(Sy:OA)(Sc QM:Nat),WB=.slice Sy Sc QM/\(∀XA:View,ZO.Le XA->ae prog 147 #[.agg #[.bool false,.slice Sy Sc QM],.slice Kc JU IY] XA fun WC ZP=>∃Ta:Int,∃Tb:Int,∃Kg:OA,WC=.agg #[.int .i64 Ta,.int .i64 Tb,.pointer Kg]/\(∀Qs:View,ZP.Le Qs->RR Qs (.agg #[.int .i64 Ta,.int .i64 Tb,.pointer Kg]) (cQ x y))))))))))))):=by
  intro N i;refine (dT (hx.le i) hk (by omega)).mono ?_;rintro r V2 j ⟨p1,n1,c1,rfl,g1⟩;refine ⟨_,_,_,rfl,fun V3 s=>(dT (hy.le (i.trans (j.trans s))) hm (by omega)).mono ?_⟩;rintro r V4 E ⟨p2,n2,c2,rfl,g2⟩;refine ⟨_,_,_,rfl,fun V5 t=>(gE (g1.le (s.trans (E.trans t))) (g2.le t) (by omega)).mono ?_⟩;rintro r V6 O ⟨p3,n3,c3,rfl,P⟩;rw [af,af] at P;have F:=i.trans (j.trans (s.trans (E.trans (t.trans O))));refine ⟨_,_,_,rfl,fun V7 l=>(fj (hx.le (F.trans l)) hk (by omega)).mono ?_⟩;rintro r V8 G ⟨p4,n4,c4,rfl,g4⟩;refine ⟨_,_,_,_,rfl,fun V9 u=>(dT (hy.le (F.trans (l.trans (G.trans u)))) hm (by omega)).mono ?_⟩;rintro r gu f ⟨p5,n5,c5,rfl,g5⟩;refine ⟨_,_,_,rfl,fun fg z=>(gE (g4.le (u.trans (f.trans z))) (g5.le z) (by omega)).mono ?_⟩;rintro r ib Q ⟨p6,n6,c6,rfl,R⟩;rw [af,af] at R;have S:=F.trans (l.trans (G.trans (u.trans (f.trans (z.trans Q)))));refine ⟨_,_,_,rfl,fun lG H=>(fj (hy.le (S.trans H)) hm (by omega)).mono ?_⟩;rintro r j8 T ⟨p7,n7,c7,rfl,g7⟩;refine ⟨_,_,_,_,rfl,fun kK I=>(dT (hx.le (S.trans (H.trans (T.trans I)))) hk (by omega)).mono ?_⟩;rintro r mS U ⟨p8,n8,c8,rfl,g8⟩;refine ⟨_,_,_,rfl,fun pk J=>(gE (g7.le (I.trans (U.trans J))) (g8.le J) (by omega)).mono ?_⟩;rintro r uC d_ ⟨p9,n9,c9,rfl,W⟩;rw [af,af] at W;have X:=H.trans (T.trans (I.trans (U.trans (J.trans d_))));refine ⟨_,_,_,rfl,fun uD K=>(qY (R.le (X.trans K)) (W.le K) (by omega) (by omega)).mono ?_⟩;rintro r Ei jL ⟨Iw,a0,a1,rfl,o⟩;rw [af,af] at o;refine ⟨_,_,_,rfl,fun y_ Y=>(cx false (o.le Y) (P.le (l.trans (G.trans (u.trans (f.trans (z.trans (Q.trans (X.trans (K.trans (jL.trans Y)))))))))) (by omega) (by omega)).mono ?_⟩;rintro r xF m_ g;rw [oJ,af,af] at g;obtain ⟨n,d,p,rfl⟩:=g.shape;exact ⟨_,_,_,rfl,fun En jM=>g.le jM⟩
 rcases hx with ⟨ex,Z⟩|⟨a,b,p,n,c,p',n',c',ex,-,-,-,-,-,Z⟩
 ·rcases hy with ⟨q,wy⟩|⟨a,b,p,n,c,p',n',c',q,-,-,-,-,-,wy⟩
  ·simp only [Value.agg.injEq,Array.mk.injEq,List.cons.injEq,Value.int.injEq,Value.pointer.injEq,true_and,and_true] at ex q;obtain ⟨rfl,rfl,rfl⟩:=ex;obtain ⟨rfl,rfl,rfl⟩:=q;obtain ⟨S1,Ze⟩:=Z;obtain ⟨S2,Zf⟩:=wy;refine mO _ _ _ _ _ _ V _ ⟨fun _=>⟨fun _=>⟨fun L=>⟨fun _ _=>True,⟨fun M N i=>?_,fun _=>⟨(),by and_intros<;>rfl,trivial⟩⟩,fun _ N i _=>⟨by trivial,fun V2 j=>gen V2 (i.trans j)⟩⟩,fun _=>gen⟩,(fun h=>nomatch h)⟩,(fun h=>nomatch h)⟩;have L:x.den=1:=by rw [beq_iff_eq] at L;omega
   have M:y.den=1:=by rw [beq_iff_eq] at M;omega
   refine (iO _ (by omega) (by omega)).mono ?_;rintro r V2 j rfl;refine ⟨_,rfl,fun V3 s=>(iO _ (by omega) (by omega)).mono ?_⟩;rintro r V4 E rfl;refine ⟨_,rfl,fun V5 t=>(uT _ _ (by omega) (by omega)).mono ?_⟩;rintro r V6 O rfl;refine ⟨_,rfl,fun V7 l=>.inl ?_⟩
   have e:cQ x y=((Nat.gcd x.num.natAbs y.num.natAbs:Nat):Int):=by
    unfold cQ;rw [L,M,Nat.mul_one,Nat.mul_one,Nat.mul_one];exact mkRat_one _
   have hl:Nat.gcd x.num.natAbs y.num.natAbs<4611686018427387904:=by
    rcases Nat.eq_zero_or_pos x.num.natAbs with e|e
    ·rw [e,Nat.gcd_zero_left];exact S2
    ·exact Nat.lt_of_le_of_lt (Nat.le_of_dvd e (Nat.gcd_dvd_left _ _)) S1
   rw [e,aw (by omega)];exact ⟨rfl,vE (by rw [Int.natAbs_natCast];exact hl)⟩
  ·simp only [Value.agg.injEq,Array.mk.injEq,List.cons.injEq,Value.int.injEq,Value.pointer.injEq,true_and,and_true] at ex q;obtain ⟨rfl,rfl,rfl⟩:=ex;obtain ⟨rfl,rfl,rfl⟩:=q;exact mO _ _ _ _ _ _ V _ ⟨fun _=>⟨(fun h=>nomatch h),fun _=>gen⟩,(fun h=>nomatch h)⟩
 ·simp only [Value.agg.injEq,Array.mk.injEq,List.cons.injEq,Value.int.injEq,Value.pointer.injEq,true_and,and_true] at ex;obtain ⟨rfl,rfl,rfl⟩:=ex;exact mO _ _ _ _ _ _ V _ ⟨(fun h=>nomatch h),fun _=>gen⟩
def RA (V:View)(v:Value)(q:Rat):Prop:=∃p n c p' n' c',v=.agg #[.bool (decide (q.num<0)),.slice p n c,.slice p' n' c']/\RD V p n c (ai q.num.natAbs)/\RD V p' n' c' (ai q.den)
theorem RA.le {V V':View}{v:Value}{q:Rat}(h:RA V v q)(l:V.Le V'):RA V' v q:=by
 obtain ⟨p,n,c,a,b,d,e,f,g⟩:=h;exact ⟨p,n,c,a,b,d,e,f.le l,g.le l⟩
theorem kO {V:View}(b:Bool){p q:OA}{n c m e:Nat}{xs ys:List Nat}(hx:RD V p n c xs)(hy:RD V q m e ys)(hm:xs.length<=1099511627776)(hn:ys.length<=1099511627776) :
  ae prog 106 #[.agg #[.bool b,.slice p n c,.slice q m e]] V fun r V'=>RR V' r (mkRat (aZ b xs) (val ys)):=by
 refine FL b p n c q m e V _ fun f a=>(cx b (hx.le a) (hy.le a) hm hn).mono ?_;rintro r V2 g h;obtain ⟨u,v,w,rfl⟩:=h.shape;exact ⟨_,_,_,rfl,fun i d=>h.le d⟩
theorem zv {V:View}{v:Value}{q:Rat}(h:RA V v q){k:Nat}(hs:Sz k q)(hk:k<=1099511627776):ae prog 106 #[v] V fun r V'=>RR V' r q:=by
 obtain ⟨p,n,c,d,e,f,rfl,a,b⟩:=h;have g:=ag hs.1;have i:=ag hs.2;refine (kO _ a b (by omega) (by omega)).mono ?_;rintro r V' _ h;rw [aE,af,Rat.mkRat_self] at h;exact h
theorem pC {V:View}{v:Value}{q:Rat}(h:RR V v q){k:Nat}(hs:Sz k q)(hk:k<=1099511627776):ae prog 171 #[v] V fun r V'=>RA V' r q:=by
 have a:=h;obtain ⟨e,f,g,rfl⟩:=h.shape;refine yl e f g V _ fun n b=>(fj (a.le b) hs hk).mono ?_;rintro r V2 i ⟨o,p,s,rfl,j⟩;refine ⟨_,_,_,_,rfl,fun t c=>(dT (a.le (b.trans (i.trans c))) hs hk).mono ?_⟩;rintro r u l ⟨w,x,y,rfl,m⟩;exact ⟨_,_,_,rfl,fun z d=>⟨_,_,_,_,_,_,rfl,j.le (c.trans (l.trans d)),m.le d⟩⟩
theorem js {V:View}{v w:Value}{x y:Rat}(hx:RR V v x)(hy:RR V w y){k m:Nat}(hk:Sz k x)(hm:Sz m y)(hkm:k+m<1099511627776) :
  ae prog 198 #[v,w] V fun r V'=>RR V' r (x*y):=by
 obtain ⟨S,T,U,rfl⟩:=hx.shape;obtain ⟨W,s1,s2,rfl⟩:=hy.shape;have g:x*y=mkRat (x.num*y.num) (x.den*y.den):=Rat.mul_def' x y;have b1:(x.num*y.num).natAbs<2^(k+m):=by rw [Int.natAbs_mul,Nat.pow_add];exact Nat.mul_lt_mul'' hk.1 hm.1
 have b2:x.den*y.den<2^(k+m):=by rw [Nat.pow_add];exact Nat.mul_lt_mul'' hk.2 hm.2
 have q1:=ag hk.1;have q2:=ag hk.2;have q3:=ag hm.1;have q4:=ag hm.2;have q5:=ag b1;have q6:=ag b2;refine ym S T U W s1 s2 V _ ⟨fun X=>⟨fun _ _=>True,⟨fun Y=>?_,fun _=>⟨(),by (try dsimp only);and_intros<;>trivial,trivial⟩⟩,fun _ V8 Z _=>⟨rfl,fun V9 E=>?_⟩⟩,fun _ V9 h=>?_⟩
 ·rcases hx with ⟨ex,Q⟩|⟨a,b,p,n,c,p',n',c',ex,-,-,-,-,-,Q⟩
  ·rcases hy with ⟨s,R⟩|⟨a,b,p,n,c,p',n',c',s,-,-,-,-,-,R⟩
   ·simp only [Value.agg.injEq,Array.mk.injEq,List.cons.injEq,Value.int.injEq,Value.pointer.injEq,true_and,and_true] at ex s;obtain ⟨rfl,rfl,rfl⟩:=ex;obtain ⟨rfl,rfl,rfl⟩:=s;obtain ⟨S1,Ze⟩:=Q;obtain ⟨S2,Zf⟩:=R;have dx:=x.den_nz;have dy:=y.den_nz;have e1:i64.wrap ((x.den:Int)-1+1)=x.den:=by rw [aw (by omega)];omega
    have e2:i64.wrap ((y.den:Int)-1+1)=y.den:=by rw [aw (by omega)];omega
    rw [e1,e2];intro V1 l1;refine (fT _ _ S1 S2).mono ?_;rintro r V2 l2 ⟨z1,rfl,F⟩;refine ⟨_,_,rfl,fun V3 l3=>(fT _ _ (by omega) (by omega)).mono ?_⟩;rintro r V4 l4 ⟨z2,rfl,G⟩;refine ⟨_,_,rfl,fun t1=>⟨fun t2 V5 l5=>?_,fun _=>⟨(),by (try dsimp only);and_intros<;>trivial,trivial⟩⟩,fun _=>⟨(),by (try dsimp only);and_intros<;>trivial,trivial⟩⟩;have t1:=of_decide_eq_true t1;have t2:=of_decide_eq_true t2;rw [F t1,G t2];have hd:((x.den:Int)*(y.den:Int))=((x.den*y.den:Nat):Int):=(Int.natCast_mul ..).symm;rw [hd] at t2 ⊢;refine (nR _ _ t1 (by rwa [Int.natAbs_natCast] at t2) (Nat.mul_ne_zero dx dy)).mono ?_;rintro r V6 l6 H;rw [←g] at H;obtain ⟨n,d,p,rfl⟩:=H.shape;exact ⟨_,_,_,rfl,fun V7 l7=>H.le l7⟩
   ·simp only [Value.agg.injEq,Array.mk.injEq,List.cons.injEq,Value.int.injEq,Value.pointer.injEq,true_and,and_true] at s;obtain ⟨rfl,rfl,rfl⟩:=s;cases Y
  ·simp only [Value.agg.injEq,Array.mk.injEq,List.cons.injEq,Value.int.injEq,Value.pointer.injEq,true_and,and_true] at ex;obtain ⟨rfl,rfl,rfl⟩:=ex;cases X
 ·have h:=Z.trans E;refine (fj (hx.le h) hk (by omega)).mono ?_;rintro r gu f ⟨p1,n1,c1,rfl,I⟩;refine ⟨_,_,_,_,rfl,fun fg i=>(fj (hy.le (h.trans (f.trans i))) hm (by omega)).mono ?_⟩;rintro r ib t ⟨p2,n2,c2,rfl,J⟩;refine ⟨_,_,_,_,rfl,fun lG j=>(gM _ _ (I.le (i.trans (t.trans j))) (J.le j) (by omega)).mono ?_⟩;rintro r j8 K u;rw [aE,aE] at u;obtain ⟨p3,n3,c3,rfl,L⟩:=u;have z:=h.trans (f.trans (i.trans (t.trans (j.trans K))));refine ⟨_,_,_,_,rfl,fun kK l=>(dT (hx.le (z.trans l)) hk (by omega)).mono ?_⟩;rintro r mS A ⟨p4,n4,c4,rfl,M⟩;refine ⟨_,_,_,rfl,fun pk o=>(dT (hy.le (z.trans (l.trans (A.trans o)))) hm (by omega)).mono ?_⟩;rintro r uC B ⟨p5,n5,c5,rfl,N⟩;refine ⟨_,_,_,rfl,fun uD q=>(gE (M.le (o.trans (B.trans q))) (N.le q) (by omega)).mono ?_⟩;rintro r Ei O ⟨p6,n6,c6,rfl,C⟩;rw [af,af] at C;refine ⟨_,_,_,rfl,fun y_ D=>(cx _ (L.le (l.trans (A.trans (o.trans (B.trans (q.trans (O.trans D))))))) (C.le D) (by omega) (by omega)).mono ?_⟩;rintro r xF m_ e;rw [aE,af,←g] at e;obtain ⟨n,d,p,rfl⟩:=e.shape;exact ⟨_,_,_,rfl,fun En P=>e.le P⟩
 ·skip
  refine (fj (hx.le h) hk (by omega)).mono ?_;rintro r gu f ⟨p1,n1,c1,rfl,I⟩;refine ⟨_,_,_,_,rfl,fun fg i=>(fj (hy.le (h.trans (f.trans i))) hm (by omega)).mono ?_⟩;rintro r ib t ⟨p2,n2,c2,rfl,J⟩;refine ⟨_,_,_,_,rfl,fun lG j=>(gM _ _ (I.le (i.trans (t.trans j))) (J.le j) (by omega)).mono ?_⟩;rintro r j8 K u;rw [aE,aE] at u;obtain ⟨p3,n3,c3,rfl,L⟩:=u;have z:=h.trans (f.trans (i.trans (t.trans (j.trans K))));refine ⟨_,_,_,_,rfl,fun kK l=>(dT (hx.le (z.trans l)) hk (by omega)).mono ?_⟩;rintro r mS A ⟨p4,n4,c4,rfl,M⟩;refine ⟨_,_,_,rfl,fun pk o=>(dT (hy.le (z.trans (l.trans (A.trans o)))) hm (by omega)).mono ?_⟩;rintro r uC B ⟨p5,n5,c5,rfl,N⟩;refine ⟨_,_,_,rfl,fun uD q=>(gE (M.le (o.trans (B.trans q))) (N.le q) (by omega)).mono ?_⟩;rintro r Ei O ⟨p6,n6,c6,rfl,C⟩;rw [af,af] at C;refine ⟨_,_,_,rfl,fun y_ D=>(cx _ (L.le (l.trans (A.trans (o.trans (B.trans (q.trans (O.trans D))))))) (C.le D) (by omega) (by omega)).mono ?_⟩;rintro r xF m_ e;rw [aE,af,←g] at e;obtain ⟨n,d,p,rfl⟩:=e.shape;exact ⟨_,_,_,rfl,fun En P=>e.le P⟩
theorem inv_neg {q:Rat}(h:q.num<0):(q⁻¹).num=-(q.den:Int)/\(q⁻¹).den=q.num.natAbs:=by
 show (Rat.inv q).num=_/\(Rat.inv q).den=_;unfold Rat.inv;rw [dif_pos h];exact ⟨rfl,rfl⟩
theorem inv_pos {q:Rat}(h:0<q.num):(q⁻¹).num=(q.den:Int)/\(q⁻¹).den=q.num.natAbs:=by
 show (Rat.inv q).num=_/\(Rat.inv q).den=_;unfold Rat.inv;rw [dif_neg (by omega),dif_pos h];exact ⟨rfl,rfl⟩
theorem inv_zero {q:Rat}(h:q.num=0):q⁻¹=0:=by
 have:q=0:=Rat.num_eq_zero.1 h;subst this;exact Rat.inv_zero
theorem fE {k:Nat}{q:Rat}(h:Sz k q):Sz k q⁻¹:=by
 rcases Int.lt_trichotomy q.num 0 with a|a|a
 ·obtain ⟨b,c⟩:=inv_neg a;refine ⟨?_,?_⟩
  ·rw [b,Int.natAbs_neg];exact h.2
  ·rw [c];exact h.1
 ·rw [inv_zero a];exact ⟨Nat.two_pow_pos _,Nat.lt_of_le_of_lt (Nat.pos_of_ne_zero q.den_nz) h.2⟩
 ·obtain ⟨b,c⟩:=inv_pos a;exact ⟨by rw [b];exact h.2,by rw [c];exact h.1⟩
theorem Gg {V:View}{v:Value}{q:Rat}(h:RR V v q){k:Nat}(hs:Sz k q)(hk:k<=1099511627776):ae prog 203 #[v] V fun r V'=>RR V' r q⁻¹:=by
 rcases h with ⟨rfl,hw⟩|⟨a,b,p,n,c,s,t,y,rfl,z,A,B,C,D,hw⟩
 ·obtain ⟨l,m⟩:=hw;have H:=q.den_nz;refine oh _ _ _ V _ ⟨(fun d=>nomatch d),fun _=>⟨fun g I J=>?_,fun g=>⟨fun j K L=>?_,fun j M N=>?_⟩⟩⟩
  ·have g:=of_decide_eq_true g;obtain ⟨f,i⟩:=inv_neg g;refine .inl ⟨?_,?_⟩
   ·rw [f,i,aw (x:=(q.den:Int)-1+1) (by omega),aw (x:=0-q.num) (by omega),aw (x:=0-((q.den:Int)-1+1)) (by omega),aw (by omega)];congr 4
    ·omega
    ·congr 1;omega
   ·unfold Wd;rw [f,i,Int.natAbs_neg];exact ⟨m,l⟩
  ·have j:q.num=0:=by simpa using j
   rw [inv_zero j];exact .inl ⟨rfl,by decide,by decide⟩
  ·have g:¬q.num<0:=of_decide_eq_false g;have j:q.num≠0:=by simpa using j
   obtain ⟨f,i⟩:=inv_pos (q:=q) (by omega);refine .inl ⟨?_,?_⟩
   ·rw [f,i,aw (x:=(q.den:Int)-1+1) (by omega),aw (by omega)];congr 4
    ·omega
    ·congr 1;omega
   ·unfold Wd;rw [f,i];exact ⟨m,l⟩
 ·obtain ⟨rfl,E⟩:=C.inv;have O:=ag hs.1;have P:=ag hs.2;refine oh _ _ _ V _ ⟨fun _=>⟨rfl,rfl,rfl,decide (q.num<0),⟨a.add 0,by simp [ah,Addr.add],z⟩,rfl,rfl,s,t,y,⟨a.add 2,rfl,B⟩,rfl,rfl,rfl,p,n,c,⟨a.add 1,by simp [ah,Addr.add],A⟩,fun Q o=>(cx _ (D.le o) (E.le o) (by omega) (by omega)).mono ?_⟩,fun d=>nomatch d⟩;rintro r V2 R h
  have e:mkRat (aZ (decide (q.num<0)) (ai q.den)) (val (ai q.num.natAbs))=q⁻¹:=by
   rw [af]
   have F:aZ (decide (q.num<0)) (ai q.den)=if q.num<0 then -(q.den:Int) else (q.den:Int):=by
    unfold aZ;rw [af];by_cases g:q.num<0<;>simp [g]
   rw [F];rcases Int.lt_trichotomy q.num 0 with d|d|d
   ·obtain ⟨f,i⟩:=inv_neg d;rw [if_pos d,←f,←i,Rat.mkRat_self]
   ·rw [inv_zero d,d];simp
   ·obtain ⟨f,i⟩:=inv_pos d;rw [if_neg (by omega),←f,←i,Rat.mkRat_self]
  rw [e] at h;obtain ⟨u,v,w,rfl⟩:=h.shape;exact ⟨_,_,_,rfl,fun S G=>h.le G⟩
theorem um {V:View}{v w:Value}{x y:Rat}(hx:RR V v x)(hy:RR V w y){k m:Nat}(hk:Sz k x)(hm:Sz m y)(hkm:k+m<1099511627776) :
  ae prog 162 #[v,w] V fun r V'=>RR V' r (x*y⁻¹):=by
 have a:=hx;have b:=hy;obtain ⟨i,j,l,rfl⟩:=hx.shape;obtain ⟨n,s1,s2,rfl⟩:=hy.shape;refine yn i j l n s1 s2 V _ fun q e=>(Gg (b.le e) hm (by omega)).mono ?_;rintro r V2 o f;have c:=f;obtain ⟨u,v,w,rfl⟩:=f.shape;refine ⟨_,_,_,rfl,fun s g=>(js (a.le (e.trans (o.trans g))) (c.le g) hk (fE hm) hkm).mono ?_⟩;rintro r t z h;have d:=h;obtain ⟨u,v,w,rfl⟩:=h.shape;exact ⟨_,_,_,rfl,fun A p=>d.le p⟩
theorem Nn (a b:Nat)(ha:a<4294967296)(hb:b<4294967296):bz .and .u32 (a:Int) (b:Int)=((a &&& b:Nat):Int):=by
 have c:(BitVec.ofInt IntKind.u32.bits ((a:Nat):Int) &&& BitVec.ofInt IntKind.u32.bits ((b:Nat):Int)).toNat=a &&& b:=by
  show (BitVec.ofInt 32 ((a:Nat):Int) &&& BitVec.ofInt 32 ((b:Nat):Int)).toNat=_;rw [BitVec.ofInt_natCast,BitVec.ofInt_natCast,BitVec.toNat_and,BitVec.toNat_ofNat,BitVec.toNat_ofNat,Nat.mod_eq_of_lt (by omega),Nat.mod_eq_of_lt (by omega)]
 have d:a &&& b<2^32:=Nat.and_lt_two_pow a (by omega);rw [bz,iA,c];omega
theorem VZ (a b:Nat)(ha:a<4294967296)(hb:b<4294967296):bz .or .u32 (a:Int) (b:Int)=((a ||| b:Nat):Int):=by
 have c:(BitVec.ofInt IntKind.u32.bits ((a:Nat):Int) ||| BitVec.ofInt IntKind.u32.bits ((b:Nat):Int)).toNat=a ||| b:=by
  show (BitVec.ofInt 32 ((a:Nat):Int) ||| BitVec.ofInt 32 ((b:Nat):Int)).toNat=_;rw [BitVec.ofInt_natCast,BitVec.ofInt_natCast,BitVec.toNat_or,BitVec.toNat_ofNat,BitVec.toNat_ofNat,Nat.mod_eq_of_lt (by omega),Nat.mod_eq_of_lt (by omega)]
 have d:a ||| b<2^32:=Nat.or_lt_two_pow (by omega) (by omega);rw [bz,iA,c];omega
theorem K5 (a b:Nat)(ha:a<4294967296)(hb:b<4294967296):bz .xor .u32 (a:Int) (b:Int)=((a ^^^ b:Nat):Int):=by
 have c:(BitVec.ofInt IntKind.u32.bits ((a:Nat):Int) ^^^ BitVec.ofInt IntKind.u32.bits ((b:Nat):Int)).toNat=a ^^^ b:=by
  show (BitVec.ofInt 32 ((a:Nat):Int) ^^^ BitVec.ofInt 32 ((b:Nat):Int)).toNat=_;rw [BitVec.ofInt_natCast,BitVec.ofInt_natCast,BitVec.toNat_xor,BitVec.toNat_ofNat,BitVec.toNat_ofNat,Nat.mod_eq_of_lt (by omega),Nat.mod_eq_of_lt (by omega)]
 have d:a ^^^ b<2^32:=Nat.xor_lt_two_pow (by omega) (by omega);rw [bz,iA,c];omega
theorem SP {n:Nat}(h:n<4294967296):n / 2147483648=if n.testBit 31 then 1 else 0:=by
 rw [Nat.testBit_eq_decide_div_mod_eq];have:(2:Nat)^31=2147483648:=by decide
 rw [this];split
 ·rename_i a;simp at a;omega
 ·rename_i a;simp at a;omega
theorem Gf {n:Nat}(h:n<4294967296):n.testBit 31=decide (2147483648<=n):=by
 rw [Nat.testBit_eq_decide_div_mod_eq];have:(2:Nat)^31=2147483648:=by decide
 rw [this];congr 1;simp;omega
theorem IV (x y c:Nat)(hx:x<4294967296)(hy:y<4294967296)(hc:c<=1){d:Nat}(hd:(d:Int)=((x:Int)-y-c)%4294967296) :
  (((4294967295 ^^^ x) &&& y) ||| ((4294967295 ^^^ (x ^^^ y)) &&& d)) / 2147483648=if x<y+c then 1 else 0:=by
 have k:(4294967295 ^^^ x)<2^32:=Nat.xor_lt_two_pow (by omega) (by omega);have b:x ^^^ y<2^32:=Nat.xor_lt_two_pow (by omega) (by omega);have l:(4294967295 ^^^ (x ^^^ y))<2^32:=Nat.xor_lt_two_pow (by omega) b;have e:(4294967295 ^^^ x) &&& y<2^32:=Nat.and_lt_two_pow _ (by omega);have f:(4294967295 ^^^ (x ^^^ y)) &&& d<2^32:=Nat.and_lt_two_pow _ (by omega);have g:=Nat.or_lt_two_pow e f;rw [SP g];have a:d<4294967296:=by omega
 rw [Nat.testBit_or,Nat.testBit_and,Nat.testBit_and,Nat.testBit_xor,Nat.testBit_xor,Nat.testBit_xor,Gf hx,Gf hy,Gf a,Gf (n:=4294967295) (by omega)];by_cases h:2147483648<=x<;>by_cases i:2147483648<=y<;>by_cases j:2147483648<=d<;>simp [h,i,j]<;>omega
theorem LM {V:View}(x y c:Nat)(hx:x<4294967296)(hy:y<4294967296)(hc:c<=1) :
  ae prog 226 #[.int .u32 (x:Int),.int .u32 (y:Int),.int .u32 (c:Int)] V fun r V'=>∃d b:Nat,r=.tuple #[.int .u32 (d:Int),.int .u32 (b:Int)]/\d<4294967296/\b<=1/\d+(y+c)=x+4294967296*b:=by
 refine pg _ _ _ V _ ⟨by omega,fun n o=>?_⟩;obtain ⟨d,g⟩:∃d:Nat,(d:Int)=((x:Int)-y-c)%4294967296:=⟨(((x:Int)-y-c)%4294967296).toNat,by omega⟩;have a:d<4294967296:=by omega
 have h:u32.wrap (u32.wrap ((x:Int)-y)-c)=(d:Int):=by rw [iA,iA];omega
 have i:IntKind.u32.max=((4294967295:Nat):Int):=rfl;have j:(4294967295 ^^^ x)<2^32:=Nat.xor_lt_two_pow (by omega) (by omega);have f:x ^^^ y<2^32:=Nat.xor_lt_two_pow (by omega) (by omega);have k:(4294967295 ^^^ (x ^^^ y))<2^32:=Nat.xor_lt_two_pow (by omega) f;have l:(4294967295 ^^^ x) &&& y<2^32:=Nat.and_lt_two_pow _ (by omega);have m:(4294967295 ^^^ (x ^^^ y)) &&& d<2^32:=Nat.and_lt_two_pow _ (by omega);rw [h,i,K5 _ _ (by omega) hx,Nn _ _ j hy,K5 _ _ hx hy,K5 _ _ (by omega) f,Nn _ _ k a,VZ _ _ l m,fV];have e:(2:Nat)^31=2147483648:=by decide
 rw [e,IV x y c hx hy hc g];refine ⟨d,_,rfl,a,?_,?_⟩
 ·split<;>omega
 ·split<;>omega
theorem LH {V:View}(hi lo y:Nat)(hh:hi<y)(hl:lo<4294967296)(hy:y<4294967296) :
  ae prog 186 #[.int .u32 (hi:Int),.int .u32 (lo:Int),.int .u32 (y:Int)] V fun r V'=>r=.tuple #[.int .u32 (((hi*4294967296+lo) / y:Nat):Int),.int .u32 (((hi*4294967296+lo)%y:Nat):Int)]:=by
 have key:∀b:View,Value.tuple #[.int .u32 (u32.wrap (u64.wrap ((bz .or .u64 (u64.wrap ((u64.wrap (hi:Int))*2^32)) (u64.wrap (lo:Int))).tdiv (u64.wrap (y:Int))))),.int .u32 (u32.wrap ((bz .or .u64 (u64.wrap ((u64.wrap (hi:Int))*2^32)) (u64.wrap (lo:Int))).tmod (u64.wrap (y:Int))))]=.tuple #[.int .u32 (((hi*4294967296+lo) / y:Nat):Int),.int .u32 (((hi*4294967296+lo)%y:Nat):Int)]:=by
  intro _;have c:((2:Int)^32)=4294967296:=by decide
  have d:u64.wrap (hi:Int)=hi:=aN (by omega);have e:u64.wrap (lo:Int)=lo:=aN (by omega);have a:u64.wrap (y:Int)=y:=aN (by omega);have f:u64.wrap ((hi:Int)*4294967296)=(hi:Int)*4294967296:=aN (by omega);rw [d,c,f,e,a,Dc _ _ (by omega) hl];have g:(hi:Int)*4294967296+lo=((hi*4294967296+lo:Nat):Int):=by omega
  rw [g,←Int.ofNat_tdiv,←Int.ofNat_tmod]
  have m:(hi*4294967296+lo) / y<4294967296:=by
   rw [Nat.div_lt_iff_lt_mul (by omega)];have:(hi+1)*4294967296<=y*4294967296:=Nat.mul_le_mul_right _ hh;omega
  have n:(hi*4294967296+lo)%y<y:=Nat.mod_lt _ (by omega);generalize (hi*4294967296+lo) / y=q at *;generalize (hi*4294967296+lo)%y=r at *;have i:u64.wrap (q:Int)=q:=aN (by omega);have j:u32.wrap (q:Int)=q:=qB (by omega);have k:u32.wrap (r:Int)=r:=qB (by omega);rw [i,j,k]
 have a:u64.wrap (y:Int)=y:=aN (by omega);refine oY _ _ _ V _ ⟨fun _=>⟨fun h=>?_,fun _=>⟨by omega,by rw [a];omega,by rw [a];omega,fun b l=>key b⟩⟩,fun _=>⟨by omega,by rw [a];omega,by rw [a];omega,fun b l=>key b⟩⟩;simp at h;omega
theorem cW {V:View}{p:OA}{n c:Nat}{ds:List Nat}(h:RD V p n c ds)(hm:ds.length<=4611686018427387904) :
  ae prog 142 #[.slice p n c] V fun r V'=>∃k,r=.slice p k c/\RD V' p k c (cg ds):=by
 have j:=h.len;have l:=h.cap;refine D_ p n c V _ ?_;refine ⟨fun z V'=>0<=z/\z<=n/\cg (ds.take z.toNat)=cg ds,fun z=>z.toNat,⟨n,by (try dsimp only);and_intros<;>first|exact True.intro|rfl,by (try dsimp only);omega,by (try dsimp only);omega,?_⟩,?_⟩
 ·simp [j]
 ·rintro k o e ⟨f,m,d⟩;obtain ⟨k,rfl⟩:=Int.eq_ofNat_of_zero_le f;dsimp only at m d ⊢;simp only [Int.toNat_natCast] at d;refine ⟨rfl,fun a=>?_,fun a=>?_⟩
  ·have a:0<k:=by simpa using a
   have w:i64.wrap ((k:Int)-1)=((k-1:Nat):Int):=by rw [aw (by omega)];omega
   simp only [w];have g:ds.take k=ds.take (k-1)++[ds[k-1]]:=by rw [←List.take_succ_eq_append_getElem (by omega),Nat.sub_add_cancel a]
   refine (h.le e).rd (k-1) rfl (by omega) ⟨fun b=>?_,fun b=>?_⟩
   ·have b:ds[k-1]=0:=by simpa using b
    refine ⟨_,?_,by (try dsimp only);and_intros<;>first|exact True.intro|rfl,?_,?_,?_⟩
    ·(try dsimp only);omega
    ·(try dsimp only);omega
    ·(try dsimp only);omega
    ·(try dsimp only)
     rw [←d,g,b,ia];rfl
   ·have b:ds[k-1]≠0:=by simpa using b
    refine ⟨⟨by omega,by omega⟩,fun V2 i=>⟨k,rfl,?_⟩⟩;rw [←d,g,oV _ _ b,←g];exact ((h.le e).le i).take (by omega)
  ·have a:k=0:=by simpa using a
   subst a;refine ⟨⟨by omega,by omega⟩,fun V2 i=>⟨0,rfl,?_⟩⟩;rw [←d];exact ((h.le e).le i).take (by omega)
theorem cX {V:View}(u:Nat)(h1:u<18446744073709551616) :
  ae prog 105 #[.int .u64 (u:Int)] V fun r V'=>∃q k c',r=.slice q k c'/\RN V' q k c' u:=by
 refine Ea _ V _ ⟨by omega,fun e h f a=>?_⟩;rw [lN,iA,qB (by omega)] at a
 have a:e.bw f (.cells (aB [u%4294967296,u / 4294967296]).toArray 221 (0,0)):=by
  simpa [aB] using a
 have d:bV [u%4294967296,u / 4294967296]:=by simp [bV];omega
 refine (cW (RD.bw a d (n:=2) (c:=2) rfl (Nat.le_refl _)) (by simp)).mono ?_;rintro r V2 i ⟨k,rfl,b⟩;refine ⟨_,_,_,rfl,fun _ j g=>⟨_,_,_,rfl,?_⟩⟩;rw [aR d] at b;have:val [u%4294967296,u / 4294967296]=u:=by simp;omega
 rw [this] at b;exact b.le g
theorem mU {V:View} :
  ae prog 136 #[] V fun r V'=>∃q k c',r=.slice q k c'/\RN V' q k c' 1:=by
 refine F3 V _ fun b e c a=>⟨_,_,_,rfl,?_⟩;have d:ai 1=[1]:=LU (by omega) (by omega);unfold RN;rw [d]
 have a:b.bw c (.cells (aB [1]).toArray 221 (0,0)):=by
  simpa [aB] using a
 exact RD.bw a (by simp [bV]) rfl (Nat.le_refl _)
def H5 (x:Int):Int:=if 0<x then 1 else if x<0 then -1 else 0
theorem EK {V:View}(x:Int) :
  ae prog 182 #[.int .i64 x] V fun r V'=>r=.int .i64 (H5 x):=by
 refine Ec x V _ ⟨fun h b c=>?_,fun h=>⟨fun a b c=>?_,fun a b c=>?_⟩⟩
 ·have h:0<x:=by simpa using h
  rw [H5,if_pos h]
 ·have h:x<0:=by simpa using a
  rw [H5,if_neg (by omega),if_pos h]
 ·have h:¬0<x:=by simpa using h
  have a:¬x<0:=by simpa using a
  rw [H5,if_neg h,if_neg a]
theorem iG {V:View}{p q:OA}{n c m e:Nat}{x y:Nat}(ha:RN V p n c x)(hb:RN V q m e y)(hm:(ai x).length<=1099511627776)(hn:(ai y).length<=1099511627776) :
  ae prog 135 #[.slice p n c,.slice q m e] V fun r V'=>r=.int .i64 (kg x y):=by
 have v:=ha.len;have A:=hb.len;refine FX p n c q m e V _ ⟨fun g D E=>?_,fun g=>?_⟩
 ·have w:i64.wrap ((n:Int)-m)=(n:Int)-m:=aw (by omega);simp only [w];refine (EK _).mono ?_;rintro r V2 F rfl;refine ⟨_,rfl,fun G H=>?_⟩;have g:n≠m:=by simp at g;omega
  congr 1;rcases Nat.lt_or_ge n m with h|h
  ·have:=kn (a:=x) (b:=y) (by omega);rw [kg,if_pos this,H5,if_neg (by omega),if_pos (by omega)]
  ·have:=kn (a:=y) (b:=x) (by omega);rw [kg,if_neg (by omega),if_pos this,H5,if_pos (by omega)]
 ·have g:n=m:=by simp at g;omega
  subst g;have w:i64.wrap ((n:Int)-1)=(n:Int)-1:=aw (by omega);simp only [w];refine ⟨fun z V'=>-1<=z/\z<n/\(ai x).drop (z+1).toNat=(ai y).drop (z+1).toNat,fun z=>(z+1).toNat,⟨_,by (try dsimp only);and_intros<;>first|exact True.intro|rfl,by (try dsimp only);omega,by (try dsimp only);omega,?_⟩,?_⟩
  ·(try dsimp only)
   rw [List.drop_of_length_le (by omega),List.drop_of_length_le (by omega)]
  ·rintro i I j ⟨k,o,s⟩;dsimp only at k o s ⊢;refine ⟨by trivial,fun d=>?_,fun d J K=>?_⟩
   ·have d:0<=i:=by simpa using d
    obtain ⟨i,rfl⟩:=Int.eq_ofNat_of_zero_le d;have w:i64.wrap ((i:Int)-1)=(i:Int)-1:=aw (by omega);simp only [w];have f:(ai x).drop (i+1)=(ai y).drop (i+1):=s;refine (ha.le j).rd i rfl (by omega) ((hb.le j).rd i rfl (by omega) ⟨fun t B C=>?_,fun t=>?_⟩)
    ·have:=jD (aA y) (by omega) (by omega) f.symm (by simpa using t);rw [af,af] at this;rw [kg,if_neg (by omega),if_pos this]
    ·refine (ha.le j).rd i rfl (by omega) ((hb.le j).rd i rfl (by omega) ⟨fun u B C=>?_,fun u=>?_⟩)
     ·have:=jD (aA x) (by omega) (by omega) f (by simpa using u);rw [af,af] at this;rw [kg,if_pos this]
     ·refine ⟨_,?_,by (try dsimp only);and_intros<;>first|exact True.intro|rfl,?_,?_,?_⟩
      ·(try dsimp only);omega
      ·(try dsimp only);omega
      ·(try dsimp only);omega
      ·(try dsimp only)
       have:((i:Int)-1+1).toNat=i:=by omega
       rw [this,List.drop_eq_getElem_cons (by omega),List.drop_eq_getElem_cons (l:=ai y) (by omega),f];congr 1;simp at t u;omega
   ·have d:i=-1:=by simp at d;omega
    subst d;have:ai x=ai y:=by simpa using s
    have:=pN this;subst this;simp [kg]
theorem JM (a b:Nat):bR (a:Int) (b:Int)=((max a b:Nat):Int):=by
 unfold bR;split<;>omega
theorem Ho {V:View}{p q:OA}{n c m e:Nat}{xs ys:List Nat}(hx:RD V p n c xs)(hy:RD V q m e ys)(hm:xs.length<=1099511627776)(hn:ys.length<=1099511627776) :
  ae prog 184 #[.slice p n c,.slice q m e] V fun r V'=>∃p' n' c',r=.slice p' n' c'/\RN V' p' n' c' (val xs+val ys):=by
 have H:=hx.len;have O:=hy.len;have vc:=F6 p n c q m e V;have w:i64.wrap (((max n m:Nat):Int)+1)=((max n m+1:Nat):Int):=by rw [aw (by omega)];omega
 simp only [JM,w,Int.toNat_natCast] at vc;obtain ⟨k,I⟩:∃k,k=max n m:=⟨_,rfl⟩;rw [←I] at vc
 refine vc _ ⟨by omega,by omega,by omega,fun z V'=>0<=z.1/\z.1<=1/\0<=z.2.1/\z.2.1<=k/\∃es:List Nat,z.2.2=aB es/\es.length=k+1/\bV es /\
   val (es.take z.2.1.toNat)+4294967296^z.2.1.toNat*z.1.toNat=val (xs.take z.2.1.toNat)+val (ys.take z.2.1.toNat),fun z=>k-z.2.1.toNat,⟨(0,0,aB (List.replicate (k+1) 0)),by (try dsimp only);and_intros<;>first|exact True.intro|rfl|exact cK _,by (try dsimp only);omega,by (try dsimp only);omega,by (try dsimp only);omega,by (try dsimp only);omega,_,rfl,by simp,bV.rep _,by simp⟩,?_⟩
 rintro ⟨b,i,P⟩ V2 D ⟨f,o,g,s,es,rfl,t,h,l⟩;dsimp only at f o g s l ⊢;obtain ⟨i,rfl⟩:=Int.eq_ofNat_of_zero_le g;obtain ⟨b,rfl⟩:=Int.eq_ofNat_of_zero_le f;simp only [Int.toNat_natCast] at l;refine ⟨by trivial,fun d=>?_,fun d=>?_⟩
 ·have d:i<k:=by simpa using d
  refine ⟨fun z V'=>∃x:Nat,z=x/\x<4294967296/\val (xs.take (i+1))=val (xs.take i)+4294967296^i*x,⟨fun a=>?_,fun a=>?_⟩,?_⟩
  ·have a:i<n:=by simpa using a
   refine (hx.le D).rd i rfl (by omega) ?_;exact ⟨_,by (try dsimp only);and_intros<;>first|exact True.intro|rfl,xs[i],rfl,hx.fk.get (by omega),au _ _ (by omega)⟩
  ·have a:n<=i:=by simpa using a
   exact ⟨_,by (try dsimp only);and_intros<;>first|exact True.intro|rfl,0,rfl,by omega,by rw [aq (by omega),aq (by omega)];simp⟩
  rintro _ J E ⟨x,rfl,u,v⟩;refine ⟨by trivial,fun z V'=>∃y:Nat,z=y/\y<4294967296/\val (ys.take (i+1))=val (ys.take i)+4294967296^i*y,⟨fun a=>?_,fun a=>?_⟩,?_⟩
  ·have a:i<m:=by simpa using a
   refine ((hy.le D).le E).rd i rfl (by omega) ?_;exact ⟨_,by (try dsimp only);and_intros<;>first|exact True.intro|rfl,ys[i],rfl,hy.fk.get (by omega),au _ _ (by omega)⟩
  ·have a:m<=i:=by simpa using a
   exact ⟨_,by (try dsimp only);and_intros<;>first|exact True.intro|rfl,0,rfl,by omega,by rw [aq (by omega),aq (by omega)];simp⟩
  rintro _ K L ⟨y,rfl,A,B⟩;refine ⟨by trivial,fun M F=>(LG x y b u A (by omega)).mono ?_⟩;rintro r Q R rfl;have w:i64.wrap ((i:Int)+1)=((i+1:Nat):Int):=by rw [aw (by omega)];omega
  simp only [w,Int.toNat_natCast];refine ⟨_,_,rfl,⟨by omega,by omega⟩,by simp;omega,(((x+y+b) / 4294967296:Nat),((i+1:Nat):Int),aB (es.set i ((x+y+b)%4294967296))),?_,by (try dsimp only);and_intros<;>first|exact True.intro|rfl|(rw [←bD];simp),?_⟩
  ·(try dsimp only);omega
  ·(try dsimp only)
   refine ⟨by omega,by omega,by omega,by omega,_,rfl,by simpa using t,h.set _ _ (by omega),?_⟩;simp only [Int.toNat_natCast];rw [aJ _ _ _ (by omega),Nat.pow_succ,v,B];exact uF l (by omega)
 ·have d:i=k:=by simp at d;omega
  subst d;refine ⟨⟨by omega,by omega⟩,by simp;omega,fun J E S C=>?_⟩;have G:(aB es).set (0+((i:Int).toNat)*1) (.int .u32 (b:Int))=aB (es.set i b):=by rw [←bD];simp
  simp only [Int.toNat_natCast] at G;try simp only [Int.toNat_natCast] at C
  rw [G] at C;have j:=h.set i b (by omega);refine (cW (RD.bw C j (n:=i+1) (c:=i+1) (by simp;omega) (Nat.le_refl _)) (by simp;omega)).mono ?_;rintro r K L ⟨k,rfl,a⟩;refine ⟨_,_,_,rfl,fun _ M F=>⟨_,_,_,rfl,?_⟩⟩;rw [aR j] at a
  have N:val (es.set i b)=val xs+val ys:=by
   have:=aJ es i b (by omega);rw [aq (by simp;omega)] at this;rw [this,l,aq (by omega),aq (by omega)]
  rw [N] at a;exact a.le F
theorem FF {E A B c x y W d b:Nat}(h:E+B=A+W*c)(hv:d+(y+c)=x+4294967296*b) :
  E+W*d+(B+W*y)=A+W*x+W*4294967296*b:=by
 have:=congrArg (W*·) hv;simp only [Nat.mul_add,←Nat.mul_assoc] at this;omega
theorem oD {V:View}{p q:OA}{n c m e:Nat}{xs ys:List Nat}(hx:RD V p n c xs)(hy:RD V q m e ys)(hm:xs.length<=1099511627776)(hl:ys.length<=xs.length)(hle:val ys<=val xs) :
  ae prog 185 #[.slice p n c,.slice q m e] V fun r V'=>∃p' n' c',r=.slice p' n' c'/\RN V' p' n' c' (val xs-val ys):=by
 have G:=hx.len;have N:=hy.len
 refine D4 p n c q m e V _ ⟨by omega,by omega,by omega,fun z V'=>0<=z.1/\z.1<=1/\0<=z.2.1/\z.2.1<=n/\∃es:List Nat,z.2.2=aB es/\es.length=n/\bV es /\
   val (es.take z.2.1.toNat)+val (ys.take z.2.1.toNat)=val (xs.take z.2.1.toNat)+4294967296^z.2.1.toNat*z.1.toNat,fun z=>n-z.2.1.toNat,
   ⟨(0,0,List.replicate n (.int .u32 0)),by (try dsimp only);and_intros<;>first|exact True.intro|rfl,by (try dsimp only);omega,by (try dsimp only);omega,by (try dsimp only);omega,by (try dsimp only);omega,List.replicate n 0,cK n,by simp,bV.rep _,by simp⟩,?_⟩
 rintro ⟨l,i,O⟩ V2 C ⟨o,u,s,v,es,rfl,g,a,t⟩;dsimp only at o u s v t ⊢;obtain ⟨i,rfl⟩:=Int.eq_ofNat_of_zero_le s;obtain ⟨l,rfl⟩:=Int.eq_ofNat_of_zero_le o;simp only [Int.toNat_natCast] at t;refine ⟨by trivial,fun j=>?_,fun j=>?_⟩
 ·have j:i<n:=by simpa using j
  refine ⟨fun z V'=>∃y:Nat,z=y/\y<4294967296/\val (ys.take (i+1))=val (ys.take i)+4294967296^i*y,⟨fun f=>?_,fun f=>?_⟩,?_⟩
  ·have f:i<m:=by simpa using f
   refine (hy.le C).rd i rfl (by omega) ?_;exact ⟨_,by (try dsimp only);and_intros<;>first|exact True.intro|rfl,ys[i],rfl,hy.fk.get (by omega),au _ _ (by omega)⟩
  ·have f:m<=i:=by simpa using f
   exact ⟨_,by (try dsimp only);and_intros<;>first|exact True.intro|rfl,0,rfl,by omega,by rw [aq (by omega),aq (by omega)];simp⟩
  rintro _ H D ⟨y,rfl,x,A⟩;refine ⟨by trivial,?_⟩;refine ((hx.le C).le D).rd i rfl (by omega) fun I J=>(LM _ y l (hx.fk.get (by omega)) x (by omega)).mono ?_;rintro r K E ⟨d,b,rfl,P,F,B⟩;have w:i64.wrap ((i:Int)+1)=((i+1:Nat):Int):=by rw [aw (by omega)];omega
  simp only [w,Int.toNat_natCast];refine ⟨_,_,rfl,⟨by omega,by omega⟩,by simp;omega,((b:Int),((i+1:Nat):Int),aB (es.set i d)),?_,by (try dsimp only);and_intros<;>first|exact True.intro|rfl|(rw [←bD];simp),?_⟩
  ·(try dsimp only);omega
  ·(try dsimp only)
   refine ⟨by omega,by omega,by omega,by omega,_,rfl,by simpa using g,a.set _ _ (by omega),?_⟩;simp only [Int.toNat_natCast];rw [aJ _ _ _ (by omega),Nat.pow_succ,au xs i (by omega),A];exact FF t B
 ·have j:i=n:=by simp at j;omega
  subst j;simp only [Int.toNat_natCast];intro H D Q F;refine (cW (RD.bw F a (n:=i) (c:=i) g.symm (Nat.le_refl _)) (by omega)).mono ?_;rintro r I J ⟨k,rfl,f⟩;refine ⟨_,_,_,rfl,fun _ K E=>⟨_,_,_,rfl,?_⟩⟩;rw [aR a] at f;rw [aq (by omega),aq (by omega),aq (by omega)] at t;have L:=gj a;rw [g] at L
  have M:l=0:=by
   rcases Nat.eq_zero_or_pos l with h|h
   ·exact h
   ·have:4294967296^i*1<=4294967296^i*l:=Nat.mul_le_mul_left _ h;omega
  subst M;rw [show val es=val xs-val ys from by omega] at f;exact f.le E
theorem Dk {V:View}{p:OA}{n c:Nat}{ds:List Nat}(h:RD V p n c ds){K:Int->Prop}(hn:0<ds.length)
  (hK:K ((ds[0]:Nat):Int)):(p.isSome=true)/\(0<=(0:Int)/\(0:Int)<(n:Int))/\∃x:Int,(∃a,ah p 0=some a/\V.at a (.int .u32 x))/\K x:=by
 have:=h.rd (i:=0) (K:=K) 0 rfl hn hK;simpa using this
theorem MC {V:View}{p:OA}{n c:Nat}{ds:List Nat}(h:RD V p n c ds){K:Int->Prop}(j:Nat)(hn:j<ds.length)
  (hK:K ((ds[j]:Nat):Int)):(p.isSome=true)/\(0<=(j:Int)/\(j:Int)<(n:Int))/\∃x:Int,(∃a,ah p j=some a/\V.at a (.int .u32 x))/\K x:=by
 have:=h.rd (i:=j) (K:=K) j rfl hn hK;simpa using this
theorem lq {ds:List Nat}(h:ds.length=1):∃a,ds=[a]:=by
 match ds,h with
 | [a],_=>exact ⟨a,rfl⟩
theorem FJ {ds:List Nat}(h:ds.length=2):∃a b,ds=[a,b]:=by
 match ds,h with
 | [a,b],_=>exact ⟨a,b,rfl⟩
theorem cz {V:View}{p q:OA}{n c m e:Nat}{xs ys:List Nat}(hx:RD V p n c xs)(hy:RD V q m e ys)(hm:xs.length+ys.length<=1099511627776) :
  ae prog 81 #[.slice p n c,.slice q m e] V fun r V'=>∃p' n' c',r=.slice p' n' c'/\RN V' p' n' c' (val xs*val ys):=by
 have X:=hx.len;have zU:=hy.len;have y:((n:Int)+m).toNat=n+m:=by omega
 have w:i64.wrap ((n:Int)+m)=(n:Int)+m:=aw (by omega);have vc:=wW p n c q m e V;simp only [w,y,cK] at vc;refine (fun tail=>vc _ ⟨fun S=>⟨fun A=>?_,fun _=>tail⟩,fun _=>tail⟩) ?_
 ·have S:n=1:=by simp at S;omega
  have A:m=1:=by simp at A;omega
  clear tail vc;obtain ⟨a,rfl⟩:=lq (ds:=xs) (by omega);obtain ⟨b,rfl⟩:=lq (ds:=ys) (by omega);have T:=hx.fk.get (i:=0) (by simp);have B:=hy.fk.get (i:=0) (by simp);refine Dk hx (by simp) (Dk hy (by simp) fun V1 l1=>?_);simp only [List.getElem_cons_zero] at T B ⊢;have zR:a*b<=4294967295*4294967295:=Nat.mul_le_mul (by omega) (by omega);have J:u64.wrap (a:Int)=a:=aN (by omega);have K:u64.wrap (b:Int)=b:=aN (by omega);have Y:(a:Int)*(b:Int)=((a*b:Nat):Int):=by simp
  have Z:u64.wrap ((a*b:Nat):Int)=((a*b:Nat):Int):=aN (by omega);rw [J,K,Y,Z];refine (cX (a*b) (by omega)).mono ?_;rintro r V2 l2 ⟨p',n',c',rfl,h⟩;refine ⟨_,_,_,rfl,fun V3 l3=>⟨_,_,_,rfl,?_⟩⟩;simp only [bq,eA,Nat.mul_zero,Nat.add_zero];exact h.le l3
 refine ⟨by omega,by omega,by omega,fun z V'=>0<=z.1/\z.1<=n/\∃es:List Nat,z.2=aB es/\es.length=n+m/\bV es /\
  val (es.take (z.1.toNat+m))=val (xs.take z.1.toNat)*val ys,fun z=>n-z.1.toNat,⟨(0,aB (List.replicate (n+m) 0)),by (try dsimp only);and_intros<;>first|exact True.intro|rfl,by (try dsimp only);omega,by (try dsimp only);omega,_,rfl,by simp,bV.rep _,by simp [uz,List.take_replicate]⟩,?_⟩
 rintro ⟨i,vs⟩ V5 U ⟨C,L,es,rfl,M,o,D⟩;dsimp only at C L D ⊢;obtain ⟨i,rfl⟩:=Int.eq_ofNat_of_zero_le C;simp only [Int.toNat_natCast] at D;refine ⟨by trivial,fun v=>?_,fun v=>?_⟩
 ·have v:i<n:=by simpa using v
  refine (hx.le U).rd i rfl (by omega) ?_;have T:=hx.fk.get (i:=i) (by omega)
  refine ⟨fun z V'=>0<=z.1/\z.1<=4294967295/\0<=z.2.1/\z.2.1<=m/\∃d:List Nat,z.2.2=aB d/\d.length=n+m/\bV d/\d.drop (i+z.2.1.toNat)=es.drop (i+z.2.1.toNat) /\
   val (d.take (i+z.2.1.toNat))+4294967296^(i+z.2.1.toNat)*z.1.toNat=val (es.take (i+z.2.1.toNat))+4294967296^i*xs[i]*val (ys.take z.2.1.toNat),fun z=>m-z.2.1.toNat,
   ⟨(0,0,aB es),by (try dsimp only);and_intros<;>first|exact True.intro|rfl,by (try dsimp only);omega,by (try dsimp only);omega,by (try dsimp only);omega,by (try dsimp only);omega,es,rfl,M,o,rfl,by simp⟩,?_⟩
  rintro ⟨I,k,vs⟩ V6 W ⟨E,N,F,O,d,rfl,G,s,j,hw⟩;dsimp only at E N F O j hw ⊢;obtain ⟨k,rfl⟩:=Int.eq_ofNat_of_zero_le F;obtain ⟨I,rfl⟩:=Int.eq_ofNat_of_zero_le E;simp only [Int.toNat_natCast] at j hw;refine ⟨by trivial,fun g=>?_,fun g=>?_⟩
  ·have g:k<m:=by simpa using g
   refine (hy.le (U.trans W)).rd k rfl (by omega) ?_;have B:=hy.fk.get (i:=k) (by omega);have Ve:=s.get (i:=i+k) (by omega)
   have P:d[i+k]'(by omega)=es[i+k]'(by omega):=by
    have A:d[i+k]?=es[i+k]?:=by
     have:=congrArg (fun l=>l[0]?) j;simpa [List.getElem?_drop] using this
    rw [List.getElem?_eq_getElem (by omega),List.getElem?_eq_getElem (by omega)] at A;exact Option.some.inj A
   simp (disch:=omega) only [aw];have u:((i:Int)+k).toNat=i+k:=by omega
   rw [u];refine ⟨⟨by omega,by omega⟩,((d[i+k]'(by omega):Nat):Int),by rw [Nat.zero_add,Nat.mul_one];exact gg (by omega),⟨by omega,by omega⟩,by simp;omega,by omega,?_⟩;have a0:xs[i]*ys[k]<=4294967295*4294967295:=Nat.mul_le_mul (by omega) (by omega);have Ph:(xs[i]:Int)*(ys[k]:Int)=((xs[i]*ys[k]:Nat):Int):=by simp
   obtain ⟨t,ht⟩:∃t:Nat,t=I+xs[i]*ys[k]+d[i+k]'(by omega):=⟨_,rfl⟩;rw [Nat.pow_add] at hw;have f:=C5 hw ht
   have J:u64.wrap (u64.wrap (u64.wrap (u64.wrap (xs[i]:Int)*u64.wrap (ys[k]:Int))+u64.wrap ((d[i+k]'(by omega):Nat):Int))+(I:Int))=(t:Int):=by
    clear f;generalize xs[i]*ys[k]=pq at *;rw [aN (x:=(xs[i]:Int)) (by omega),aN (x:=(ys[k]:Int)) (by omega),Ph,aN (x:=((pq:Nat):Int)) (by omega)];simp (disch:=omega) only [aN];omega
   rw [J,iA,lN];refine ⟨(_,_,_),?_,by (try dsimp only);and_intros<;>first|exact True.intro|rfl,?_⟩
   ·(try dsimp only);omega
   ·(try dsimp only)
    have H:((k:Int)+1).toNat=k+1:=by omega
    refine ⟨by omega,by omega,by omega,by omega,d.set (i+k) (t%4294967296),?_,by simpa using G,s.set _ _ (by omega),?_,?_⟩
    ·rw [←bD];simp
    ·rw [H,List.drop_set_of_lt (by omega)];have:=congrArg (List.drop 1) j;simpa [List.drop_drop,Nat.add_comm,Nat.add_assoc,Nat.add_left_comm] using this
    ·rw [H,show i+(k+1)=i+k+1 from by omega,aJ _ _ _ (by omega),au es (i+k) (by omega),au ys k (by omega),←P,Nat.pow_succ];have K:((t:Int) / 4294967296).toNat=t / 4294967296:=by omega
     rw [K,Nat.pow_add,f]
  ·have g:k=m:=by simp at g;omega
   subst g;simp (disch:=omega) only [aw];have u:((i:Int)+k).toNat=i+k:=by omega
   rw [u];refine ⟨⟨by omega,by omega⟩,by simp;omega,(_,_),?_,by (try dsimp only);and_intros<;>first|exact True.intro|rfl,?_⟩
   ·(try dsimp only);omega
   ·(try dsimp only)
    have Q:((i:Int)+1).toNat=i+1:=by omega
    refine ⟨by omega,by omega,d.set (i+k) I,?_,by simpa using G,s.set _ _ (by omega),?_⟩
    ·rw [←bD,qB (by omega)];simp
    ·rw [Q,show i+1+k=i+k+1 from by omega,aJ _ _ _ (by omega),hw,D,au xs i (by omega),aq (ds:=ys) (by omega)];grind
 ·have v:i=n:=by simp at v;omega
  subst v;intro V6 W bk R;refine (cW (RD.bw R o (n:=i+m) (c:=i+m) (by omega) (Nat.le_refl _)) (by omega)).mono ?_;rintro r V7 l7 ⟨k,rfl,g⟩;refine ⟨_,_,_,rfl,fun _ V8 l8=>⟨_,_,_,rfl,?_⟩⟩;rw [aR o] at g;rw [aq (by omega),aq (by omega)] at D;rw [D] at g;exact g.le l8
theorem kW {V:View}{p:OA}{n c:Nat}{ds:List Nat}(h:RD V p n c ds)(hm:ds.length<=1099511627776) :
  ae prog 181 #[.slice p n c] V fun r V'=>r=.tuple #[.int .u64 ((if n<=2 then val ds else 0:Nat):Int),.bool (decide (n<=2))]:=by
 have u:=h.len;refine Ed p n c V _ ⟨fun e k l=>?_,fun e=>⟨fun f=>?_,fun f=>⟨fun d=>?_,fun d k l=>?_⟩⟩⟩
 ·have e:n=0:=by simp at e;omega
  subst e;have:ds=[]:=List.length_eq_zero_iff.1 (by omega);subst this;rfl
 ·have f:n=1:=by simp at f;omega
  subst f;obtain ⟨a,rfl⟩:=lq (ds:=ds) (by omega);have o:=h.fk.get (i:=0) (by simp);refine Dk h (by simp) fun k l=>?_;simp only [List.getElem_cons_zero] at o ⊢;have m:u64.wrap (a:Int)=a:=aN (by omega);rw [m,if_pos (by omega),decide_eq_true (by omega)];simp
 ·have d:n=2:=by simp at d;omega
  subst d;obtain ⟨a,b,rfl⟩:=FJ (ds:=ds) (by omega);have g:=h.fk.get (i:=0) (by simp);have j:=h.fk.get (i:=1) (by simp);refine MC h 1 (by simp) ⟨by omega,Dk h (by simp) fun k l=>?_⟩;simp only [List.getElem_cons_zero,List.getElem_cons_succ] at g j ⊢;have m:u64.wrap (a:Int)=a:=aN (by omega);have q:u64.wrap (b:Int)=b:=aN (by omega);have s:((2:Int)^32)=4294967296:=by decide
  have t:u64.wrap ((b:Int)*4294967296)=(b:Int)*4294967296:=aN (by omega);rw [m,q,s,t,Dc _ _ j g,if_pos (by omega),decide_eq_true (by omega)];simp only [bq,eA];congr 4;omega
 ·have d:¬n<=2:=by simp at e f d;omega
  rw [if_neg d,decide_eq_false d];rfl
theorem HN (b:Nat):0 ||| b=b:=Nat.zero_or b
theorem kV {V:View}{p:OA}{n c:Nat}{ds:List Nat}(hx:RD V p n c ds)(hm:ds.length<=1099511627776)(k:Nat)(hk:k<=35184372088832) :
  ae prog 228 #[.slice p n c,.int .i64 (k:Int)] V fun r V'=>∃p' n' c',r=.slice p' n' c'/\RN V' p' n' c' (val ds*2^k):=by
 have hl:=hx.len;have A:(k:Int).tdiv 32=((k / 32:Nat):Int):=by rw [Int.tdiv_eq_ediv_of_nonneg (by omega)];omega
 have B:(k:Int).tmod 32=((k%32:Nat):Int):=by rw [Int.tmod_eq_emod_of_nonneg (by omega)];omega
 have vc:=D3 p n c k V
 have g:val ds*2^k=4294967296^(k / 32)*val ds*2^(k%32):=by
  have:2^k=4294967296^(k / 32)*2^(k%32):=by
   rw [show (4294967296:Nat)=2^32 from rfl,←Nat.pow_mul,←Nat.pow_add,Nat.div_add_mod]
  rw [this];grind
 rw [g];have D:k / 32<=1099511627776:=by omega
 have o:k%32<32:=Nat.mod_lt _ (by omega);rw [A,B] at vc;generalize k / 32=w at *;generalize k%32=r at *;clear A B g;have E:i64.wrap (w:Int)=(w:Int):=aw (by omega);have F:i64.wrap ((w:Int)+n)=((w+n:Nat):Int):=by rw [aw (by omega)];omega
 have G:i64.wrap (((w+n:Nat):Int)+1)=((w+n+1:Nat):Int):=by rw [aw (by omega)];omega
 have H:u64.wrap (r:Int)=(r:Int):=aN (by omega)
 have h:(min r IntKind.u64.bits)=r:=by
  show min _ 64=r;omega
 have I:((2:Int)^r)=((2^r:Nat):Int):=by simp
 simp only [E,F,G,H,Int.toNat_natCast,h,I,cK] at vc
 refine vc _ ⟨by omega,by omega,by omega,by omega,by omega,fun z V'=>0<=z.1/\z.1<=n/\∃es:List Nat,z.2=aB es/\es.length=w+n+1/\bV es/\(∀c,es[z.1.toNat+w]?=some c->c<2^r)/\(∀j c,z.1.toNat+w<j->es[j]?=some c->c=0) /\
   val (es.take (z.1.toNat+w+1))=4294967296^w*val (ds.take z.1.toNat)*2^r,fun z=>n-z.1.toNat,
   ⟨(0,aB (List.replicate (w+n+1) 0)),by (try dsimp only);and_intros<;>first|exact True.intro|rfl,by (try dsimp only);omega,by (try dsimp only);omega,_,rfl,by simp,bV.rep _,?_,?_,?_⟩,?_⟩
 ·intro c a;rw [List.getElem?_replicate] at a;split at a
  ·cases a;exact Nat.two_pow_pos r
  ·cases a
 ·intro j c _ a;rw [List.getElem?_replicate] at a;split at a
  ·cases a;rfl
  ·cases a
 ·simp [List.take_replicate,uz]
 rintro ⟨i,vs⟩ V4 J ⟨l,q,es,rfl,s,d,a,m,e⟩;dsimp only at l q a m e ⊢;obtain ⟨i,rfl⟩:=Int.eq_ofNat_of_zero_le l;simp only [Int.toNat_natCast] at a m e;refine ⟨by trivial,fun f=>?_,fun f=>?_⟩
 ·have f:i<n:=by simpa using f
  have K:i64.wrap ((w:Int)+i)=((i+w:Nat):Int):=by rw [aw (by omega)];omega
  have L:i64.wrap (((i+w:Nat):Int)+1)=((i+w+1:Nat):Int):=by rw [aw (by omega)];omega
  have M:i64.wrap ((i:Int)+1)=((i+1:Nat):Int):=by rw [aw (by omega)];omega
  simp only [K,L,M,Int.toNat_natCast,Nat.mul_one,Nat.zero_add];refine MC (hx.le J) i (by omega) ?_;have N:=hx.fk.get (i:=i) (by omega);have t:=a (es[i+w]'(by omega)) (List.getElem?_eq_getElem _);have u:=m (i+w+1) (es[i+w+1]'(by omega)) (by omega) (List.getElem?_eq_getElem _);obtain ⟨O,g2,P,g4⟩:=Dy N o t;have hmul:((ds[i]:Nat):Int)*((2^r:Nat):Int)=((ds[i]*2^r:Nat):Int):=by simp
  have Q:u64.wrap ((ds[i]:Nat):Int)=((ds[i]:Nat):Int):=aN (by omega);have R:u64.wrap ((ds[i]*2^r:Nat):Int)=((ds[i]*2^r:Nat):Int):=aN (by omega);have S:u32.wrap ((ds[i]*2^r:Nat):Int)=((ds[i]*2^r%4294967296:Nat):Int):=by rw [iA];omega
  have T:u32.wrap (((ds[i]*2^r:Nat):Int).fdiv (2^32))=((ds[i]*2^r / 4294967296:Nat):Int):=by rw [lN,iA];omega
  simp only [Q,hmul,R,S,T];have v:ds[i]*2^r / 4294967296<4294967296:=by omega
  have U:=Nat.mod_add_div (ds[i]*2^r) 4294967296;have x:val (List.take (i+1) ds)=val (List.take i ds)+4294967296^i*ds[i]:=au _ _ (by omega);have W:val (es.take (i+w+1))=val (es.take (i+w))+4294967296^(i+w)*es[i+w]'(by omega):=au _ _ (by omega);have y:ds[i]*2^r%4294967296<4294967296:=Nat.mod_lt _ (by omega);generalize ds[i]*2^r%4294967296=lo at *;generalize ds[i]*2^r / 4294967296=hi at *;refine ⟨by omega,by omega,⟨by omega,by omega⟩,((es[i+w]'(by omega):Nat):Int),gg (by omega),⟨by omega,by omega⟩,by simp;omega,by omega,⟨by omega,by omega⟩,((es[i+w+1]'(by omega):Nat):Int),?_,by omega,⟨by omega,by omega⟩,by simp;omega,?_⟩
  ·rw [List.getElem?_set_ne (by omega)];exact gg (by omega)
  have X:es[i+w]'(by omega)<4294967296:=d.get (by omega);rw [Fk _ _ X y,O,u,Fk _ _ (by omega) v,HN];refine ⟨(((i+1:Nat):Int),aB ((es.set (i+w) (es[i+w]'(by omega)+lo)).set (i+w+1) hi)),?_,?_,?_⟩
  ·(try dsimp only);omega
  ·(try dsimp only);and_intros<;>first|exact True.intro|rfl|rw [←bD,←bD]
  ·(try dsimp only)
   refine ⟨by omega,by omega,_,rfl,by simpa using s,(d.set _ _ (by omega)).set _ _ (by omega),?_,?_,?_⟩
   ·intro c b;simp only [Int.toNat_natCast] at b;rw [show i+1+w=i+w+1 from by omega,List.getElem?_set_self (by simp;omega)] at b;cases b;exact P
   ·intro j c Y b;simp only [Int.toNat_natCast] at Y;rw [List.getElem?_set_ne (by omega),List.getElem?_set_ne (by omega)] at b;exact m j c (by omega) b
   ·simp only [Int.toNat_natCast];rw [show i+1+w+1=i+w+1+1 from by omega,aJ _ _ _ (by simp;omega),aJ _ _ _ (by omega),x];rw [W] at e;have Z:4294967296^(i+w+1)*hi=4294967296^(i+w)*(4294967296*hi):=by rw [Nat.pow_succ];grind
    rw [Z,Nat.mul_add,←Nat.add_assoc,e,Nat.add_assoc,←Nat.mul_add,U,Nat.pow_add];grind
 ·have f:i=n:=by simp at f;omega
  subst f;intro V5 l5 bk hb;refine (cW (RD.bw hb d (n:=w+i+1) (c:=w+i+1) (by omega) (Nat.le_refl _)) (by omega)).mono ?_;rintro r' V6 l6 ⟨k',rfl,C⟩;refine ⟨_,_,_,rfl,fun _ V7 l7=>⟨_,_,_,rfl,?_⟩⟩;rw [aq (by omega),aq (by omega)] at e;rw [aR d,e] at C;exact C.le l7
theorem ik (a:Addr)(m n:Nat):(a.add m).add n=a.add (m+n):=by
 unfold Addr.add;by_cases b:m=0
 ·subst b;simp
 ·by_cases c:n=0
  ·subst c;simp [b]
  ·rw [if_neg b,if_neg c,if_neg (by omega)];simp only [Nat.add_assoc]
theorem Oj {V:View}{p:OA}{n c:Nat}{ds:List Nat}(h:RD V p n c ds){k:Nat}(hk:k<n):RD V (kx p c k 1) (n-k) (c-k) (ds.drop k):=by
 have g:=h.len;have j:=h.cap;have e:kx p c k 1=ah p k:=by unfold kx;rw [if_neg (by omega),Nat.mul_one]
 rw [e];refine ⟨by simp;omega,by omega,fun i v b=>?_,h.fk.drop k,fun l=>?_⟩
 ·rw [Ia,List.getElem?_drop] at b;obtain ⟨d,f,a⟩:=h.sl _ _ b;refine ⟨d.add k,by rw [f];rfl,?_⟩;rw [ik];exact a
 ·have:p.isNone=true:=by cases p<;>simp_all [ah]
  have:=h.JZ this;omega
theorem Cn {V:View}{p:OA}{n c:Nat}{ds:List Nat}(hd:RD V p n c ds)(hm:ds.length<=1099511627776)(k:Nat)(hk:k<=35184372088832) :
  ae prog 229 #[.slice p n c,.int .i64 (k:Int)] V fun r V'=>∃p' n' c',r=.slice p' n' c'/\RN V' p' n' c' (val ds / 2^k):=by
 have U:=hd.len;have F:(k:Int).tdiv 32=((k / 32:Nat):Int):=by rw [Int.tdiv_eq_ediv_of_nonneg (by omega)];omega
 have v:(k:Int).tmod 32=((k%32:Nat):Int):=by rw [Int.tmod_eq_emod_of_nonneg (by omega)];omega
 have vc:=BL p n c k V
 have o:val ds / 2^k=val ds / 4294967296^(k / 32) / 2^(k%32):=by
  rw [Nat.div_div_eq_div_mul,show (4294967296:Nat)=2^32 from rfl,←Nat.pow_mul,←Nat.pow_add,Nat.div_add_mod]
 rw [o];have J:k / 32<=1099511627776:=by omega
 have y:k%32<32:=Nat.mod_lt _ (by omega);rw [F,v] at vc;generalize k / 32=w at *;generalize k%32=r at *;clear F v o;have K:i64.wrap (w:Int)=(w:Int):=aw (by omega);have L:u64.wrap (r:Int)=(r:Int):=aN (by omega)
 have q:(min r IntKind.u64.bits)=r:=by
  show min _ 64=r;omega
 simp only [K,L,Int.toNat_natCast,q,cK] at vc;refine vc _ ⟨by omega,fun h W X=>?_,fun h=>?_⟩
 ·have h:n<=w:=by simp at h;omega
  have a:=gj hd.fk;have:4294967296^ds.length<=4294967296^w:=Nat.pow_le_pow_right (by omega) (by omega);rw [Nat.div_eq_of_lt (Nat.lt_of_lt_of_le a this),Nat.zero_div];exact ⟨_,_,_,rfl,RD.nil⟩
 ·have h:w<n:=by simp at h;omega
  clear vc
  have s:val ds / 4294967296^w=val (ds.drop w):=by
   have e:val ds=val (ds.take w++ds.drop w):=by rw [List.take_append_drop]
   have a:=gj (hd.fk.take w);rw [df] at e;rw [List.length_take,Nat.min_eq_left (by omega)] at e a;rw [e,Nat.add_mul_div_left _ _ (Nat.pow_pos (by omega)),Nat.div_eq_of_lt a,Nat.zero_add]
  rw [s];have j:=Oj hd h;have M:=j.len;clear s;generalize kx p c w 1=sp at *;generalize ds.drop w=xs at *;generalize hN:n-w=N at *
  refine ⟨by omega,by omega,⟨by omega,by omega⟩,by omega,by omega,by omega,fun z V'=>0<=z.1/\z.1<=N/\∃es:List Nat,z.2=aB es/\es.length=N/\bV es /\
   val (es.take z.1.toNat)+4294967296^z.1.toNat*(val (xs.drop z.1.toNat) / 2^r)=val xs / 2^r,fun z=>N-z.1.toNat,
   ⟨(0,aB (List.replicate N 0)),by (try dsimp only);and_intros<;>first|exact True.intro|rfl,by (try dsimp only);omega,by (try dsimp only);omega,_,rfl,by simp,bV.rep _,by simp⟩,?_⟩
  rintro ⟨i,Z⟩ V4 G ⟨t,A,es,rfl,B,f,b⟩;dsimp only at t A b ⊢;obtain ⟨i,rfl⟩:=Int.eq_ofNat_of_zero_le t;simp only [Int.toNat_natCast] at b;refine ⟨by trivial,fun m=>?_,fun m=>?_⟩
  ·have m:i<N:=by simpa using m
   have O:i64.wrap ((i:Int)+1)=((i+1:Nat):Int):=by rw [aw (by omega)];omega
   simp only [O,Int.toNat_natCast,Nat.mul_one,Nat.zero_add];refine MC (j.le G) i (by omega) ?_;have H:=j.fk.get (i:=i) (by omega);refine ⟨fun z V'=>z=((xs[i]+4294967296*(xs[i+1]?).getD 0:Nat):Int),⟨fun d=>?_,fun d=>?_⟩,?_⟩
   ·have d:i+1<N:=by simp at d;omega
    have C:=j.fk.get (i:=i+1) (by omega)
    have E:bz .or .u64 (u64.wrap ((xs[i]:Nat):Int)) (u64.wrap (u64.wrap ((xs[i+1]:Nat):Int)*2^32))=((xs[i]+4294967296*(xs[i+1]?).getD 0:Nat):Int):=by
     have v:((2:Int)^32)=4294967296:=by decide
     rw [v,aN (by omega),aN (x:=((xs[i+1]:Nat):Int)) (by omega),aN (by omega),J_ _ _ C H,List.getElem?_eq_getElem (by omega),Option.getD_some];omega
    refine MC (j.le G) (i+1) (by omega) ⟨by omega,((xs[i]+4294967296*(xs[i+1]?).getD 0:Nat):Int),?_,rfl⟩
    (try dsimp only);and_intros<;>first|exact True.intro|exact E|rfl
   ·have d:N<=i+1:=by simp at d;omega
    have E:u64.wrap ((xs[i]:Nat):Int)=((xs[i]+4294967296*(xs[i+1]?).getD 0:Nat):Int):=by
     rw [aN (by omega),List.getElem?_eq_none (by omega)];simp
    refine ⟨((xs[i]+4294967296*(xs[i+1]?).getD 0:Nat):Int),?_,rfl⟩
    (try dsimp only);and_intros<;>first|exact True.intro|exact E|rfl
   rintro _ P Q rfl;have u:=Dz (Y:=val (xs.drop (i+1))) H y;rw [qC j.fk] at u
   have g:val (xs.drop i)=xs[i]+4294967296*val (xs.drop (i+1)):=by
    rw [List.drop_eq_getElem_cons (by omega),bq]
   rw [g,u] at b;rw [fV,iA];obtain ⟨D,I⟩:∃D,D=(xs[i]+4294967296*(xs[i+1]?).getD 0) / 2^r%4294967296:=⟨_,rfl⟩;have R:(((xs[i]+4294967296*(xs[i+1]?).getD 0) / 2^r:Nat):Int)%4294967296=(D:Int):=by rw [I];omega
   rw [R];rw [←I] at b;refine ⟨by trivial,by omega,⟨by omega,by omega⟩,by simp;omega,(((i+1:Nat):Int),aB (es.set i D)),?_,?_,?_⟩
   ·(try dsimp only);omega
   ·(try dsimp only);and_intros<;>first|exact True.intro|rfl|rw [←bD]
   ·(try dsimp only)
    refine ⟨by omega,by omega,_,rfl,by simpa using B,f.set _ _ (by omega),?_⟩;simp only [Int.toNat_natCast];rw [aJ _ _ _ (by omega),←b,Nat.pow_succ,Nat.mul_add,Nat.add_assoc,Nat.mul_assoc]
  ·have m:i=N:=by simp at m;omega
   subst m;intro P Q bk S;refine (cW (RD.bw S f (n:=i) (c:=i) (by omega) (Nat.le_refl _)) (by omega)).mono ?_;rintro r' V6 l6 ⟨k',rfl,d⟩;refine ⟨_,_,_,rfl,fun _ V7 T=>⟨_,_,_,rfl,?_⟩⟩;rw [aq (by omega),List.drop_of_length_le (l:=xs) (i:=i) (by omega)] at b
   have b:val es=val xs / 2^r:=by
    rw [←b,eA,Nat.zero_div,Nat.mul_zero,Nat.add_zero]
   rw [aR f,b] at d;exact d.le T
end Go.Proofs.Tryz
namespace Go.Big
theorem sZ {ds:List Nat}(hd:bV ds)(w:Nat)(hw:w<=ds.length):val ds / 4294967296^w=val (ds.drop w):=by
 have e:val ds=val (ds.take w++ds.drop w):=by rw [List.take_append_drop]
 have a:=gj (hd.take w);rw [df] at e;rw [List.length_take,Nat.min_eq_left (by omega)] at e a;rw [e,Nat.add_mul_div_left _ _ (Nat.pow_pos (by omega)),Nat.div_eq_of_lt a,Nat.zero_add]
theorem RU {R n:Nat}(h:(ai R).length=n+2):R / 4294967296^n=(ai R)[n+1]'(by omega)*4294967296+(ai R)[n]'(by omega):=by
 have:=sZ (aA R) n (by omega);rw [af] at this;rw [this,List.drop_eq_getElem_cons (by omega),List.drop_eq_getElem_cons (i:=n+1) (by omega),List.drop_of_length_le (by omega)];simp only [bq,eA];omega
theorem NU {R n:Nat}(h:(ai R).length=n+1):R / 4294967296^n=(ai R)[n]'(by omega):=by
 have:=sZ (aA R) n (by omega);rw [af] at this;rw [this,List.drop_eq_getElem_cons (by omega),List.drop_of_length_le (by omega)];simp only [bq,eA];omega
theorem RT {R n:Nat}(h:(ai R).length<=n):R / 4294967296^n=0:=Nat.div_eq_of_lt (aD.1 h)
theorem FH {V n:Nat}(h:(ai V).length=n+1):(ai V)[n]'(by omega)*4294967296^n<=V:=by
 have:=NU h;rw [←this];exact Nat.div_mul_le_self _ _
theorem Jm {R V top P W:Nat}(hV:top*P<=V)(ht:0<top)(hP:0<P)(hW:0<W):R / (V*W)<=R / (P*W) / top:=by
 rw [Nat.le_div_iff_mul_le ht,Nat.le_div_iff_mul_le (Nat.mul_pos hP hW)];have a:R / (V*W)*(V*W)<=R:=Nat.div_mul_le_self _ _;have b:R / (V*W)*(top*P*W)<=R / (V*W)*(V*W):=Nat.mul_le_mul_left _ (Nat.mul_le_mul_right _ hV)
 have c:R / (V*W)*top*(P*W)=R / (V*W)*(top*P*W):=by
  generalize R / (V*W)=q;rw [Nat.mul_assoc q top,←Nat.mul_assoc top P W]
 omega
theorem HJ {A V W D R q R':Nat}(h:A=V*(W*4294967296*D)+R)(hq:R=V*q*W+R'):A=V*(W*(q+4294967296*D))+R':=by
 subst hq;rw [h];grind
theorem JK {x y s Q R:Nat}(h:x*2^s=y*2^s*Q+R)(hR:R<y*2^s):Q=x / y/\R / 2^s=x%y:=by
 have c:=Nat.two_pow_pos s
 have f:0<y:=by
  rcases Nat.eq_zero_or_pos y with e|e
  ·subst e;simp at hR
  ·exact e
 have g:y*2^s*Q=(y*Q)*2^s:=by grind
 rw [g] at h
 have i:y*Q<=x:=by
  rcases Nat.lt_or_ge x (y*Q) with a|a
  ·have:(x+1)*2^s<=y*Q*2^s:=Nat.mul_le_mul_right _ a;rw [Nat.add_mul] at this;omega
  ·exact a
 obtain ⟨d,rfl⟩:=Nat.exists_eq_add_of_le i;rw [Nat.add_mul] at h;have j:R=d*2^s:=by omega
 subst j;have b:d<y:=Nat.lt_of_mul_lt_mul_right hR;rw [Nat.mul_div_cancel _ c];constructor
 ·rw [Nat.mul_add_div f,Nat.div_eq_of_lt b,Nat.add_zero]
 ·rw [Nat.mul_add_mod,Nat.mod_eq_of_lt b]
theorem N0 (j:Nat):2^(32*j)=4294967296^j:=by rw [Nat.pow_mul]
theorem EV {R V W g:Nat}(Qd:0<V*W)(h:V*g*W<=R)(hq:R / (V*W)<=g):g=R / (V*W):=by
 have:g<=R / (V*W):=by
  rw [Nat.le_div_iff_mul_le Qd];have:g*(V*W)=V*g*W:=by grind
  omega
 omega
theorem Jn {R V W g:Nat}(Qd:0<V*W)(h:R<V*g*W):R / (V*W)<g:=by
 rw [Nat.div_lt_iff_lt_mul Qd];have:g*(V*W)=V*g*W:=by grind
 omega
theorem Fz {R V W:Nat}:R=V*(R / (V*W))*W+R%(V*W):=by
 have:=Nat.div_add_mod R (V*W)
 have e:V*(R / (V*W))*W=V*W*(R / (V*W)):=by
  generalize R / (V*W)=q;grind
 omega
theorem iu {a b:Nat}:(ai (a*b)).length<=(ai a).length+(ai b).length:=by
 rw [aD,Nat.pow_add];have c:a<4294967296^(ai a).length:=aD.1 (Nat.le_refl _);have d:b<4294967296^(ai b).length:=aD.1 (Nat.le_refl _);exact Nat.mul_lt_mul'' c d
theorem AX (j:Nat):(ai (4294967296^j)).length<=j+1:=by
 rw [aD];exact Nat.pow_lt_pow_right (by omega) (by omega)
end Go.Big
namespace Go.Proofs.Tryz
open Go.Eng Go.Big
theorem rdG {V:View}{p:OA}{n c:Nat}{ds:List Nat}(h:RD V p n c ds){i:Int}{K:Int->Prop}(j d:Nat)(hj:i=j)(hn:ds[j]?=some d)
  (hK:K (d:Int)):(p.isSome=true)/\(0<=i/\i<(n:Int))/\∃x:Int,(∃a,ah p (i.toNat*1)=some a/\V.at a (.int .u32 x))/\K x:=by
 have b:j<ds.length:=by
  rcases Nat.lt_or_ge j ds.length with h|h
  ·exact h
  ·rw [List.getElem?_eq_none h] at hn;cases hn
 refine h.rd j hj b ?_;rw [List.getElem?_eq_getElem b] at hn;cases hn;exact hK
theorem H9 {W n:Nat}(h:(ai W).length=n+1):∃top,(ai W)[n]?=some top/\top≠0/\top<4294967296/\top*4294967296^n<=W:=by
 refine ⟨(ai W)[n]'(by omega),List.getElem?_eq_getElem _,?_,(aA W).get _,FH h⟩;have:=(je W).last (by omega);simpa [h] using this
structure yZ (A V L:Nat) (R:Nat) (j:Nat) (es:List Nat):Prop where
 len:es.length=L
 fk:bV es
 lt:R<V*4294967296^j
 eq:A=V*(4294967296^j*val (es.drop j))+R
theorem yZ.step {A V L R j:Nat}{es:List Nat}(h:yZ A V L R (j+1) es)(hj:j<L)(hV:0<V) :
  R / (V*4294967296^j)<4294967296/\yZ A V L (R-V*(R / (V*4294967296^j))*4294967296^j) j (es.set j (R / (V*4294967296^j))):=by
 have c:0<4294967296^j:=Nat.pow_pos (by omega);have a:0<V*4294967296^j:=Nat.mul_pos hV c
 have b:R / (V*4294967296^j)<4294967296:=by
  rw [Nat.div_lt_iff_lt_mul a];have:=h.lt;rw [Nat.pow_succ] at this
  have e:4294967296*(V*4294967296^j)=V*(4294967296^j*4294967296):=by
   generalize 4294967296^j=w;grind
  omega
 have d:=Fz (R:=R) (V:=V) (W:=4294967296^j);have hm:=Nat.mod_lt R a;have he:R-V*(R / (V*4294967296^j))*4294967296^j=R%(V*4294967296^j):=by omega
 refine ⟨b,⟨by simpa using h.len,h.fk.set _ _ b,by rw [he];exact hm,?_⟩⟩;have f:=h.len;rw [List.drop_eq_getElem_cons (by simp;omega),List.getElem_set_self,List.drop_set_of_lt (by omega),bq,he];exact HJ (by have:=h.eq;rwa [Nat.pow_succ] at this) d
theorem Ky {R V j:Nat}(h:R<V*4294967296^(j+1)):(ai R).length<=(ai V).length+j+1:=by
 have a:V*4294967296^(j+1)<=4294967296^(ai V).length*4294967296^(j+1):=Nat.mul_le_mul_right _ (Nat.le_of_lt (aD.1 (Nat.le_refl _)));rw [←Nat.pow_add] at a;have:=aD.2 (Nat.lt_of_lt_of_le h a);omega
theorem Ml {R n:Nat}(h:(ai R).length<=n+2):R / 4294967296^n<18446744073709551616:=by
 rw [Nat.div_lt_iff_lt_mul (Nat.pow_pos (by omega))];have:=aD.1 h;rw [Nat.pow_succ,Nat.pow_succ] at this
 have e:4294967296^n*4294967296*4294967296=18446744073709551616*4294967296^n:=by
  generalize 4294967296^n=w;omega
 omega
theorem EJ {V:View}{p q:OA}{n c m e:Nat}{x y:Nat}(hx:RN V p n c x)(hy:RN V q m e y)(hm:(ai x).length<=274877906944)(hy0:0<y)(hle:(ai y).length<=(ai x).length) :
  ae prog 187 #[.slice p n c,.slice q m e] V fun r V'=>∃p1 n1 c1 p2 n2 c2,r=.tuple #[.slice p1 n1 c1,.slice p2 n2 c2]/\RN V' p1 n1 c1 (x / y)/\RN V' p2 n2 c2 (x%y):=by
 have a2:=hx.len;have zU:=hy.len
 have c3:0<m:=by
  rcases Nat.eq_zero_or_pos m with h|h
  ·have:=bH.1 (List.length_eq_zero_iff.1 (zU▸h));omega
  ·exact h
 have vc:=Eb p n c q m e V;have w1:i64.wrap ((m:Int)-1)=((m-1:Nat):Int):=by rw [aw (by omega)];omega
 have w2:i64.wrap ((n:Int)-m)=((n-m:Nat):Int):=by rw [aw (by omega)];omega
 have w3:i64.wrap (((n-m:Nat):Int)+1)=((n-m+1:Nat):Int):=by rw [aw (by omega)];omega
 have w4:i64.wrap (((n-m+1:Nat):Int)-1)=((n-m:Nat):Int):=by rw [aw (by omega)];omega
 simp only [w1,w2,w3,Int.toNat_natCast,w4,cK] at vc;obtain ⟨L,hL⟩:∃L,L=n-m+1:=⟨_,rfl⟩;rw [←hL] at vc;refine vc _ ?_;clear vc;refine hy.rd (m-1) rfl (by omega) fun V1 O=>(gx _ ((aA y).get (by omega))).mono ?_;rintro r V2 P rfl;have a3:bG ((ai y)[m-1]'(by omega))<=32:=fR.2 (by have:=(aA y).get (i:=m-1) (by omega);omega);obtain ⟨s,hs⟩:∃s:Nat,(32:Int)-(bG ((ai y)[m-1]'(by omega)):Int)=s:=⟨32-bG ((ai y)[m-1]'(by omega)),by omega⟩;have Mc:s<=32:=by omega
 rw [hs];clear hs a3;refine ⟨_,rfl,fun V3 l3=>(kV (hy.le (O.trans (P.trans l3))) (by omega) s (by omega)).mono ?_⟩;rintro r V4 l4 ⟨vp,d,vc,rfl,F⟩;rw [af] at F;refine ⟨_,_,_,rfl,fun V5 l5=>(kV (hx.le (O.trans (P.trans (l3.trans (l4.trans l5))))) (by omega) s (by omega)).mono ?_⟩;rintro r V6 l6 ⟨rp,N,rc,rfl,hr⟩;rw [af] at hr
 replace F:=F.le (l5.trans l6)
 have a4:=F.len;have S:=Nat.two_pow_pos s;have c4:2^s<=4294967296:=Nat.pow_le_pow_right (n:=2) (by omega) Mc;have Yu:0<y*2^s:=Nat.mul_pos hy0 S;have c5:(ai (2^s)).length<=2:=aD.2 (by omega);have c6:d<=m+2:=by have:=iu (a:=y) (b:=2^s);omega
 have c7:0<d:=by
  rcases Nat.eq_zero_or_pos d with h|h
  ·have:=bH.1 (List.length_eq_zero_iff.1 (a4▸h));omega
  ·exact h
 have G:yZ (x*2^s) (y*2^s) L (x*2^s) L (List.replicate L 0):=by
  refine ⟨by simp,bV.rep _,?_,by simp⟩;have h1:x<4294967296^n:=by rw [a2];exact aD.1 (Nat.le_refl _)
  have h2:4294967296^(m-1)<=y:=by rw [←sG];omega
  have v:4294967296^(m-1)*4294967296^L<=y*4294967296^L:=Nat.mul_le_mul_right _ h2;rw [←Nat.pow_add,show m-1+L=n from by omega] at v;have B:x*2^s<y*4294967296^L*2^s:=Nat.mul_lt_mul_of_pos_right (by omega) S
  have C:y*4294967296^L*2^s=y*2^s*4294967296^L:=by
   generalize 4294967296^L=w;grind
  omega
 have E:∀{Q R:Nat},x*2^s=y*2^s*Q+R->R<y*2^s->Q=x / y/\R / 2^s=x%y:=fun h1 h2=>JK h1 h2;generalize x*2^s=A at *;generalize y*2^s=W at *;have w5:i64.wrap ((d:Int)-1)=((d-1:Nat):Int):=by rw [aw (by omega)];omega
 simp only [w5,Int.toNat_natCast];refine ⟨_,_,_,rfl,?_⟩;obtain ⟨top,a5,YD,YE,Rj⟩:=H9 (W:=W) (n:=d-1) (by omega);refine rdG F (d-1) top rfl a5 ?_;have w6:u64.wrap (top:Int)=top:=aN (by omega);simp only [w6]
 refine ⟨by omega,by omega,by omega,fun z V'=>∃R:Nat,RN V' z.1 z.2.1 z.2.2.1 R/\-1<=z.2.2.2.1/\z.2.2.2.1<L/\∃es:List Nat,z.2.2.2.2=aB es/\yZ A W L R (z.2.2.2.1+1).toNat es,fun z=>(z.2.2.2.1+1).toNat,
  ⟨(rp,N,rc,((n-m:Nat):Int),aB (List.replicate L 0)),by (try dsimp only);and_intros<;>first|exact True.intro|rfl,A,hr,by (try dsimp only);omega,by (try dsimp only);omega,_,rfl,?_⟩,?_⟩
 ·(try dsimp only)
  rw [show (((n-m:Nat):Int)+1).toNat=L from by omega];exact G
 rintro ⟨rp,N,rc,j,vs⟩ V7 l7 ⟨R,H,a6,a7,es,rfl,o⟩;dsimp only at H a6 a7 o ⊢;have c8:=H.len;refine ⟨by trivial,fun v=>?_,fun v=>?_⟩
 ·have v:0<=j:=by simpa using v
  obtain ⟨j,rfl⟩:=Int.eq_ofNat_of_zero_le v;have o:yZ A W L R (j+1) es:=o;have a8:j<L:=by omega
  have T:=Ky o.lt;obtain ⟨hq,U⟩:=o.step a8 Yu;have w7:i64.wrap ((d:Int)+j)=((d-1+j+1:Nat):Int):=by rw [aw (by omega)];omega
  have w8:i64.wrap (((d-1+j+1:Nat):Int)-1)=((d-1+j:Nat):Int):=by rw [aw (by omega)];omega
  have w9:i64.wrap ((32:Int)*j)=((32*j:Nat):Int):=by rw [aw (by omega)];omega
  have WN:i64.wrap ((j:Int)-1)=(j:Int)-1:=aw (by omega);simp only [w7,w8,w9,WN,Int.toNat_natCast];have T:(ai R).length<=d-1+j+2:=by omega
  have a9:=Ml T;have hP:0<4294967296^(d-1):=Nat.pow_pos (by omega);have hW:0<4294967296^j:=Nat.pow_pos (by omega);have hg:=Jm (R:=R) Rj (by omega) hP hW;rw [←Nat.pow_add] at hg;have P:=@RU R (d-1+j);have O:=@NU R (d-1+j);have l0:=@RT R (d-1+j);have l:∀i (hi:i<(ai R).length),(ai R)[i]<4294967296:=fun i hi=>(aA R).get hi;generalize R / 4294967296^(d-1+j)=lead at *;refine ⟨fun z V'=>z=(lead:Int),⟨fun B=>?_,fun B=>?_⟩,?_⟩
  ·have B:d-1+j+1<N:=by simp at B;omega
   refine (H.rd (d-1+j+1) rfl (by omega) ⟨by omega,H.rd (d-1+j) rfl (by omega) ⟨(lead:Int),?_,rfl⟩⟩)
   have X:bz .or .u64 (u64.wrap (u64.wrap (((ai R)[d-1+j+1]'(by omega):Nat):Int)*2^32)) (u64.wrap (((ai R)[d-1+j]'(by omega):Nat):Int))=(lead:Int):=by
    have e3:((2:Int)^32)=4294967296:=by decide
    have g1:=l (d-1+j+1) (by omega);have Y:=l (d-1+j) (by omega);have:=P (by omega);rw [e3,aN (x:=(((ai R)[d-1+j+1]'(by omega):Nat):Int)) (by omega),aN (x:=(((ai R)[d-1+j]'(by omega):Nat):Int)) (by omega),aN (by omega),Dc _ _ g1 Y,this];omega
   (try dsimp only);and_intros<;>first|exact True.intro|exact X|rfl
  ·have B:N<=d-1+j+1:=by simp at B;omega
   refine ⟨fun z V'=>z=(lead:Int),⟨fun C=>?_,fun C=>?_⟩,?_⟩
   ·have C:d-1+j<N:=by simp at C;omega
    refine H.rd (d-1+j) rfl (by omega) ⟨(lead:Int),?_,rfl⟩
    have X:u64.wrap (((ai R)[d-1+j]'(by omega):Nat):Int)=(lead:Int):=by
     have Y:=l (d-1+j) (by omega);rw [aN (by omega),O (by omega)]
    (try dsimp only);and_intros<;>first|exact True.intro|exact X|rfl
   ·have C:N<=d-1+j:=by simp at C;omega
    have X:(0:Int)=(lead:Int):=by rw [l0 (by omega)];rfl
    refine ⟨(lead:Int),?_,rfl⟩
    (try dsimp only);and_intros<;>first|exact True.intro|exact X|rfl
   ·rintro _ V8 l8 rfl;refine ⟨by trivial,(lead:Int),?_,rfl⟩
    (try dsimp only);and_intros<;>first|exact True.intro|rfl
  rintro _ V9 Z rfl;clear P O l0 l;have QY:(lead:Int).tdiv (top:Int)=((lead / top:Nat):Int):=by rw [Int.tdiv_eq_ediv_of_nonneg (by omega)];omega
  have b0:lead / top<=lead:=Nat.div_le_self _ _;rw [QY];generalize lead / top=lt at *
  obtain ⟨D,a0,O6,Vi⟩:∃D:Nat,bS (u64.wrap (lt:Int)) 4294967295=(D:Int)/\D<4294967296/\R / (W*4294967296^j)<=D:=by
   rw [aN (by omega)];unfold bS;split
   ·exact ⟨4294967295,rfl,by omega,by omega⟩
   ·exact ⟨lt,rfl,by omega,hg⟩
  rw [a0];clear a0 QY b0 hg a9;have Yv:0<W*4294967296^j:=Nat.mul_pos Yu hW;have u:∀g:Nat,g<4294967296->(ai g).length<=1:=fun g hg=>aD.2 (by omega);refine ⟨by trivial,by omega,fun gu t=>(cX D (by omega)).mono ?_⟩;rintro r fg bF ⟨gp,gn,gc,rfl,b5⟩;refine ⟨_,_,_,rfl,fun ib I=>(cz (F.le (l7.trans (Z.trans (t.trans (bF.trans I))))) (b5.le I) (by have:=u D O6;omega)).mono ?_⟩;rintro r lG ck ⟨pp,pn,pc,rfl,Tu⟩;rw [af,af] at Tu;have J:=fun g=>iu (a:=W) (b:=g);refine ⟨_,_,_,rfl,fun j8 dF=>(kV (Tu.le dF) (by have:=u D O6;have:=J D;omega) (32*j) (by omega)).mono ?_⟩;rintro r kK dw ⟨tp,tn,tc,rfl,Yl⟩;rw [af,N0] at Yl;have Q6:=H.le (Z.trans (t.trans (bF.trans (I.trans (ck.trans (dF.trans dw))))));have Vx:=F.le (l7.trans (Z.trans (t.trans (bF.trans (I.trans (ck.trans (dF.trans dw)))))))
  refine ⟨_,_,_,rfl,fun z V'=>∃g:Nat,z.1=g/\g<4294967296/\R / (W*4294967296^j)<=g/\RN V' z.2.1 z.2.2.1 z.2.2.2 (W*g*4294967296^j),fun z=>z.1.toNat,
   ⟨((D:Int),tp,tn,tc),by (try dsimp only);and_intros<;>first|exact True.intro|rfl,D,rfl,O6,Vi,Yl⟩,?_⟩
  rintro ⟨_,tp,tn,tc⟩ mS dh ⟨g,rfl,b6,b7,ht⟩;dsimp only at ht ⊢
  have b8:(ai (W*g*4294967296^j)).length<=1099511627776:=by
   have h1:=iu (a:=W*g) (b:=4294967296^j);have h2:=AX j;have v:=J g;have B:=u g b6;omega
  refine ⟨by trivial,fun pk cZ=>(iG (ht.le cZ) (Q6.le (dh.trans cZ)) b8 (by omega)).mono ?_⟩;rintro r uC d_ rfl;refine ⟨_,rfl,fun f=>?_,fun f=>?_⟩
  ·have f:R<W*g*4294967296^j:=by
    have f:0<kg (W*g*4294967296^j) R:=by simpa using f
    unfold kg at f;split at f
    ·omega
    ·split at f
     ·assumption
     ·omega
   have b9:=Jn Yv f;have c9:0<g:=Nat.lt_of_le_of_lt (Nat.zero_le _) b9;have e1:u64.wrap ((g:Int)-1)=((g-1:Nat):Int):=by rw [aN (by omega)];omega
   simp only [e1];refine fun uD fw=>(cX (g-1) (by omega)).mono ?_;rintro r Ei jL ⟨gp,gn,gc,rfl,c0⟩;refine ⟨_,_,_,rfl,fun y_ iy=>(cz (Vx.le (dh.trans (cZ.trans (d_.trans (fw.trans (jL.trans iy)))))) (c0.le iy) (by have:=u (g-1) (by omega);omega)).mono ?_⟩;rintro r xF m_ ⟨pp,pn,pc,rfl,a1⟩;rw [af,af] at a1;refine ⟨_,_,_,rfl,fun En jM=>(kV (a1.le jM) (by have:=u (g-1) (by omega);have:=J (g-1);omega) (32*j) (by omega)).mono ?_⟩;rintro r On Ek ⟨tp,tn,tc,rfl,Ym⟩;rw [af,N0] at Ym;refine ⟨_,_,_,rfl,(((g-1:Nat):Int),tp,tn,tc),?_,by (try dsimp only);and_intros<;>first|exact True.intro|rfl,g-1,rfl,by omega,by omega,Ym⟩
   (try dsimp only);omega
  ·have f:W*g*4294967296^j<=R:=by
    have f:¬0<kg (W*g*4294967296^j) R:=by simpa using f
    unfold kg at f;split at f
    ·omega
    ·split at f
     ·omega
     ·omega
   have K:=EV Yv f b7;rw [←K] at U;have d0:=o.len;refine ⟨⟨by omega,by omega⟩,by simp;omega,fun Nm po=>(oD (Q6.le (dh.trans (cZ.trans (d_.trans po)))) (ht.le (cZ.trans (d_.trans po))) (by omega) (aC f) (by rw [af,af];exact f)).mono ?_⟩;rintro r Oo B3 ⟨np,nn,nc,rfl,Yn⟩;rw [af,af] at Yn;have e1:u32.wrap (g:Int)=(g:Int):=qB (by omega);have e2:(aB es).set (0+j*1) (.int .u32 (g:Int))=aB (es.set j g):=by rw [←bD];simp
   simp only [e1];refine ⟨_,_,_,rfl,(np,nn,nc,(j:Int)-1,aB (es.set j g)),?_,by (try dsimp only);and_intros<;>first|exact True.intro|rfl|exact e2|(rw [←bD];simp),R-W*g*4294967296^j,Yn,by (try dsimp only);omega,by (try dsimp only);omega,_,rfl,?_⟩
   ·(try dsimp only);omega
   ·(try dsimp only)
    rw [show ((j:Int)-1+1).toNat=j from by omega];exact U
 ·have v:j=-1:=by simp at v;omega
  subst v
  have Vu:(ai R).length<=1099511627776:=by
   have f:=o.lt;have f:R<W:=by simpa using f
   have:=aC (Nat.le_of_lt f);omega
  intro V8 l8 bk hb;refine (cW (RD.bw hb o.fk (n:=L) (c:=L) o.len.symm (Nat.le_refl _)) (by have:=o.len;omega)).mono ?_;rintro r V9 Z ⟨k,rfl,B⟩;refine ⟨_,_,_,rfl,fun _ gu t=>(Cn (H.le (l8.trans (Z.trans t))) Vu s (by omega)).mono ?_⟩;rintro r fg bF ⟨p2,n2,c2,rfl,C⟩;rw [af] at C;refine ⟨_,_,_,rfl,fun ib I=>⟨_,_,_,_,_,_,rfl,?_,?_⟩⟩
  ·have f:=o.lt;have M:=o.eq;have f:R<W:=by simpa using f
   have M:A=W*val es+R:=by simpa using M
   obtain ⟨g1,Y⟩:=E M f;rw [aR o.fk,g1] at B;exact B.le (t.trans (bF.trans I))
  ·have f:=o.lt;have M:=o.eq;have f:R<W:=by simpa using f
   have M:A=W*val es+R:=by simpa using M
   obtain ⟨g1,Y⟩:=E M f;rw [Y] at C;exact C.le I
theorem qL {x:Nat}(h:(ai x).length<=2):x<18446744073709551616:=by
 have:=aD.1 h;omega
theorem copied {V:View}{b n c:Nat}{ds:List Nat}{sp:List Value}{ty:TypeId}(hd:bV ds)(hn:n=ds.length)(hc:n<=c)(hb:V.bw b (.cells (aB ds++sp).toArray ty (0,0))):RD V (some ⟨b,0,none⟩) n c ds:=by
 refine ⟨hn,hc,fun i v a=>⟨_,rfl,?_⟩,hd,fun e=>nomatch e⟩;rw [add_zero'];refine fS hb ?_;rw [List.getElem?_append_left]
 ·exact a
 ·rcases Nat.lt_or_ge i (aB ds).length with e|e
  ·exact e
  ·rw [List.getElem?_eq_none e] at a;cases a
theorem dW {V:View}{p q:OA}{n c m e:Nat}{x y:Nat}(hx:RN V p n c x)(hy:RN V q m e y)(hm:(ai x).length<=274877906944)(hm':(ai y).length<=274877906944)(hy0:0<y) :
  ae prog 143 #[.slice p n c,.slice q m e] V fun r V'=>∃p1 n1 c1 p2 n2 c2,r=.tuple #[.slice p1 n1 c1,.slice p2 n2 c2]/\RN V' p1 n1 c1 (x / y)/\RN V' p2 n2 c2 (x%y):=by
 have j:=hx.len;have zU:=hy.len
 have a0:0<m:=by
  rcases Nat.eq_zero_or_pos m with h|h
  ·have:=bH.1 (List.length_eq_zero_iff.1 (zU▸h));omega
  ·exact h
 refine yI p n c q m e V _ fun V1 u=>(kW (hx.le u) (by omega)).mono ?_;rintro r V2 E rfl;rw [af];refine ⟨_,_,rfl,fun z V'=>True,⟨fun a=>?_,fun a=>⟨(),by (try dsimp only);and_intros<;>first|exact True.intro|rfl,trivial⟩⟩,?_⟩
 ·have a:n<=2:=by simpa using a
  refine fun V3 l3=>(kW (hy.le (u.trans (E.trans l3))) (by omega)).mono ?_;rintro r V4 l4 rfl;rw [af];refine ⟨_,_,rfl,fun f=>?_,fun f=>⟨(),by (try dsimp only);and_intros<;>first|exact True.intro|rfl,trivial⟩⟩;have f:m<=2:=by simpa using f
  have a1:=qL (x:=x) (by omega);have YH:=qL (x:=y) (by omega);rw [if_pos a,if_pos f];have hq:x / y<=x:=Nat.div_le_self _ _;have hr:x%y<y:=Nat.mod_lt _ hy0;have F:((x:Nat):Int).tdiv (y:Int)=((x / y:Nat):Int):=by rw [Int.tdiv_eq_ediv_of_nonneg (by omega)];omega
  have G:((x:Nat):Int).tmod (y:Int)=((x%y:Nat):Int):=by rw [Int.tmod_eq_emod_of_nonneg (by omega)];omega
  rw [F,G];generalize x / y=qq at *;generalize x%y=rr at *;have H:u64.wrap (qq:Int)=qq:=aN (by omega);rw [H];refine ⟨by omega,by omega,fun V5 l5=>(cX qq (by omega)).mono ?_⟩;rintro r V6 l6 ⟨p1,n1,c1,rfl,I⟩;refine ⟨_,_,_,rfl,fun V7 l7=>(cX rr (by omega)).mono ?_⟩;rintro r V8 l8 ⟨p2,n2,c2,rfl,K⟩;exact ⟨_,_,_,rfl,fun V9 Y=>⟨_,_,_,_,_,_,rfl,I.le (l7.trans (l8.trans Y)),K.le Y⟩⟩
 rintro _ gu w _
 replace hx:=hx.le (u.trans (E.trans w))
 replace hy:=hy.le (u.trans (E.trans w))
 refine ⟨by trivial,fun fg B=>(iG (hx.le B) (hy.le B) (by omega) (by omega)).mono ?_⟩;rintro r ib Z rfl
 replace hx:=hx.le (B.trans Z)
 replace hy:=hy.le (B.trans Z)
 refine ⟨_,rfl,fun a=>⟨aB (ai x),hx.sl,by simp [j],by omega,by omega,by simp,by simp [j],?_,?_⟩,fun a=>⟨fun f=>?_,fun f=>?_⟩⟩
 ·intro v g;simp only [aB,List.mem_map] at g;obtain ⟨d,-,rfl⟩:=g;rfl
 ·have a:x<y:=by simpa [fU] using a
  intro bk J sp c' f h2 V1 u b C;rw [Nat.div_eq_of_lt a,Nat.mod_eq_of_lt a];refine ⟨_,_,_,_,_,_,rfl,RD.nil,?_⟩;simp only [Nat.zero_add,Nat.zero_mul,List.take_zero,List.nil_append] at C f ⊢;exact copied (aA x) j f C
 ·have a:y<=x:=by simpa [←Int.not_lt,fU] using a
  have f:m=1:=by simp at f;omega
  subst f;obtain ⟨d,D⟩:=lq (ds:=ai y) (by omega);have L:d=y:=by have:=af y;rw [D] at this;simpa using this
  subst L;have M:d<4294967296:=by have:=aA d;rw [D] at this;exact (bV.cons.1 this).1
  try unfold RN at hy
  rw [D] at hy;have a2:0<n:=by have:=aC a;omega
  have w1:i64.wrap ((n:Int)-1)=(n:Int)-1:=aw (by omega);simp only [w1,Int.toNat_natCast,cK];have zS:=aA x;have Rn:=af x;try unfold RN at hx
  clear D;rw [←Rn];clear Rn a;generalize ai x=xs at *
  refine ⟨by omega,by omega,by omega,fun z V'=>0<=z.1/\z.1<d/\-1<=z.2.1/\z.2.1<n/\∃es:List Nat,z.2.2=aB es/\es.length=n/\bV es /\
   val (xs.drop (z.2.1+1).toNat)=d*val (es.drop (z.2.1+1).toNat)+z.1.toNat,fun z=>(z.2.1+1).toNat,
   ⟨(0,(n:Int)-1,aB (List.replicate n 0)),by (try dsimp only);and_intros<;>first|exact True.intro|rfl,by (try dsimp only);omega,by (try dsimp only);omega,by (try dsimp only);omega,by (try dsimp only);omega,_,rfl,by simp,bV.rep _,?_⟩,?_⟩
  ·(try dsimp only)
   rw [List.drop_of_length_le (by omega),List.drop_of_length_le (by simp)];rfl
  rintro ⟨rest,i,vs⟩ j8 N ⟨A,O,P,Q,es,rfl,R,o,g⟩;dsimp only at A O P Q g ⊢;obtain ⟨rest,rfl⟩:=Int.eq_ofNat_of_zero_le A;refine ⟨by trivial,fun s=>?_,fun s=>?_⟩
  ·have s:0<=i:=by simpa using s
   obtain ⟨i,rfl⟩:=Int.eq_ofNat_of_zero_le s;have S:((i:Int)+1).toNat=i+1:=by omega
   rw [S] at g;simp only [Int.toNat_natCast] at g ⊢;have Vh:=zS.get (i:=i) (by omega);refine (hx.le N).rd i rfl (by omega) (Dk (hy.le N) (by simp) fun kK T=>(LH rest xs[i] d (by omega) Vh M).mono ?_);rintro r mS dh rfl
   have hq:(rest*4294967296+xs[i]) / d<4294967296:=by
    rw [Nat.div_lt_iff_lt_mul (by omega)];have:rest+1<=d:=by omega
    have:=Nat.mul_le_mul_right 4294967296 this;rw [Nat.mul_comm 4294967296 d];omega
   have hr:(rest*4294967296+xs[i])%d<d:=Nat.mod_lt _ (by omega);have Ir:=Nat.div_add_mod (rest*4294967296+xs[i]) d;generalize (rest*4294967296+xs[i]) / d=q at *;generalize (rest*4294967296+xs[i])%d=r at *;have w2:i64.wrap ((i:Int)-1)=(i:Int)-1:=aw (by omega);simp only [w2];refine ⟨_,_,rfl,⟨by omega,by omega⟩,by simp;omega,((r:Int),(i:Int)-1,aB (es.set i q)),?_,?_,?_⟩
   ·(try dsimp only);omega
   ·(try dsimp only);and_intros<;>first|exact True.intro|rfl|(rw [←bD];simp)
   ·(try dsimp only)
    refine ⟨by omega,by omega,by omega,by omega,_,rfl,by simpa using R,o.set _ _ (by omega),?_⟩;have U:((i:Int)-1+1).toNat=i:=by omega
    rw [U,List.drop_eq_getElem_cons (by omega),List.drop_eq_getElem_cons (l:=es.set i q) (by simp;omega),List.getElem_set_self,List.drop_set_of_lt (by omega)];have h9:xs[i]+4294967296*val (List.drop (i+1) xs)=d*(q+4294967296*val (List.drop (i+1) es))+r:=wv g Ir;rw [bq,bq,Int.toNat_natCast];exact h9
  ·have s:i=-1:=by simp at s;omega
   subst s;simp only [Int.toNat_natCast] at g;have g:val xs=d*val es+rest:=by simpa using g
   intro pk cZ bk C;refine (cW (RD.bw C o (n:=n) (c:=n) (by omega) (Nat.le_refl _)) (by omega)).mono ?_;rintro r uC d_ ⟨k,rfl,h4⟩;refine ⟨_,_,_,rfl,fun _ uD fw W t=>?_⟩
   have t:uD.bw W (.cells (aB [rest]).toArray 221 (0,0)):=by
    simpa [aB] using t
   refine (cW (RD.bw t (n:=1) (c:=1) (by simp [bV];omega) rfl (Nat.le_refl _)) (by simp)).mono ?_;rintro r Ei jL ⟨k2,rfl,X⟩;refine ⟨_,_,_,rfl,fun _ y_ iy=>⟨_,_,_,_,_,_,rfl,?_,?_⟩⟩
   ·have F:val xs / d=val es:=by rw [g,Nat.mul_add_div (by omega),Nat.div_eq_of_lt (by omega),Nat.add_zero]
    rw [aR o] at h4;rw [F];exact h4.le (fw.trans (jL.trans iy))
   ·have G:val xs%d=rest:=by rw [g,Nat.mul_add_mod,Nat.mod_eq_of_lt (by omega)]
    rw [aR (by simp [bV];omega)] at X;have H:val [rest]=rest:=by simp
    rw [H] at X;rw [G];exact X.le iy
 ·have a:y<=x:=by simpa [←Int.not_lt,fU] using a
  refine fun lG ck=>(EJ (hx.le ck) (hy.le ck) hm hy0 (aC a)).mono ?_;rintro r j8 N ⟨p1,n1,c1,p2,n2,c2,rfl,I,K⟩;exact ⟨_,_,_,_,_,_,rfl,fun kK T=>⟨_,_,_,_,_,_,rfl,I.le T,K.le T⟩⟩
end Go.Proofs.Tryz
