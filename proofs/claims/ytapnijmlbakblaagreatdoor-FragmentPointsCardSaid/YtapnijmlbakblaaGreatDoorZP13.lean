import Derived.Test.YtapnijmlbakblaaGreatDoorZP12
import Derived.Test.YtapnijmlbakblaaGreatDoorZP11
import Derived.Test.YtapnijmlbakblaaGreatDoorZP8
set_option linter.unusedVariables false
open Go.IntKind (i64 u64 u32)
namespace Go.Big
def cmpQ (x y:Rat):Int:=(x-y).num.sign
def cY (x y:Rat):Rat:=mkRat (Nat.gcd (x.num.natAbs*y.den) (y.num.natAbs*x.den):Nat) (x.den*y.den)
theorem IX {q:Rat}:q.num<0↔q<0:=by
 have:=@Rat.num_nonneg q;rw [←Rat.not_le,←this];omega
theorem IY {q:Rat}:0<q.num↔0<q:=by
 have b:=@Rat.num_nonneg q;have c:=@Qn5 q;rw [Rat.lt_iff_le_and_ne,←b];constructor
 ·intro h;exact ⟨by omega,fun e=>by rw [←e] at h;simp at h⟩
 ·rintro ⟨h,a⟩;have:q.num≠0:=fun e=>a (c.1 e).symm;omega
theorem Fh {x y:Rat}:x<y↔cmpQ x y=-1:=by
 unfold cmpQ;rw [Int.sign_eq_neg_one_iff_neg,IX,Rat.lt_iff_sub_pos x y,←Rat.neg_sub y x];constructor
 ·intro h;have:=Rat.neg_lt_neg h;simpa using this
 ·intro h;have:=Rat.neg_lt_neg h;rw [Rat.neg_neg] at this;simpa using this
theorem Fg {x y:Rat}:y<x↔cmpQ x y=1:=by
 unfold cmpQ;rw [Int.sign_eq_one_iff_pos,IY,Rat.lt_iff_sub_pos y x]
theorem kK {x y:Rat}:x=y↔cmpQ x y=0:=by
 unfold cmpQ;rw [Qp0,Qn5];constructor
 ·intro h;subst h;exact Rat.sub_self
 ·intro h;have:=congrArg (·+ y) h;simpa [Rat.sub_add_cancel,Rat.zero_add] using this
end Go.Big
namespace Go.Proofs.Tryz
open Go.Eng Go.Big
theorem zK {V:View}{v w:Value}{x y:Rat}(hx:RR V v x)(hy:RR V w y){k m:Nat}(hk:Sz k x)(hm:Sz m y)(hkm:k+m<1099511627776:=by omega) :
  aa prog 169 #[v,w] V fun r V'=>RR V' r (x-y):=by
 obtain ⟨h,i,j,rfl⟩:=hx.shape;obtain ⟨l,s1,s2,rfl⟩:=hy.shape;refine xK _ _ _ _ _ _ V _ fun o b=>(oP (hy.le b) hm).mono ?_;rintro r q f c;obtain ⟨n,d,p,rfl⟩:=c.shape;refine ⟨_,_,_,rfl,fun s e=>(oO (hx.le (b.trans (f.trans e))) (c.le e) hk hm.neg hkm).mono ?_⟩;rintro r t u a;rw [←Qr0] at a;obtain ⟨n,d,p,rfl⟩:=a.shape;exact ⟨_,_,_,rfl,fun z g=>a.le g⟩
theorem ia {V:View}{v w:Value}{x y:Rat}(hx:RR V v x)(hy:RR V w y){k m:Nat}(hk:Sz k x)(hm:Sz m y)(hkm:k+m<1099511627776:=by omega) :
  aa prog 111 #[v,w] V fun r V'=>r=.int .i64 (cmpQ x y):=by
 obtain ⟨t,u,z,rfl⟩:=hx.shape;obtain ⟨A,s1,s2,rfl⟩:=hy.shape
 have gen:∀mD:View,V.Le mD->aa prog 169 #[.agg #[.int .i64 t,.int .i64 u,.pointer z],.agg #[.int .i64 A,.int .i64 s1,.pointer s2]] mD fun B C=>∃Ql:Int,∃JS:Int,∃I_:OA,B=.agg #[.int .i64 Ql,.int .i64 JS,.pointer I_]/\(∀sM:View,C.Le sM->aa prog 160 #[.agg #[.int .i64 Ql,.int .i64 JS,.pointer I_]] sM fun D E=>∃P_:Int,D=.int .i64 P_/\(∀uf:View,E.Le uf->Value.int .i64 P_=.int .i64 (cmpQ x y))):=by
  intro i f;refine (zK (hx.le f) (hy.le f) hk hm hkm).mono ?_;rintro r O P q;obtain ⟨n,d,p,rfl⟩:=q.shape;refine ⟨_,_,_,rfl,fun Q F=>(Bu (q.le F) (hk.sub hm)).mono ?_⟩;rintro r R S rfl;exact ⟨_,rfl,fun _ _=>rfl⟩
 rcases hx with ⟨ex,G⟩|⟨a,b,p,n,c,H,I,J,ex,-,-,-,-,-,G⟩
 ·rcases hy with ⟨g,K⟩|⟨a,b,p,n,c,H,I,J,g,-,-,-,-,-,K⟩
  ·simp only [Value.agg.injEq,Qb1,Qy2,Value.int.injEq,Value.pointer.injEq,true_and,and_true] at ex g;obtain ⟨rfl,rfl,rfl⟩:=ex;obtain ⟨rfl,rfl,rfl⟩:=g
   have j:x.den=y.den->((x<y↔x.num<y.num)/\(y<x↔y.num<x.num)/\(x=y↔x.num=y.num)):=by
    intro e;have s:(0:Int)<y.den:=by have:=y.den_nz;omega
    refine ⟨?_,?_,fun h=>by rw [h],fun h=>Rat.ext h e⟩
    ·rw [Rat.lt_iff,e];exact ⟨fun h=>Qt7 h (by omega),fun h=>Qt2 h s⟩
    ·rw [Rat.lt_iff,e];exact ⟨fun h=>Qt7 h (by omega),fun h=>Qt2 h s⟩
   refine jR _ _ _ _ _ _ V _ ⟨fun _=>⟨fun _=>⟨fun l=>?_,fun _=>gen⟩,(fun h=>nomatch h)⟩,(fun h=>nomatch h)⟩;have l:x.den=y.den:=by rw [beq_iff_eq] at l;omega
   obtain ⟨L,M,N⟩:=j l;refine ⟨fun h i f=>?_,fun h=>⟨fun o i f=>?_,fun o i f=>?_⟩⟩
   ·rw [Fh.1 (L.2 (by simpa using h))]
   ·rw [Fg.1 (M.2 (by simpa using o))]
   ·rw [kK.1 (N.2 (by rw [decide_eq_false_iff_not] at h o;omega))]
  ·simp only [Value.agg.injEq,Qb1,Qy2,Value.int.injEq,Value.pointer.injEq,true_and,and_true] at ex g;obtain ⟨rfl,rfl,rfl⟩:=ex;obtain ⟨rfl,rfl,rfl⟩:=g;exact jR _ _ _ _ _ _ V _ ⟨fun _=>⟨(fun h=>nomatch h),fun _=>gen⟩,(fun h=>nomatch h)⟩
 ·simp only [Value.agg.injEq,Qb1,Qy2,Value.int.injEq,Value.pointer.injEq,true_and,and_true] at ex;obtain ⟨rfl,rfl,rfl⟩:=ex;exact jR _ _ _ _ _ _ V _ ⟨(fun h=>nomatch h),fun _=>gen⟩
theorem j8 {V:View}{v w:Value}{x y:Rat}(hx:RR V v x)(hy:RR V w y){k m:Nat}(hk:Sz k x)(hm:Sz m y)(hkm:k+m<1099511627776:=by omega) :
  aa prog 90 #[v,w] V fun r V'=>r=.bool (decide (x=y)):=by
 obtain ⟨b,c,d,rfl⟩:=hx.shape;obtain ⟨e,s1,s2,rfl⟩:=hy.shape;refine tw _ _ _ _ _ _ V _ fun f a=>(ia (hx.le a) (hy.le a) hk hm hkm).mono ?_;rintro r g h rfl;refine ⟨_,rfl,fun i j=>?_⟩;congr 1;rw [Qx6,beq_iff_eq,decide_eq_true_eq,kK]
theorem BT {x y:Rat}{k m:Nat}(hx:Sz k x)(hy:Sz m y):x.num.natAbs*y.den<2^(k+m)/\y.num.natAbs*x.den<2^(k+m)/\Nat.gcd (x.num.natAbs*y.den) (y.num.natAbs*x.den)<2^(k+m)/\x.den*y.den<2^(k+m):=by
 have a:x.num.natAbs*y.den<2^(k+m):=bF hx.1 hy.2;have b:y.num.natAbs*x.den<2^(k+m):=by rw [Qd7];exact bF hy.1 hx.2
 refine ⟨a,b,?_,bF hx.2 hy.2⟩;rcases Qx9 (x.num.natAbs*y.den) with e|e
 ·rw [e,Qh5];exact b
 ·exact Qv5 (Qs7 e (Qk8 _ _)) a
theorem fj {x y:Rat}{k m:Nat}(hx:Sz k x)(hy:Sz m y):Sz (k+m+1) (cY x y):=by
 obtain ⟨-,-,a,b⟩:=BT hx hy;have c:2^(k+m)<=2^(k+m+1):=Qw9 (by omega) (by omega);exact Go.Eng.Sz.mkRat (by rw [Qx5];omega) (by omega) (by omega)
theorem fL {V:View}{v w:Value}{x y:Rat}(hx:RR V v x)(hy:RR V w y){k m:Nat}(hk:Sz k x)(hm:Sz m y)(hkm:k+m<1099511627776:=by omega) :
  aa prog 89 #[v,w] V fun r V'=>RR V' r (cY x y):=by
 obtain ⟨A,B,C,rfl⟩:=hx.shape;obtain ⟨D,s1,s2,rfl⟩:=hy.shape;obtain ⟨b1,b2,b3,b4⟩:=BT hk hm;have q1:=ag hk.1;have q2:=ag hk.2;have q3:=ag hm.1;have q4:=ag hm.2;have q5:=ag b1;have q6:=ag b2;have q7:=ag b3;have q8:=ag b4
 have gen:(∀UQ:View,V.Le UQ->aa prog 151 #[.agg #[.int .i64 A,.int .i64 B,.pointer C]] UQ fun Td WE=>∃(PD:OA)(Pk Oa:Nat),Td=.slice PD Pk Oa/\(∀UR:View,WE.Le UR->aa prog 151 #[.agg #[.int .i64 D,.int .i64 s1,.pointer s2]] UR fun Te WG=>∃(PE:OA)(Pl Ob:Nat),Te=.slice PE Pl Ob/\(∀US:View,WG.Le US->aa prog 150 #[.slice PD Pk Oa,.slice PE Pl Ob] US fun Tf WH=>∃(Jb:OA)(IK HL:Nat),Tf=.slice Jb IK HL/\(∀UT:View,WH.Le UT->aa prog 153 #[.agg #[.int .i64 A,.int .i64 B,.pointer C]] UT fun Tg WI=>∃Rc:Bool,∃(PG:OA)(Pn Od:Nat),Tg=.agg #[.bool Rc,.slice PG Pn Od]/\(∀UU:View,WI.Le UU->aa prog 151 #[.agg #[.int .i64 D,.int .i64 s1,.pointer s2]] UU fun Th WJ=>∃(Jc:OA)(IL HM:Nat),Th=.slice Jc IL HM/\(∀UW:View,WJ.Le UW->aa prog 150 #[.slice PG Pn Od,.slice Jc IL HM] UW fun Ti WK=>∃(PH:OA)(Po Oe:Nat),Ti=.slice PH Po Oe/\(∀UX:View,WK.Le UX->aa prog 153 #[.agg #[.int .i64 D,.int .i64 s1,.pointer s2]] UX fun Tj WL=>∃Rd:Bool,∃(Jd:OA)(IM HN:Nat),Tj=.agg #[.bool Rd,.slice Jd IM HN]/\(∀UY:View,WL.Le UY->aa prog 151 #[.agg #[.int .i64 A,.int .i64 B,.pointer C]] UY fun Tk WM=>∃(PJ:OA)(Pq Og:Nat),Tk=.slice PJ Pq Og/\(∀UZ:View,WM.Le UZ->aa prog 150 #[.slice Jd IM HN,.slice PJ Pq Og] UZ fun Tl WN=>∃(Je:OA)(IP HO:Nat),Tl=.slice Je IP HO/\(∀U0:View,WN.Le U0->aa prog 152 #[.slice PH Po Oe,.slice Je IP HO] U0 fun Tn WO=>∃(PK:OA)(Pr Oh:Nat),Tn=.slice PK Pr Oh/\(∀U1:View,WO.Le U1->aa prog 147 #[.agg #[.bool false,.slice PK Pr Oh],.slice Jb IK HL] U1 fun To WQ=>∃Qh:Int,∃Qi:Int,∃Jf:OA,To=.agg #[.int .i64 Qh,.int .i64 Qi,.pointer Jf]/\(∀NY:View,WQ.Le NY->RR NY (.agg #[.int .i64 Qh,.int .i64 Qi,.pointer Jf]) (cY x y))))))))))))):=by
  intro O i;refine (dK (hx.le i) hk).mono ?_;rintro r E j ⟨p1,n1,c1,rfl,g1⟩;refine ⟨_,_,_,rfl,fun V3 s=>(dK (hy.le (i.trans (j.trans s))) hm).mono ?_⟩;rintro r V4 F ⟨p2,n2,c2,rfl,g2⟩;refine ⟨_,_,_,rfl,fun V5 t=>(fO (g1.le (s.trans (F.trans t))) (g2.le t)).mono ?_⟩;rintro r V6 P ⟨p3,n3,c3,rfl,Q⟩;rw [ae,ae] at Q;have G:=i.trans (j.trans (s.trans (F.trans (t.trans P))));refine ⟨_,_,_,rfl,fun V7 l=>(eJ (hx.le (G.trans l)) hk).mono ?_⟩;rintro r V8 H ⟨p4,n4,c4,rfl,g4⟩;refine ⟨_,_,_,_,rfl,fun V9 u=>(dK (hy.le (G.trans (l.trans (H.trans u)))) hm).mono ?_⟩;rintro r gm f ⟨p5,n5,c5,rfl,g5⟩;refine ⟨_,_,_,rfl,fun fH z=>(fO (g4.le (u.trans (f.trans z))) (g5.le z)).mono ?_⟩;rintro r jC R ⟨p6,n6,c6,rfl,S⟩;rw [ae,ae] at S;have T:=G.trans (l.trans (H.trans (u.trans (f.trans (z.trans R)))));refine ⟨_,_,_,rfl,fun oH I=>(eJ (hy.le (T.trans I)) hm).mono ?_⟩;rintro r mD U ⟨p7,n7,c7,rfl,g7⟩;refine ⟨_,_,_,_,rfl,fun mE J=>(dK (hx.le (T.trans (I.trans (U.trans J)))) hk).mono ?_⟩;rintro r sM W ⟨p8,n8,c8,rfl,g8⟩;refine ⟨_,_,_,rfl,fun nF K=>(fO (g7.le (J.trans (W.trans K))) (g8.le K)).mono ?_⟩;rintro r uf fF ⟨p9,n9,c9,rfl,X⟩;rw [ae,ae] at X;have Y:=I.trans (U.trans (J.trans (W.trans (K.trans fF))));refine ⟨_,_,_,rfl,fun A8 L=>(qF (S.le (Y.trans L)) (X.le L) (by omega)).mono ?_⟩;rintro r Bg mK ⟨L4,a0,a1,rfl,o⟩;rw [ae,ae] at o;refine ⟨_,_,_,rfl,fun Bh Z=>(cm false (o.le Z) (Q.le (l.trans (H.trans (u.trans (f.trans (z.trans (R.trans (Y.trans (L.trans (mK.trans Z)))))))))) (by omega)).mono ?_⟩;rintro r Dv pD g;rw [nT,ae,ae] at g;obtain ⟨n,d,p,rfl⟩:=g.shape;exact ⟨_,_,_,rfl,fun Dm lT=>g.le lT⟩
 rcases hx with ⟨ex,wx⟩|⟨a,b,p,n,c,p',n',c',ex,-,-,-,-,-,wx⟩
 ·rcases hy with ⟨q,wy⟩|⟨a,b,p,n,c,p',n',c',q,-,-,-,-,-,wy⟩
  ·simp only [Value.agg.injEq,Qb1,Qy2,Value.int.injEq,Value.pointer.injEq,true_and,and_true] at ex q;obtain ⟨rfl,rfl,rfl⟩:=ex;obtain ⟨rfl,rfl,rfl⟩:=q;obtain ⟨P8,Wi⟩:=wx;obtain ⟨P9,Wj⟩:=wy;refine mu _ _ _ _ _ _ V _ ⟨fun _=>⟨fun _=>⟨fun M=>⟨fun _ _=>True,⟨fun N O i=>?_,fun _=>⟨(),by and_intros<;>rfl,trivial⟩⟩,fun _ O i _=>⟨by trivial,fun E j=>gen E (i.trans j)⟩⟩,fun _=>gen⟩,(fun h=>nomatch h)⟩,(fun h=>nomatch h)⟩;have M:x.den=1:=by rw [beq_iff_eq] at M;omega
   have N:y.den=1:=by rw [beq_iff_eq] at N;omega
   refine (iD _ (by omega)).mono ?_;rintro r E j rfl;refine ⟨_,rfl,fun V3 s=>(iD _ (by omega)).mono ?_⟩;rintro r V4 F rfl;refine ⟨_,rfl,fun V5 t=>(uw _ _ (by omega)).mono ?_⟩;rintro r V6 P rfl;refine ⟨_,rfl,fun V7 l=>.inl ?_⟩
   have e:cY x y=((Nat.gcd x.num.natAbs y.num.natAbs:Nat):Int):=by
    unfold cY;rw [M,N,Qk0,Qk0,Qk0];exact mkRat_one _
   have hl:Nat.gcd x.num.natAbs y.num.natAbs<4611686018427387904:=by
    rcases Qx9 x.num.natAbs with e|e
    ·rw [e,Qh5];exact P9
    ·exact Qv5 (Qs7 e (Qk8 _ _)) P8
   rw [e,ar (by omega)];exact ⟨rfl,va (by rw [Qx5];exact hl)⟩
  ·simp only [Value.agg.injEq,Qb1,Qy2,Value.int.injEq,Value.pointer.injEq,true_and,and_true] at ex q;obtain ⟨rfl,rfl,rfl⟩:=ex;obtain ⟨rfl,rfl,rfl⟩:=q;exact mu _ _ _ _ _ _ V _ ⟨fun _=>⟨(fun h=>nomatch h),fun _=>gen⟩,(fun h=>nomatch h)⟩
 ·simp only [Value.agg.injEq,Qb1,Qy2,Value.int.injEq,Value.pointer.injEq,true_and,and_true] at ex;obtain ⟨rfl,rfl,rfl⟩:=ex;exact mu _ _ _ _ _ _ V _ ⟨(fun h=>nomatch h),fun _=>gen⟩
def RA (V:View)(v:Value)(q:Rat):Prop:=∃p n c p' n' c',v=.agg #[.bool (decide (q.num<0)),.slice p n c,.slice p' n' c']/\RD V p n c (ai q.num.natAbs)/\RD V p' n' c' (ai q.den)
theorem RA.le {V V':View}{v:Value}{q:Rat}(h:RA V v q)(l:V.Le V'):RA V' v q:=by
 obtain ⟨p,n,c,a,b,d,e,f,g⟩:=h;exact ⟨p,n,c,a,b,d,e,f.le l,g.le l⟩
theorem uv {V:View}(b:Bool){p q:OA}{n c m e:Nat}{xs ys:List Nat}(hx:RD V p n c xs)(hy:RD V q m e ys)(hm:xs.length<=1099511627776)(hn:ys.length<=1099511627776:=by omega) :
  aa prog 106 #[.agg #[.bool b,.slice p n c,.slice q m e]] V fun r V'=>RR V' r (mkRat (aA b xs) (val ys)):=by
 refine EH b p n c q m e V _ fun f a=>(cm b (hx.le a) (hy.le a) hm hn).mono ?_;rintro r g i h;obtain ⟨u,v,w,rfl⟩:=h.shape;exact ⟨_,_,_,rfl,fun j d=>h.le d⟩
theorem yF {V:View}{v:Value}{q:Rat}(h:RA V v q){k:Nat}(hs:Sz k q)(hk:k<=1099511627776):aa prog 106 #[v] V fun r V'=>RR V' r q:=by
 obtain ⟨p,n,c,d,e,f,rfl,a,b⟩:=h;have g:=ag hs.1;have i:=ag hs.2;refine (uv _ a b (by omega)).mono ?_;rintro r V' _ h;rw [aE,ae,Qp1] at h;exact h
theorem oN {V:View}{v:Value}{q:Rat}(h:RR V v q){k:Nat}(hs:Sz k q)(hk:k<=1099511627776):aa prog 171 #[v] V fun r V'=>RA V' r q:=by
 have a:=h;obtain ⟨e,f,g,rfl⟩:=h.shape;refine xH e f g V _ fun n b=>(eJ (a.le b) hs hk).mono ?_;rintro r o i ⟨p,s,t,rfl,j⟩;refine ⟨_,_,_,_,rfl,fun u c=>(dK (a.le (b.trans (i.trans c))) hs hk).mono ?_⟩;rintro r w l ⟨x,y,z,rfl,m⟩;exact ⟨_,_,_,rfl,fun A d=>⟨_,_,_,_,_,_,rfl,j.le (c.trans (l.trans d)),m.le d⟩⟩
theorem jf {V:View}{v w:Value}{x y:Rat}(hx:RR V v x)(hy:RR V w y){k m:Nat}(hk:Sz k x)(hm:Sz m y)(hkm:k+m<1099511627776:=by omega) :
  aa prog 198 #[v,w] V fun r V'=>RR V' r (x*y):=by
 obtain ⟨R,S,T,rfl⟩:=hx.shape;obtain ⟨U,s1,s2,rfl⟩:=hy.shape;have g:x*y=mkRat (x.num*y.num) (x.den*y.den):=Wx5 x y;have W:(x.num*y.num).natAbs<2^(k+m):=by rw [Qn4,Qy6];exact Qp2 hk.1 hm.1
 have X:x.den*y.den<2^(k+m):=by rw [Qy6];exact Qp2 hk.2 hm.2
 have q1:=ag hk.1;have q2:=ag hk.2;have q3:=ag hm.1;have q4:=ag hm.2;have q5:=ag W;have q6:=ag X;refine xI R S T U s1 s2 V _ ⟨fun Y=>⟨fun _ _=>True,⟨fun Z=>?_,fun _=>⟨(),by (try dsimp only);and_intros<;>trivial,trivial⟩⟩,fun _ V8 l8 _=>⟨rfl,fun V9 Yf=>?_⟩⟩,fun _ V9 h=>?_⟩
 ·rcases hx with ⟨ex,P⟩|⟨a,b,p,n,c,p',n',c',ex,-,-,-,-,-,P⟩
  ·rcases hy with ⟨s,Q⟩|⟨a,b,p,n,c,p',n',c',s,-,-,-,-,-,Q⟩
   ·simp only [Value.agg.injEq,Qb1,Qy2,Value.int.injEq,Value.pointer.injEq,true_and,and_true] at ex s;obtain ⟨rfl,rfl,rfl⟩:=ex;obtain ⟨rfl,rfl,rfl⟩:=s;obtain ⟨P8,Wi⟩:=P;obtain ⟨P9,Wj⟩:=Q;have dx:=x.den_nz;have dy:=y.den_nz;have e1:i64.wrap ((x.den:Int)-1+1)=x.den:=by rw [ar (by omega)];omega
    have e2:i64.wrap ((y.den:Int)-1+1)=y.den:=by rw [ar (by omega)];omega
    rw [e1,e2];intro V1 l1;refine (fm _ _ P8 P9).mono ?_;rintro r V2 l2 ⟨z1,rfl,E⟩;refine ⟨_,_,rfl,fun V3 l3=>(fm _ _ (by omega)).mono ?_⟩;rintro r V4 l4 ⟨z2,rfl,F⟩;refine ⟨_,_,rfl,fun t1=>⟨fun t2 V5 l5=>?_,fun _=>⟨(),by (try dsimp only);and_intros<;>trivial,trivial⟩⟩,fun _=>⟨(),by (try dsimp only);and_intros<;>trivial,trivial⟩⟩;have t1:=of_decide_eq_true t1;have t2:=of_decide_eq_true t2;rw [E t1,F t2];have hd:((x.den:Int)*(y.den:Int))=((x.den*y.den:Nat):Int):=(Qb8 ..).symm;rw [hd] at t2 ⊢;refine (mZ _ _ t1 (by rwa [Qx5] at t2) (Qj7 dx dy)).mono ?_;rintro r V6 l6 G;rw [←g] at G;obtain ⟨n,d,p,rfl⟩:=G.shape;exact ⟨_,_,_,rfl,fun V7 l7=>G.le l7⟩
   ·simp only [Value.agg.injEq,Qb1,Qy2,Value.int.injEq,Value.pointer.injEq,true_and,and_true] at s;obtain ⟨rfl,rfl,rfl⟩:=s;cases Z
  ·simp only [Value.agg.injEq,Qb1,Qy2,Value.int.injEq,Value.pointer.injEq,true_and,and_true] at ex;obtain ⟨rfl,rfl,rfl⟩:=ex;cases Y
 ·have h:=l8.trans Yf;refine (eJ (hx.le h) hk).mono ?_;rintro r gm f ⟨p1,n1,c1,rfl,H⟩;refine ⟨_,_,_,_,rfl,fun fH i=>(eJ (hy.le (h.trans (f.trans i))) hm).mono ?_⟩;rintro r jC t ⟨p2,n2,c2,rfl,I⟩;refine ⟨_,_,_,_,rfl,fun oH j=>(fY _ _ (H.le (i.trans (t.trans j))) (I.le j)).mono ?_⟩;rintro r mD J u;rw [aE,aE] at u;obtain ⟨p3,n3,c3,rfl,K⟩:=u;have z:=h.trans (f.trans (i.trans (t.trans (j.trans J))));refine ⟨_,_,_,_,rfl,fun mE l=>(dK (hx.le (z.trans l)) hk).mono ?_⟩;rintro r sM A ⟨p4,n4,c4,rfl,L⟩;refine ⟨_,_,_,rfl,fun nF o=>(dK (hy.le (z.trans (l.trans (A.trans o)))) hm).mono ?_⟩;rintro r uf B ⟨p5,n5,c5,rfl,M⟩;refine ⟨_,_,_,rfl,fun A8 q=>(fO (L.le (o.trans (B.trans q))) (M.le q)).mono ?_⟩;rintro r Bg N ⟨p6,n6,c6,rfl,C⟩;rw [ae,ae] at C;refine ⟨_,_,_,rfl,fun Bh D=>(cm _ (K.le (l.trans (A.trans (o.trans (B.trans (q.trans (N.trans D))))))) (C.le D) (by omega)).mono ?_⟩;rintro r Dv pD e;rw [aE,ae,←g] at e;obtain ⟨n,d,p,rfl⟩:=e.shape;exact ⟨_,_,_,rfl,fun Dm O=>e.le O⟩
 ·skip
  refine (eJ (hx.le h) hk).mono ?_;rintro r gm f ⟨p1,n1,c1,rfl,H⟩;refine ⟨_,_,_,_,rfl,fun fH i=>(eJ (hy.le (h.trans (f.trans i))) hm).mono ?_⟩;rintro r jC t ⟨p2,n2,c2,rfl,I⟩;refine ⟨_,_,_,_,rfl,fun oH j=>(fY _ _ (H.le (i.trans (t.trans j))) (I.le j)).mono ?_⟩;rintro r mD J u;rw [aE,aE] at u;obtain ⟨p3,n3,c3,rfl,K⟩:=u;have z:=h.trans (f.trans (i.trans (t.trans (j.trans J))));refine ⟨_,_,_,_,rfl,fun mE l=>(dK (hx.le (z.trans l)) hk).mono ?_⟩;rintro r sM A ⟨p4,n4,c4,rfl,L⟩;refine ⟨_,_,_,rfl,fun nF o=>(dK (hy.le (z.trans (l.trans (A.trans o)))) hm).mono ?_⟩;rintro r uf B ⟨p5,n5,c5,rfl,M⟩;refine ⟨_,_,_,rfl,fun A8 q=>(fO (L.le (o.trans (B.trans q))) (M.le q)).mono ?_⟩;rintro r Bg N ⟨p6,n6,c6,rfl,C⟩;rw [ae,ae] at C;refine ⟨_,_,_,rfl,fun Bh D=>(cm _ (K.le (l.trans (A.trans (o.trans (B.trans (q.trans (N.trans D))))))) (C.le D) (by omega)).mono ?_⟩;rintro r Dv pD e;rw [aE,ae,←g] at e;obtain ⟨n,d,p,rfl⟩:=e.shape;exact ⟨_,_,_,rfl,fun Dm O=>e.le O⟩
theorem inv_neg {q:Rat}(h:q.num<0):(q⁻¹).num=-(q.den:Int)/\(q⁻¹).den=q.num.natAbs:=by
 show (Rat.inv q).num=_/\(Rat.inv q).den=_;unfold Rat.inv;rw [dif_pos h];exact ⟨rfl,rfl⟩
theorem inv_pos {q:Rat}(h:0<q.num:=by omega):(q⁻¹).num=(q.den:Int)/\(q⁻¹).den=q.num.natAbs:=by
 show (Rat.inv q).num=_/\(Rat.inv q).den=_;unfold Rat.inv;rw [dif_neg (by omega),dif_pos h];exact ⟨rfl,rfl⟩
theorem inv_zero {q:Rat}(h:q.num=0):q⁻¹=0:=by
 have:q=0:=Qn5.1 h;subst this;exact Rat.inv_zero
theorem jN {k:Nat}{q:Rat}(h:Sz k q):Sz k q⁻¹:=by
 rcases Ww0 q.num 0 with a|a|a
 ·obtain ⟨b,c⟩:=inv_neg a;refine ⟨?_,?_⟩
  ·rw [b,Qf3];exact h.2
  ·rw [c];exact h.1
 ·rw [inv_zero a];exact ⟨Qz4 _,Qv5 (Qg6 q.den_nz) h.2⟩
 ·obtain ⟨b,c⟩:=inv_pos a;exact ⟨by rw [b];exact h.2,by rw [c];exact h.1⟩
theorem Fb {V:View}{v:Value}{q:Rat}(h:RR V v q){k:Nat}(hs:Sz k q)(hk:k<=1099511627776:=by omega):aa prog 203 #[v] V fun r V'=>RR V' r q⁻¹:=by
 rcases h with ⟨rfl,hw⟩|⟨a,b,p,n,c,s,t,y,rfl,z,A,B,C,D,hw⟩
 ·obtain ⟨l,m⟩:=hw;have H:=q.den_nz;refine nu _ _ _ V _ ⟨(fun d=>nomatch d),fun _=>⟨fun g I J=>?_,fun g=>⟨fun j K L=>?_,fun j M N=>?_⟩⟩⟩
  ·have g:=of_decide_eq_true g;obtain ⟨f,i⟩:=inv_neg g;refine .inl ⟨?_,?_⟩
   ·rw [f,i,ar (x:=(q.den:Int)-1+1) (by omega),ar (x:=0-q.num) (by omega),ar (x:=0-((q.den:Int)-1+1)) (by omega),ar (by omega)];congr 4
    ·omega
    ·congr 1;omega
   ·unfold Wd;rw [f,i,Qf3];exact ⟨m,l⟩
  ·have j:q.num=0:=by simpa using j
   rw [inv_zero j];exact .inl ⟨rfl,by decide,by decide⟩
  ·have g:¬q.num<0:=of_decide_eq_false g;have j:q.num≠0:=by simpa using j
   obtain ⟨f,i⟩:=inv_pos (q:=q);refine .inl ⟨?_,?_⟩
   ·rw [f,i,ar (x:=(q.den:Int)-1+1) (by omega),ar (by omega)];congr 4
    ·omega
    ·congr 1;omega
   ·unfold Wd;rw [f,i];exact ⟨m,l⟩
 ·obtain ⟨rfl,E⟩:=C.inv;have O:=ag hs.1;have P:=ag hs.2;refine nu _ _ _ V _ ⟨fun _=>⟨rfl,rfl,rfl,decide (q.num<0),⟨a.add 0,by simp [ah,Addr.add],z⟩,rfl,rfl,s,t,y,⟨a.add 2,rfl,B⟩,rfl,rfl,rfl,p,n,c,⟨a.add 1,by simp [ah,Addr.add],A⟩,fun Q o=>(cm _ (D.le o) (E.le o) (by omega)).mono ?_⟩,fun d=>nomatch d⟩;rintro r R S h
  have e:mkRat (aA (decide (q.num<0)) (ai q.den)) (val (ai q.num.natAbs))=q⁻¹:=by
   rw [ae]
   have F:aA (decide (q.num<0)) (ai q.den)=if q.num<0 then -(q.den:Int) else (q.den:Int):=by
    unfold aA;rw [ae];by_cases g:q.num<0<;>simp [g]
   rw [F];rcases Ww0 q.num 0 with d|d|d
   ·obtain ⟨f,i⟩:=inv_neg d;rw [if_pos d,←f,←i,Qp1]
   ·rw [inv_zero d,d];simp
   ·obtain ⟨f,i⟩:=inv_pos d;rw [if_neg (by omega),←f,←i,Qp1]
  rw [e] at h;obtain ⟨u,v,w,rfl⟩:=h.shape;exact ⟨_,_,_,rfl,fun T G=>h.le G⟩
theorem Fc {V:View}{v w:Value}{x y:Rat}(hx:RR V v x)(hy:RR V w y){k m:Nat}(hk:Sz k x)(hm:Sz m y)(hkm:k+m<1099511627776:=by omega) :
  aa prog 162 #[v,w] V fun r V'=>RR V' r (x*y⁻¹):=by
 have a:=hx;have b:=hy;obtain ⟨h,i,j,rfl⟩:=hx.shape;obtain ⟨l,s1,s2,rfl⟩:=hy.shape;refine xJ h i j l s1 s2 V _ fun q d=>(Fb (b.le d) hm).mono ?_;rintro r s n e;have c:=e;obtain ⟨u,v,w,rfl⟩:=e.shape;refine ⟨_,_,_,rfl,fun t f=>(jf (a.le (d.trans (n.trans f))) (c.le f) hk (jN hm) hkm).mono ?_⟩;rintro r z A g;have o:=g;obtain ⟨u,v,w,rfl⟩:=g.shape;exact ⟨_,_,_,rfl,fun B p=>o.le p⟩
theorem Lr (a b:Nat)(ha:a<4294967296)(hb:b<4294967296):aU .and .u32 (a:Int) (b:Int)=((a &&& b:Nat):Int):=by
 have c:(BitVec.ofInt IntKind.u32.bits ((a:Nat):Int) &&& BitVec.ofInt IntKind.u32.bits ((b:Nat):Int)).toNat=a &&& b:=by
  show (BitVec.ofInt 32 ((a:Nat):Int) &&& BitVec.ofInt 32 ((b:Nat):Int)).toNat=_;rw [Qk4,Qk4,Ww7,Qj9,Qj9,Qx7 (by omega),Qx7 (by omega)]
 have d:a &&& b<2^32:=Qg7 a (by omega);rw [aU,ij,c];omega
theorem SL (a b:Nat)(ha:a<4294967296)(hb:b<4294967296):aU .or .u32 (a:Int) (b:Int)=((a ||| b:Nat):Int):=by
 have c:(BitVec.ofInt IntKind.u32.bits ((a:Nat):Int) ||| BitVec.ofInt IntKind.u32.bits ((b:Nat):Int)).toNat=a ||| b:=by
  show (BitVec.ofInt 32 ((a:Nat):Int) ||| BitVec.ofInt 32 ((b:Nat):Int)).toNat=_;rw [Qk4,Qk4,Wx1,Qj9,Qj9,Qx7 (by omega),Qx7 (by omega)]
 have d:a ||| b<2^32:=Wq8 (by omega) (by omega);rw [aU,ij,c];omega
theorem JT (a b:Nat)(ha:a<4294967296)(hb:b<4294967296):aU .xor .u32 (a:Int) (b:Int)=((a ^^^ b:Nat):Int):=by
 have c:(BitVec.ofInt IntKind.u32.bits ((a:Nat):Int) ^^^ BitVec.ofInt IntKind.u32.bits ((b:Nat):Int)).toNat=a ^^^ b:=by
  show (BitVec.ofInt 32 ((a:Nat):Int) ^^^ BitVec.ofInt 32 ((b:Nat):Int)).toNat=_;rw [Qk4,Qk4,BitVec.toNat_xor,Qj9,Qj9,Qx7 (by omega),Qx7 (by omega)]
 have d:a ^^^ b<2^32:=Qc8 (by omega) (by omega);rw [aU,ij,c];omega
theorem PY {n:Nat}(h:n<4294967296):n / 2147483648=if n.testBit 31 then 1 else 0:=by
 rw [Qf4];have:(2:Nat)^31=2147483648:=by decide
 rw [this];split
 ·rename_i a;simp at a;omega
 ·rename_i a;simp at a;omega
theorem Fa {n:Nat}(h:n<4294967296:=by omega):n.testBit 31=decide (2147483648<=n):=by
 rw [Qf4];have:(2:Nat)^31=2147483648:=by decide
 rw [this];congr 1;simp;omega
theorem HI (x y c:Nat)(hx:x<4294967296)(hy:y<4294967296)(hc:c<=1){d:Nat}(hd:(d:Int)=((x:Int)-y-c)%4294967296) :
  (((4294967295 ^^^ x) &&& y) ||| ((4294967295 ^^^ (x ^^^ y)) &&& d)) / 2147483648=if x<y+c then 1 else 0:=by
 have k:(4294967295 ^^^ x)<2^32:=Qc8 (by omega) (by omega);have b:x ^^^ y<2^32:=Qc8 (by omega) (by omega);have l:(4294967295 ^^^ (x ^^^ y))<2^32:=Qc8 (by omega) b;have e:(4294967295 ^^^ x) &&& y<2^32:=Qg7 _ (by omega);have f:(4294967295 ^^^ (x ^^^ y)) &&& d<2^32:=Qg7 _ (by omega);have g:=Wq8 e f;rw [PY g];have a:d<4294967296:=by omega
 rw [Wy1,Nat.testBit_and,Nat.testBit_and,Wx6,Wx6,Wx6,Fa hx,Fa hy,Fa a,Fa (n:=4294967295)];by_cases h:2147483648<=x<;>by_cases i:2147483648<=y<;>by_cases j:2147483648<=d<;>simp [h,i,j]<;>omega
theorem Kh {V:View}(x y c:Nat)(hx:x<4294967296)(hy:y<4294967296)(hc:c<=1:=by omega) :
  aa prog 226 #[.int .u32 (x:Int),.int .u32 (y:Int),.int .u32 (c:Int)] V fun r V'=>∃d b:Nat,r=.tuple #[.int .u32 (d:Int),.int .u32 (b:Int)]/\d<4294967296/\b<=1/\d+(y+c)=x+4294967296*b:=by
 refine oD _ _ _ V _ ⟨by omega,fun n o=>?_⟩;obtain ⟨d,g⟩:∃d:Nat,(d:Int)=((x:Int)-y-c)%4294967296:=⟨(((x:Int)-y-c)%4294967296).toNat,by omega⟩;have a:d<4294967296:=by omega
 have h:u32.wrap (u32.wrap ((x:Int)-y)-c)=(d:Int):=by rw [ij,ij];omega
 have i:IntKind.u32.max=((4294967295:Nat):Int):=rfl;have j:(4294967295 ^^^ x)<2^32:=Qc8 (by omega) (by omega);have f:x ^^^ y<2^32:=Qc8 (by omega) (by omega);have k:(4294967295 ^^^ (x ^^^ y))<2^32:=Qc8 (by omega) f;have l:(4294967295 ^^^ x) &&& y<2^32:=Qg7 _ (by omega);have m:(4294967295 ^^^ (x ^^^ y)) &&& d<2^32:=Qg7 _ (by omega);rw [h,i,JT _ _ (by omega) hx,Lr _ _ j hy,JT _ _ hx hy,JT _ _ (by omega) f,Lr _ _ k a,SL _ _ l m,fu];have e:(2:Nat)^31=2147483648:=by decide
 rw [e,HI x y c hx hy hc g];refine ⟨d,_,rfl,a,?_,?_⟩
 ·split<;>omega
 ·split<;>omega
theorem Kc {V:View}(hi lo y:Nat)(hh:hi<y)(hl:lo<4294967296)(hy:y<4294967296) :
  aa prog 186 #[.int .u32 (hi:Int),.int .u32 (lo:Int),.int .u32 (y:Int)] V fun r V'=>r=.tuple #[.int .u32 (((hi*4294967296+lo) / y:Nat):Int),.int .u32 (((hi*4294967296+lo)%y:Nat):Int)]:=by
 have key:∀b:View,Value.tuple #[.int .u32 (u32.wrap (u64.wrap ((aU .or .u64 (u64.wrap ((u64.wrap (hi:Int))*2^32)) (u64.wrap (lo:Int))).tdiv (u64.wrap (y:Int))))),.int .u32 (u32.wrap ((aU .or .u64 (u64.wrap ((u64.wrap (hi:Int))*2^32)) (u64.wrap (lo:Int))).tmod (u64.wrap (y:Int))))]=.tuple #[.int .u32 (((hi*4294967296+lo) / y:Nat):Int),.int .u32 (((hi*4294967296+lo)%y:Nat):Int)]:=by
  intro _;have c:((2:Int)^32)=4294967296:=by decide
  have d:u64.wrap (hi:Int)=hi:=aM (by omega);have e:u64.wrap (lo:Int)=lo:=aM (by omega);have a:u64.wrap (y:Int)=y:=aM (by omega);have f:u64.wrap ((hi:Int)*4294967296)=(hi:Int)*4294967296:=aM (by omega);rw [d,c,f,e,a,Cm _ _ (by omega) hl];have g:(hi:Int)*4294967296+lo=((hi*4294967296+lo:Nat):Int):=by omega
  rw [g,←Int.ofNat_tdiv,←Int.ofNat_tmod]
  have m:(hi*4294967296+lo) / y<4294967296:=by
   rw [Qv0 (by omega)];have:(hi+1)*4294967296<=y*4294967296:=Qq9 _ hh;omega
  have n:(hi*4294967296+lo)%y<y:=Qv9 _ (by omega);generalize (hi*4294967296+lo) / y=q at *;generalize (hi*4294967296+lo)%y=r at *;have i:u64.wrap (q:Int)=q:=aM (by omega);have j:u32.wrap (q:Int)=q:=pW (by omega);have k:u32.wrap (r:Int)=r:=pW (by omega);rw [i,j,k]
 have a:u64.wrap (y:Int)=y:=aM (by omega);refine oz _ _ _ V _ ⟨fun _=>⟨fun h=>?_,fun _=>⟨by omega,by rw [a];omega,by rw [a];omega,fun b l=>key b⟩⟩,fun _=>⟨by omega,by rw [a];omega,by rw [a];omega,fun b l=>key b⟩⟩;simp at h;omega
theorem cJ {V:View}{p:OA}{n c:Nat}{ds:List Nat}(h:RD V p n c ds)(hm:ds.length<=4611686018427387904:=by omega) :
  aa prog 142 #[.slice p n c] V fun r V'=>∃k,r=.slice p k c/\RD V' p k c (bY ds):=by
 have j:=h.len;have l:=h.cap;refine Dc p n c V _ ?_;refine ⟨fun z V'=>0<=z/\z<=n/\bY (ds.take z.toNat)=bY ds,fun z=>z.toNat,⟨n,by (try dsimp only);and_intros<;>first|exact True.intro|rfl,by (try dsimp only);omega,by (try dsimp only);omega,?_⟩,?_⟩
 ·simp [j]
 ·rintro k q e ⟨f,m,d⟩;obtain ⟨k,rfl⟩:=Qq7 f;dsimp only at m d ⊢;simp only [Qq0] at d;refine ⟨rfl,fun a=>?_,fun a=>?_⟩
  ·have a:0<k:=by simpa using a
   have w:i64.wrap ((k:Int)-1)=((k-1:Nat):Int):=by rw [ar (by omega)];omega
   simp only [w];have g:ds.take k=ds.take (k-1)++[ds[k-1]]:=by rw [←Qx8 (by omega),Qv4 a]
   refine (h.le e).rd (k-1) rfl (by omega) ⟨fun b=>?_,fun b=>?_⟩
   ·have b:ds[k-1]=0:=by simpa using b
    refine ⟨_,?_,by (try dsimp only);and_intros<;>first|exact True.intro|rfl,?_,?_,?_⟩
    ·(try dsimp only);omega
    ·(try dsimp only);omega
    ·(try dsimp only);omega
    ·(try dsimp only)
     rw [←d,g,b,gV];rfl
   ·have b:ds[k-1]≠0:=by simpa using b
    refine ⟨⟨by omega,by omega⟩,fun o i=>⟨k,rfl,?_⟩⟩;rw [←d,g,oq _ _ b,←g];exact ((h.le e).le i).take (by omega)
  ·have a:k=0:=by simpa using a
   subst a;refine ⟨⟨by omega,by omega⟩,fun o i=>⟨0,rfl,?_⟩⟩;rw [←d];exact ((h.le e).le i).take (by omega)
theorem cS {V:View}(u:Nat)(h1:u<18446744073709551616:=by omega) :
  aa prog 105 #[.int .u64 (u:Int)] V fun r V'=>∃q k c',r=.slice q k c'/\RN V' q k c' u:=by
 refine Dd _ V _ ⟨by omega,fun e h f a=>?_⟩;rw [lB,ij,pW (by omega)] at a
 have a:e.bI f (.cells (aG [u%4294967296,u / 4294967296]).toArray 221 (0,0)):=by
  simpa [aG] using a
 have d:bK [u%4294967296,u / 4294967296]:=by simp [bK];omega
 refine (cJ (RD.bI a d (n:=2) (c:=2) rfl (Qq3 _)) (by simp)).mono ?_;rintro r i j ⟨k,rfl,b⟩;refine ⟨_,_,_,rfl,fun _ l g=>⟨_,_,_,rfl,?_⟩⟩;rw [aQ d] at b;have:val [u%4294967296,u / 4294967296]=u:=by simp;omega
 rw [this] at b;exact b.le g
theorem kb {V:View} :
  aa prog 136 #[] V fun r V'=>∃q k c',r=.slice q k c'/\RN V' q k c' 1:=by
 refine EW V _ fun b e c a=>⟨_,_,_,rfl,?_⟩;have d:ai 1=[1]:=Km (by omega);unfold RN;rw [d]
 have a:b.bI c (.cells (aG [1]).toArray 221 (0,0)):=by
  simpa [aG] using a
 exact RD.bI a (by simp [bK]) rfl (Qq3 _)
def G2 (x:Int):Int:=if 0<x then 1 else if x<0 then -1 else 0
theorem DU {V:View}(x:Int) :
  aa prog 182 #[.int .i64 x] V fun r V'=>r=.int .i64 (G2 x):=by
 refine Df x V _ ⟨fun h b c=>?_,fun h=>⟨fun a b c=>?_,fun a b c=>?_⟩⟩
 ·have h:0<x:=by simpa using h
  rw [G2,if_pos h]
 ·have h:x<0:=by simpa using a
  rw [G2,if_neg (by omega),if_pos h]
 ·have h:¬0<x:=by simpa using h
  have a:¬x<0:=by simpa using a
  rw [G2,if_neg h,if_neg a]
theorem fP {V:View}{p q:OA}{n c m e:Nat}{x y:Nat}(ha:RN V p n c x)(hb:RN V q m e y)(hm:(ai x).length<=1099511627776)(hn:(ai y).length<=1099511627776:=by omega) :
  aa prog 135 #[.slice p n c,.slice q m e] V fun r V'=>r=.int .i64 (jF x y):=by
 have v:=ha.len;have A:=hb.len;refine ES p n c q m e V _ ⟨fun g D E=>?_,fun g=>?_⟩
 ·have w:i64.wrap ((n:Int)-m)=(n:Int)-m:=ar (by omega);simp only [w];refine (DU _).mono ?_;rintro r F G rfl;refine ⟨_,rfl,fun H I=>?_⟩;have g:n≠m:=by simp at g;omega
  congr 1;rcases Qy8 n m with h|h
  ·have:=ki (a:=x) (b:=y);rw [jF,if_pos this,G2,if_neg (by omega),if_pos (by omega)]
  ·have:=ki (a:=y) (b:=x);rw [jF,if_neg (by omega),if_pos this,G2,if_pos (by omega)]
 ·have g:n=m:=by simp at g;omega
  subst g;have w:i64.wrap ((n:Int)-1)=(n:Int)-1:=ar (by omega);simp only [w];refine ⟨fun z V'=>-1<=z/\z<n/\(ai x).drop (z+1).toNat=(ai y).drop (z+1).toNat,fun z=>(z+1).toNat,⟨_,by (try dsimp only);and_intros<;>first|exact True.intro|rfl,by (try dsimp only);omega,by (try dsimp only);omega,?_⟩,?_⟩
  ·(try dsimp only)
   rw [Qx0 (by omega),Qx0 (by omega)]
  ·rintro i J j ⟨k,o,s⟩;dsimp only at k o s ⊢;refine ⟨by trivial,fun d=>?_,fun d K L=>?_⟩
   ·have d:0<=i:=by simpa using d
    obtain ⟨i,rfl⟩:=Qq7 d;have w:i64.wrap ((i:Int)-1)=(i:Int)-1:=ar (by omega);simp only [w];have f:(ai x).drop (i+1)=(ai y).drop (i+1):=s;refine (ha.le j).rd i rfl (by omega) ((hb.le j).rd i rfl (by omega) ⟨fun t B C=>?_,fun t=>?_⟩)
    ·have:=jv (aH y) (by omega) (by omega) f.symm (by simpa using t);rw [ae,ae] at this;rw [jF,if_neg (by omega),if_pos this]
    ·refine (ha.le j).rd i rfl (by omega) ((hb.le j).rd i rfl (by omega) ⟨fun u B C=>?_,fun u=>?_⟩)
     ·have:=jv (aH x) (by omega) (by omega) f (by simpa using u);rw [ae,ae] at this;rw [jF,if_pos this]
     ·refine ⟨_,?_,by (try dsimp only);and_intros<;>first|exact True.intro|rfl,?_,?_,?_⟩
      ·(try dsimp only);omega
      ·(try dsimp only);omega
      ·(try dsimp only);omega
      ·(try dsimp only)
       have:((i:Int)-1+1).toNat=i:=by omega
       rw [this,Qw4 (by omega),Qw4 (l:=ai y) (by omega),f];congr 1;simp at t u;omega
   ·have d:i=-1:=by simp at d;omega
    subst d;have:ai x=ai y:=by simpa using s
    have:=oX this;subst this;simp [jF]
theorem IE (a b:Nat):bO (a:Int) (b:Int)=((max a b:Nat):Int):=by
 unfold bO;split<;>omega
theorem Ga {V:View}{p q:OA}{n c m e:Nat}{xs ys:List Nat}(hx:RD V p n c xs)(hy:RD V q m e ys)(hm:xs.length<=1099511627776)(hn:ys.length<=1099511627776) :
  aa prog 184 #[.slice p n c,.slice q m e] V fun r V'=>∃p' n' c',r=.slice p' n' c'/\RN V' p' n' c' (val xs+val ys):=by
 have H:=hx.len;have O:=hy.len;have vc:=EZ p n c q m e V;have w:i64.wrap (((max n m:Nat):Int)+1)=((max n m+1:Nat):Int):=by rw [ar (by omega)];omega
 simp only [IE,w,Qq0] at vc;obtain ⟨k,I⟩:∃k,k=max n m:=⟨_,rfl⟩;rw [←I] at vc
 refine vc _ ⟨by omega,by omega,by omega,fun z V'=>0<=z.1/\z.1<=1/\0<=z.2.1/\z.2.1<=k/\∃es:List Nat,z.2.2=aG es/\es.length=k+1/\bK es /\
   val (es.take z.2.1.toNat)+4294967296^z.2.1.toNat*z.1.toNat=val (xs.take z.2.1.toNat)+val (ys.take z.2.1.toNat),fun z=>k-z.2.1.toNat,⟨(0,0,aG (List.replicate (k+1) 0)),by (try dsimp only);and_intros<;>first|exact True.intro|rfl|exact cE _,by (try dsimp only);omega,by (try dsimp only);omega,by (try dsimp only);omega,by (try dsimp only);omega,_,rfl,by simp,bK.rep _,by simp⟩,?_⟩
 rintro ⟨b,i,P⟩ Q D ⟨f,o,g,s,es,rfl,t,h,l⟩;dsimp only at f o g s l ⊢;obtain ⟨i,rfl⟩:=Qq7 g;obtain ⟨b,rfl⟩:=Qq7 f;simp only [Qq0] at l;refine ⟨by trivial,fun d=>?_,fun d=>?_⟩
 ·have d:i<k:=by simpa using d
  refine ⟨fun z V'=>∃x:Nat,z=x/\x<4294967296/\val (xs.take (i+1))=val (xs.take i)+4294967296^i*x,⟨fun a=>?_,fun a=>?_⟩,?_⟩
  ·have a:i<n:=by simpa using a
   refine (hx.le D).rd i rfl (by omega) ?_;exact ⟨_,by (try dsimp only);and_intros<;>first|exact True.intro|rfl,xs[i],rfl,hx.cV.get (by omega),az _ _⟩
  ·have a:n<=i:=by simpa using a
   exact ⟨_,by (try dsimp only);and_intros<;>first|exact True.intro|rfl,0,rfl,by omega,by rw [aq,aq];simp⟩
  rintro _ J E ⟨x,rfl,u,v⟩;refine ⟨by trivial,fun z V'=>∃y:Nat,z=y/\y<4294967296/\val (ys.take (i+1))=val (ys.take i)+4294967296^i*y,⟨fun a=>?_,fun a=>?_⟩,?_⟩
  ·have a:i<m:=by simpa using a
   refine ((hy.le D).le E).rd i rfl (by omega) ?_;exact ⟨_,by (try dsimp only);and_intros<;>first|exact True.intro|rfl,ys[i],rfl,hy.cV.get (by omega),az _ _⟩
  ·have a:m<=i:=by simpa using a
   exact ⟨_,by (try dsimp only);and_intros<;>first|exact True.intro|rfl,0,rfl,by omega,by rw [aq,aq];simp⟩
  rintro _ K L ⟨y,rfl,A,B⟩;refine ⟨by trivial,fun M F=>(Kb x y b u A).mono ?_⟩;rintro r R S rfl;have w:i64.wrap ((i:Int)+1)=((i+1:Nat):Int):=by rw [ar (by omega)];omega
  simp only [w,Qq0];refine ⟨_,_,rfl,⟨by omega,by omega⟩,by simp;omega,(((x+y+b) / 4294967296:Nat),((i+1:Nat):Int),aG (es.set i ((x+y+b)%4294967296))),?_,by (try dsimp only);and_intros<;>first|exact True.intro|rfl|(rw [←bz];simp),?_⟩
  ·(try dsimp only);omega
  ·(try dsimp only)
   refine ⟨by omega,by omega,by omega,by omega,_,rfl,by simpa using t,h.set _ _ (by omega),?_⟩;simp only [Qq0];rw [aL _ _ _,Qz6,v,B];exact uh l
 ·have d:i=k:=by simp at d;omega
  subst d;refine ⟨⟨by omega,by omega⟩,by simp;omega,fun J E T C=>?_⟩;have G:(aG es).set (0+((i:Int).toNat)*1) (.int .u32 (b:Int))=aG (es.set i b):=by rw [←bz];simp
  simp only [Qq0] at G;try simp only [Qq0] at C
  rw [G] at C;have j:=h.set i b (by omega);refine (cJ (RD.bI C j (n:=i+1) (c:=i+1) (by simp;omega) (Qq3 _)) (by simp;omega)).mono ?_;rintro r K L ⟨k,rfl,a⟩;refine ⟨_,_,_,rfl,fun _ M F=>⟨_,_,_,rfl,?_⟩⟩;rw [aQ j] at a
  have N:val (es.set i b)=val xs+val ys:=by
   have:=aL es i b;rw [aq (by simp;omega)] at this;rw [this,l,aq,aq]
  rw [N] at a;exact a.le F
theorem EC {E A B c x y W d b:Nat}(h:E+B=A+W*c)(hv:d+(y+c)=x+4294967296*b) :
  E+W*d+(B+W*y)=A+W*x+W*4294967296*b:=by
 have:=congrArg (W*·) hv;simp only [Qj1,←Qz7] at this;omega
theorem nJ {V:View}{p q:OA}{n c m e:Nat}{xs ys:List Nat}(hx:RD V p n c xs)(hy:RD V q m e ys)(hm:xs.length<=1099511627776)(hl:ys.length<=xs.length)(hle:val ys<=val xs) :
  aa prog 185 #[.slice p n c,.slice q m e] V fun r V'=>∃p' n' c',r=.slice p' n' c'/\RN V' p' n' c' (val xs-val ys):=by
 have G:=hx.len;have N:=hy.len
 refine C7 p n c q m e V _ ⟨by omega,by omega,by omega,fun z V'=>0<=z.1/\z.1<=1/\0<=z.2.1/\z.2.1<=n/\∃es:List Nat,z.2.2=aG es/\es.length=n/\bK es /\
   val (es.take z.2.1.toNat)+val (ys.take z.2.1.toNat)=val (xs.take z.2.1.toNat)+4294967296^z.2.1.toNat*z.1.toNat,fun z=>n-z.2.1.toNat,
   ⟨(0,0,List.replicate n (.int .u32 0)),by (try dsimp only);and_intros<;>first|exact True.intro|rfl,by (try dsimp only);omega,by (try dsimp only);omega,by (try dsimp only);omega,by (try dsimp only);omega,List.replicate n 0,cE n,by simp,bK.rep _,by simp⟩,?_⟩
 rintro ⟨l,i,O⟩ P C ⟨o,u,s,v,es,rfl,g,a,t⟩;dsimp only at o u s v t ⊢;obtain ⟨i,rfl⟩:=Qq7 s;obtain ⟨l,rfl⟩:=Qq7 o;simp only [Qq0] at t;refine ⟨by trivial,fun j=>?_,fun j=>?_⟩
 ·have j:i<n:=by simpa using j
  refine ⟨fun z V'=>∃y:Nat,z=y/\y<4294967296/\val (ys.take (i+1))=val (ys.take i)+4294967296^i*y,⟨fun f=>?_,fun f=>?_⟩,?_⟩
  ·have f:i<m:=by simpa using f
   refine (hy.le C).rd i rfl (by omega) ?_;exact ⟨_,by (try dsimp only);and_intros<;>first|exact True.intro|rfl,ys[i],rfl,hy.cV.get (by omega),az _ _⟩
  ·have f:m<=i:=by simpa using f
   exact ⟨_,by (try dsimp only);and_intros<;>first|exact True.intro|rfl,0,rfl,by omega,by rw [aq,aq];simp⟩
  rintro _ H D ⟨y,rfl,x,A⟩;refine ⟨by trivial,?_⟩;refine ((hx.le C).le D).rd i rfl (by omega) fun I J=>(Kh _ y l (hx.cV.get (by omega)) x).mono ?_;rintro r K E ⟨d,b,rfl,Q,F,B⟩;have w:i64.wrap ((i:Int)+1)=((i+1:Nat):Int):=by rw [ar (by omega)];omega
  simp only [w,Qq0];refine ⟨_,_,rfl,⟨by omega,by omega⟩,by simp;omega,((b:Int),((i+1:Nat):Int),aG (es.set i d)),?_,by (try dsimp only);and_intros<;>first|exact True.intro|rfl|(rw [←bz];simp),?_⟩
  ·(try dsimp only);omega
  ·(try dsimp only)
   refine ⟨by omega,by omega,by omega,by omega,_,rfl,by simpa using g,a.set _ _ (by omega),?_⟩;simp only [Qq0];rw [aL _ _ _,Qz6,az xs i,A];exact EC t B
 ·have j:i=n:=by simp at j;omega
  subst j;simp only [Qq0];intro H D R F;refine (cJ (RD.bI F a (n:=i) (c:=i) g.symm (Qq3 _))).mono ?_;rintro r I J ⟨k,rfl,f⟩;refine ⟨_,_,_,rfl,fun _ K E=>⟨_,_,_,rfl,?_⟩⟩;rw [aQ a] at f;rw [aq,aq,aq] at t;have L:=eQ a;rw [g] at L
  have M:l=0:=by
   rcases Qx9 l with h|h
   ·exact h
   ·have:4294967296^i*1<=4294967296^i*l:=Qy4 _ h;omega
  subst M;rw [show val es=val xs-val ys from by omega] at f;exact f.le E
theorem Cv {V:View}{p:OA}{n c:Nat}{ds:List Nat}(h:RD V p n c ds){K:Int->Prop}(hn:0<ds.length)
  (hK:K ((ds[0]:Nat):Int)):(p.isSome=true)/\(0<=(0:Int)/\(0:Int)<(n:Int))/\∃x:Int,(∃a,ah p 0=some a/\V.at a (.int .u32 x))/\K x:=by
 have:=h.rd (i:=0) (K:=K) 0 rfl hn hK;simpa using this
theorem K4 {V:View}{p:OA}{n c:Nat}{ds:List Nat}(h:RD V p n c ds){K:Int->Prop}(j:Nat)(hn:j<ds.length)
  (hK:K ((ds[j]:Nat):Int)):(p.isSome=true)/\(0<=(j:Int)/\(j:Int)<(n:Int))/\∃x:Int,(∃a,ah p j=some a/\V.at a (.int .u32 x))/\K x:=by
 have:=h.rd (i:=j) (K:=K) j rfl hn hK;simpa using this
theorem kV {ds:List Nat}(h:ds.length=1:=by omega):∃a,ds=[a]:=by
 match ds,h with
 | [a],_=>exact ⟨a,rfl⟩
theorem EF {ds:List Nat}(h:ds.length=2:=by omega):∃a b,ds=[a,b]:=by
 match ds,h with
 | [a,b],_=>exact ⟨a,b,rfl⟩
theorem cp {V:View}{p q:OA}{n c m e:Nat}{xs ys:List Nat}(hx:RD V p n c xs)(hy:RD V q m e ys)(hm:xs.length+ys.length<=1099511627776:=by omega) :
  aa prog 81 #[.slice p n c,.slice q m e] V fun r V'=>∃p' n' c',r=.slice p' n' c'/\RN V' p' n' c' (val xs*val ys):=by
 have X:=hx.len;have zc:=hy.len;have y:((n:Int)+m).toNat=n+m:=by omega
 have w:i64.wrap ((n:Int)+m)=(n:Int)+m:=ar (by omega);have vc:=wD p n c q m e V;simp only [w,y,cE] at vc;refine (fun tail=>vc _ ⟨fun S=>⟨fun A=>?_,fun _=>tail⟩,fun _=>tail⟩) ?_
 ·have S:n=1:=by simp at S;omega
  have A:m=1:=by simp at A;omega
  clear tail vc;obtain ⟨a,rfl⟩:=kV (ds:=xs);obtain ⟨b,rfl⟩:=kV (ds:=ys);have T:=hx.cV.get (i:=0) (by simp);have B:=hy.cV.get (i:=0) (by simp);refine Cv hx (by simp) (Cv hy (by simp) fun V1 l1=>?_);simp only [Qr8] at T B ⊢;have ni:a*b<=4294967295*4294967295:=Qm1 (by omega) (by omega);have J:u64.wrap (a:Int)=a:=aM (by omega);have K:u64.wrap (b:Int)=b:=aM (by omega);have Y:(a:Int)*(b:Int)=((a*b:Nat):Int):=by simp
  have Z:u64.wrap ((a*b:Nat):Int)=((a*b:Nat):Int):=aM (by omega);rw [J,K,Y,Z];refine (cS (a*b)).mono ?_;rintro r V2 l2 ⟨p',n',c',rfl,h⟩;refine ⟨_,_,_,rfl,fun V3 l3=>⟨_,_,_,rfl,?_⟩⟩;simp only [bq,dS,Qj3,Qy9];exact h.le l3
 refine ⟨by omega,by omega,by omega,fun z V'=>0<=z.1/\z.1<=n/\∃es:List Nat,z.2=aG es/\es.length=n+m/\bK es /\
  val (es.take (z.1.toNat+m))=val (xs.take z.1.toNat)*val ys,fun z=>n-z.1.toNat,⟨(0,aG (List.replicate (n+m) 0)),by (try dsimp only);and_intros<;>first|exact True.intro|rfl,by (try dsimp only);omega,by (try dsimp only);omega,_,rfl,by simp,bK.rep _,by simp [t_,Qp4]⟩,?_⟩
 rintro ⟨i,vs⟩ V5 U ⟨C,L,es,rfl,M,o,D⟩;dsimp only at C L D ⊢;obtain ⟨i,rfl⟩:=Qq7 C;simp only [Qq0] at D;refine ⟨by trivial,fun v=>?_,fun v=>?_⟩
 ·have v:i<n:=by simpa using v
  refine (hx.le U).rd i rfl (by omega) ?_;have T:=hx.cV.get (i:=i) (by omega)
  refine ⟨fun z V'=>0<=z.1/\z.1<=4294967295/\0<=z.2.1/\z.2.1<=m/\∃d:List Nat,z.2.2=aG d/\d.length=n+m/\bK d/\d.drop (i+z.2.1.toNat)=es.drop (i+z.2.1.toNat) /\
   val (d.take (i+z.2.1.toNat))+4294967296^(i+z.2.1.toNat)*z.1.toNat=val (es.take (i+z.2.1.toNat))+4294967296^i*xs[i]*val (ys.take z.2.1.toNat),fun z=>m-z.2.1.toNat,
   ⟨(0,0,aG es),by (try dsimp only);and_intros<;>first|exact True.intro|rfl,by (try dsimp only);omega,by (try dsimp only);omega,by (try dsimp only);omega,by (try dsimp only);omega,es,rfl,M,o,rfl,by simp⟩,?_⟩
  rintro ⟨I,k,vs⟩ V6 W ⟨E,N,F,O,d,rfl,G,s,j,hw⟩;dsimp only at E N F O j hw ⊢;obtain ⟨k,rfl⟩:=Qq7 F;obtain ⟨I,rfl⟩:=Qq7 E;simp only [Qq0] at j hw;refine ⟨by trivial,fun g=>?_,fun g=>?_⟩
  ·have g:k<m:=by simpa using g
   refine (hy.le (U.trans W)).rd k rfl (by omega) ?_;have B:=hy.cV.get (i:=k) (by omega);have RW:=s.get (i:=i+k) (by omega)
   have P:d[i+k]'(by omega)=es[i+k]'(by omega):=by
    have A:d[i+k]?=es[i+k]?:=by
     have:=congrArg (fun l=>l[0]?) j;simpa [Qm2] using this
    rw [Qq1 (by omega),Qq1 (by omega)] at A;exact Qm5 A
   simp (disch:=omega) only [ar];have u:((i:Int)+k).toNat=i+k:=by omega
   rw [u];refine ⟨⟨by omega,by omega⟩,((d[i+k]'(by omega):Nat):Int),by rw [Qy1,Qk0];exact fB,⟨by omega,by omega⟩,by simp;omega,by omega,?_⟩;have a0:xs[i]*ys[k]<=4294967295*4294967295:=Qm1 (by omega) (by omega);have MN:(xs[i]:Int)*(ys[k]:Int)=((xs[i]*ys[k]:Nat):Int):=by simp
   obtain ⟨t,ht⟩:∃t:Nat,t=I+xs[i]*ys[k]+d[i+k]'(by omega):=⟨_,rfl⟩;rw [Qy6] at hw;have f:=Ci hw ht
   have J:u64.wrap (u64.wrap (u64.wrap (u64.wrap (xs[i]:Int)*u64.wrap (ys[k]:Int))+u64.wrap ((d[i+k]'(by omega):Nat):Int))+(I:Int))=(t:Int):=by
    clear f;generalize xs[i]*ys[k]=pq at *;rw [aM (x:=(xs[i]:Int)) (by omega),aM (x:=(ys[k]:Int)) (by omega),MN,aM (x:=((pq:Nat):Int)) (by omega)];simp (disch:=omega) only [aM];omega
   rw [J,ij,lB];refine ⟨(_,_,_),?_,by (try dsimp only);and_intros<;>first|exact True.intro|rfl,?_⟩
   ·(try dsimp only);omega
   ·(try dsimp only)
    have H:((k:Int)+1).toNat=k+1:=by omega
    refine ⟨by omega,by omega,by omega,by omega,d.set (i+k) (t%4294967296),?_,by simpa using G,s.set _ _ (by omega),?_,?_⟩
    ·rw [←bz];simp
    ·rw [H,Qv8 (by omega)];have:=congrArg (List.drop 1) j;simpa [Qm0,Qd7,Qj2,Qg1] using this
    ·rw [H,show i+(k+1)=i+k+1 from by omega,aL _ _ _,az es (i+k),az ys k,←P,Qz6];have K:((t:Int) / 4294967296).toNat=t / 4294967296:=by omega
     rw [K,Qy6,f]
  ·have g:k=m:=by simp at g;omega
   subst g;simp (disch:=omega) only [ar];have u:((i:Int)+k).toNat=i+k:=by omega
   rw [u];refine ⟨⟨by omega,by omega⟩,by simp;omega,(_,_),?_,by (try dsimp only);and_intros<;>first|exact True.intro|rfl,?_⟩
   ·(try dsimp only);omega
   ·(try dsimp only)
    have Q:((i:Int)+1).toNat=i+1:=by omega
    refine ⟨by omega,by omega,d.set (i+k) I,?_,by simpa using G,s.set _ _ (by omega),?_⟩
    ·rw [←bz,pW (by omega)];simp
    ·rw [Q,show i+1+k=i+k+1 from by omega,aL _ _ _,hw,D,az xs i,aq (ds:=ys)];grind
 ·have v:i=n:=by simp at v;omega
  subst v;intro V6 W bk R;refine (cJ (RD.bI R o (n:=i+m) (c:=i+m) (by omega) (Qq3 _))).mono ?_;rintro r V7 l7 ⟨k,rfl,g⟩;refine ⟨_,_,_,rfl,fun _ V8 l8=>⟨_,_,_,rfl,?_⟩⟩;rw [aQ o] at g;rw [aq,aq] at D;rw [D] at g;exact g.le l8
theorem kJ {V:View}{p:OA}{n c:Nat}{ds:List Nat}(h:RD V p n c ds)(hm:ds.length<=1099511627776:=by omega) :
  aa prog 181 #[.slice p n c] V fun r V'=>r=.tuple #[.int .u64 ((if n<=2 then val ds else 0:Nat):Int),.bool (decide (n<=2))]:=by
 have u:=h.len;refine Dg p n c V _ ⟨fun e k l=>?_,fun e=>⟨fun f=>?_,fun f=>⟨fun d=>?_,fun d k l=>?_⟩⟩⟩
 ·have e:n=0:=by simp at e;omega
  subst e;have:ds=[]:=Qq6.1 (by omega);subst this;rfl
 ·have f:n=1:=by simp at f;omega
  subst f;obtain ⟨a,rfl⟩:=kV (ds:=ds);have o:=h.cV.get (i:=0) (by simp);refine Cv h (by simp) fun k l=>?_;simp only [Qr8] at o ⊢;have m:u64.wrap (a:Int)=a:=aM (by omega);rw [m,if_pos (by omega),decide_eq_true (by omega)];simp
 ·have d:n=2:=by simp at d;omega
  subst d;obtain ⟨a,b,rfl⟩:=EF (ds:=ds);have g:=h.cV.get (i:=0) (by simp);have j:=h.cV.get (i:=1) (by simp);refine K4 h 1 (by simp) ⟨by omega,Cv h (by simp) fun k l=>?_⟩;simp only [Qr8,List.getElem_cons_succ] at g j ⊢;have m:u64.wrap (a:Int)=a:=aM (by omega);have q:u64.wrap (b:Int)=b:=aM (by omega);have s:((2:Int)^32)=4294967296:=by decide
  have t:u64.wrap ((b:Int)*4294967296)=(b:Int)*4294967296:=aM (by omega);rw [m,q,s,t,Cm _ _ j g,if_pos (by omega),decide_eq_true (by omega)];simp only [bq,dS];congr 4;omega
 ·have d:¬n<=2:=by simp at e f d;omega
  rw [if_neg d,decide_eq_false d];rfl
theorem GP (b:Nat):0 ||| b=b:=Nat.zero_or b
theorem kI {V:View}{p:OA}{n c:Nat}{ds:List Nat}(hx:RD V p n c ds)(hm:ds.length<=1099511627776)(k:Nat)(hk:k<=35184372088832:=by omega) :
  aa prog 228 #[.slice p n c,.int .i64 (k:Int)] V fun r V'=>∃p' n' c',r=.slice p' n' c'/\RN V' p' n' c' (val ds*2^k):=by
 have hl:=hx.len;have y:(k:Int).tdiv 32=((k / 32:Nat):Int):=by rw [Qk1 (by omega)];omega
 have A:(k:Int).tmod 32=((k%32:Nat):Int):=by rw [Qz3 (by omega)];omega
 have vc:=C6 p n c k V
 have g:val ds*2^k=4294967296^(k / 32)*val ds*2^(k%32):=by
  have:2^k=4294967296^(k / 32)*2^(k%32):=by
   rw [show (4294967296:Nat)=2^32 from rfl,←Qs0,←Qy6,Qc6]
  rw [this];grind
 rw [g];have C:k / 32<=1099511627776:=by omega
 have o:k%32<32:=Qv9 _ (by omega);rw [y,A] at vc;generalize k / 32=w at *;generalize k%32=r at *;clear y A g;have D:i64.wrap (w:Int)=(w:Int):=ar (by omega);have E:i64.wrap ((w:Int)+n)=((w+n:Nat):Int):=by rw [ar (by omega)];omega
 have F:i64.wrap (((w+n:Nat):Int)+1)=((w+n+1:Nat):Int):=by rw [ar (by omega)];omega
 have G:u64.wrap (r:Int)=(r:Int):=aM (by omega)
 have h:(min r IntKind.u64.bits)=r:=by
  show min _ 64=r;omega
 have H:((2:Int)^r)=((2^r:Nat):Int):=by simp
 simp only [D,E,F,G,Qq0,h,H,cE] at vc
 refine vc _ ⟨by omega,by omega,by omega,by omega,by omega,fun z V'=>0<=z.1/\z.1<=n/\∃es:List Nat,z.2=aG es/\es.length=w+n+1/\bK es/\(∀c,es[z.1.toNat+w]?=some c->c<2^r)/\(∀j c,z.1.toNat+w<j->es[j]?=some c->c=0) /\
   val (es.take (z.1.toNat+w+1))=4294967296^w*val (ds.take z.1.toNat)*2^r,fun z=>n-z.1.toNat,
   ⟨(0,aG (List.replicate (w+n+1) 0)),by (try dsimp only);and_intros<;>first|exact True.intro|rfl,by (try dsimp only);omega,by (try dsimp only);omega,_,rfl,by simp,bK.rep _,?_,?_,?_⟩,?_⟩
 ·intro c a;rw [Qp8] at a;split at a
  ·cases a;exact Qz4 r
  ·cases a
 ·intro j c _ a;rw [Qp8] at a;split at a
  ·cases a;rfl
  ·cases a
 ·simp [Qp4,t_]
 rintro ⟨i,vs⟩ V4 I ⟨l,q,es,rfl,s,d,a,m,e⟩;dsimp only at l q a m e ⊢;obtain ⟨i,rfl⟩:=Qq7 l;simp only [Qq0] at a m e;refine ⟨by trivial,fun f=>?_,fun f=>?_⟩
 ·have f:i<n:=by simpa using f
  have J:i64.wrap ((w:Int)+i)=((i+w:Nat):Int):=by rw [ar (by omega)];omega
  have K:i64.wrap (((i+w:Nat):Int)+1)=((i+w+1:Nat):Int):=by rw [ar (by omega)];omega
  have L:i64.wrap ((i:Int)+1)=((i+1:Nat):Int):=by rw [ar (by omega)];omega
  simp only [J,K,L,Qq0,Qk0,Qy1];refine K4 (hx.le I) i (by omega) ?_;have M:=hx.cV.get (i:=i) (by omega);have t:=a (es[i+w]'(by omega)) (Qq1 _);have N:=m (i+w+1) (es[i+w+1]'(by omega)) (by omega) (Qq1 _);obtain ⟨O,g2,P,g4⟩:=CD M o t;have hmul:((ds[i]:Nat):Int)*((2^r:Nat):Int)=((ds[i]*2^r:Nat):Int):=by simp
  have Q:u64.wrap ((ds[i]:Nat):Int)=((ds[i]:Nat):Int):=aM (by omega);have R:u64.wrap ((ds[i]*2^r:Nat):Int)=((ds[i]*2^r:Nat):Int):=aM (by omega);have S:u32.wrap ((ds[i]*2^r:Nat):Int)=((ds[i]*2^r%4294967296:Nat):Int):=by rw [ij];omega
  have T:u32.wrap (((ds[i]*2^r:Nat):Int).fdiv (2^32))=((ds[i]*2^r / 4294967296:Nat):Int):=by rw [lB,ij];omega
  simp only [Q,hmul,R,S,T];have u:ds[i]*2^r / 4294967296<4294967296:=by omega
  have U:=Qg0 (ds[i]*2^r) 4294967296;have v:val (List.take (i+1) ds)=val (List.take i ds)+4294967296^i*ds[i]:=az _ _;have W:val (es.take (i+w+1))=val (es.take (i+w))+4294967296^(i+w)*es[i+w]'(by omega):=az _ _;have x:ds[i]*2^r%4294967296<4294967296:=Qv9 _ (by omega);generalize ds[i]*2^r%4294967296=lo at *;generalize ds[i]*2^r / 4294967296=hi at *;refine ⟨by omega,by omega,⟨by omega,by omega⟩,((es[i+w]'(by omega):Nat):Int),fB,⟨by omega,by omega⟩,by simp;omega,by omega,⟨by omega,by omega⟩,((es[i+w+1]'(by omega):Nat):Int),?_,by omega,⟨by omega,by omega⟩,by simp;omega,?_⟩
  ·rw [Qs5 (by omega)];exact fB
  have X:es[i+w]'(by omega)<4294967296:=d.get (by omega);rw [El _ _ X x,O,N,El _ _ (by omega) u,GP];refine ⟨(((i+1:Nat):Int),aG ((es.set (i+w) (es[i+w]'(by omega)+lo)).set (i+w+1) hi)),?_,?_,?_⟩
  ·(try dsimp only);omega
  ·(try dsimp only);and_intros<;>first|exact True.intro|rfl|rw [←bz,←bz]
  ·(try dsimp only)
   refine ⟨by omega,by omega,_,rfl,by simpa using s,(d.set _ _ (by omega)).set _ _ (by omega),?_,?_,?_⟩
   ·intro c b;simp only [Qq0] at b;rw [show i+1+w=i+w+1 from by omega,List.getElem?_set_self (by simp;omega)] at b;cases b;exact P
   ·intro j c Y b;simp only [Qq0] at Y;rw [Qs5 (by omega),Qs5 (by omega)] at b;exact m j c (by omega) b
   ·simp only [Qq0];rw [show i+1+w+1=i+w+1+1 from by omega,aL _ _ _ (by simp;omega),aL _ _ _,v];rw [W] at e;have Z:4294967296^(i+w+1)*hi=4294967296^(i+w)*(4294967296*hi):=by rw [Qz6];grind
    rw [Z,Qj1,←Qj2,e,Qj2,←Qj1,U,Qy6];grind
 ·have f:i=n:=by simp at f;omega
  subst f;intro V5 l5 bk hb;refine (cJ (RD.bI hb d (n:=w+i+1) (c:=w+i+1) (by omega) (Qq3 _))).mono ?_;rintro r' V6 l6 ⟨k',rfl,B⟩;refine ⟨_,_,_,rfl,fun _ V7 l7=>⟨_,_,_,rfl,?_⟩⟩;rw [aq,aq] at e;rw [aQ d,e] at B;exact B.le l7
theorem hZ (a:Addr)(m n:Nat):(a.add m).add n=a.add (m+n):=by
 unfold Addr.add;by_cases b:m=0
 ·subst b;simp
 ·by_cases c:n=0
  ·subst c;simp [b]
  ·rw [if_neg b,if_neg c,if_neg (by omega)];simp only [Qj2]
theorem Mh {V:View}{p:OA}{n c:Nat}{ds:List Nat}(h:RD V p n c ds){k:Nat}(hk:k<n):RD V (tj p c k 1) (n-k) (c-k) (ds.drop k):=by
 have g:=h.len;have j:=h.cap;have e:tj p c k 1=ah p k:=by unfold tj;rw [if_neg (by omega),Qk0]
 rw [e];refine ⟨by simp;omega,by omega,fun i v b=>?_,h.cV.drop k,fun l=>?_⟩
 ·rw [G8,Qm2] at b;obtain ⟨d,f,a⟩:=h.sl _ _ b;refine ⟨d.add k,by rw [f];rfl,?_⟩;rw [hZ];exact a
 ·have:p.isNone=true:=by cases p<;>simp_all [ah]
  have:=h.KO this;omega
theorem BB {V:View}{p:OA}{n c:Nat}{ds:List Nat}(hd:RD V p n c ds)(hm:ds.length<=1099511627776)(k:Nat)(hk:k<=35184372088832:=by omega) :
  aa prog 229 #[.slice p n c,.int .i64 (k:Int)] V fun r V'=>∃p' n' c',r=.slice p' n' c'/\RN V' p' n' c' (val ds / 2^k):=by
 have U:=hd.len;have F:(k:Int).tdiv 32=((k / 32:Nat):Int):=by rw [Qk1 (by omega)];omega
 have v:(k:Int).tmod 32=((k%32:Nat):Int):=by rw [Qz3 (by omega)];omega
 have vc:=AQ p n c k V
 have o:val ds / 2^k=val ds / 4294967296^(k / 32) / 2^(k%32):=by
  rw [Nat.div_div_eq_div_mul,show (4294967296:Nat)=2^32 from rfl,←Qs0,←Qy6,Qc6]
 rw [o];have J:k / 32<=1099511627776:=by omega
 have y:k%32<32:=Qv9 _ (by omega);rw [F,v] at vc;generalize k / 32=w at *;generalize k%32=r at *;clear F v o;have K:i64.wrap (w:Int)=(w:Int):=ar (by omega);have L:u64.wrap (r:Int)=(r:Int):=aM (by omega)
 have q:(min r IntKind.u64.bits)=r:=by
  show min _ 64=r;omega
 simp only [K,L,Qq0,q,cE] at vc;refine vc _ ⟨by omega,fun h W X=>?_,fun h=>?_⟩
 ·have h:n<=w:=by simp at h;omega
  have a:=eQ hd.cV;have:4294967296^ds.length<=4294967296^w:=Qw9 (by omega) (by omega);rw [Qj5 (Qx2 a this),Wx4];exact ⟨_,_,_,rfl,RD.nil⟩
 ·have h:w<n:=by simp at h;omega
  clear vc
  have s:val ds / 4294967296^w=val (ds.drop w):=by
   have e:val ds=val (ds.take w++ds.drop w):=by rw [Qk5]
   have a:=eQ (hd.cV.take w);rw [cU] at e;rw [Qw0,Qy5 (by omega)] at e a;rw [e,Qf6 _ _ (Qp5 (by omega)),Qj5 a,Qy1]
  rw [s];have j:=Mh hd h;have M:=j.len;clear s;generalize tj p c w 1=sp at *;generalize ds.drop w=xs at *;generalize hN:n-w=N at *
  refine ⟨by omega,by omega,⟨by omega,by omega⟩,by omega,by omega,by omega,fun z V'=>0<=z.1/\z.1<=N/\∃es:List Nat,z.2=aG es/\es.length=N/\bK es /\
   val (es.take z.1.toNat)+4294967296^z.1.toNat*(val (xs.drop z.1.toNat) / 2^r)=val xs / 2^r,fun z=>N-z.1.toNat,
   ⟨(0,aG (List.replicate N 0)),by (try dsimp only);and_intros<;>first|exact True.intro|rfl,by (try dsimp only);omega,by (try dsimp only);omega,_,rfl,by simp,bK.rep _,by simp⟩,?_⟩
  rintro ⟨i,Z⟩ V4 G ⟨t,A,es,rfl,B,f,b⟩;dsimp only at t A b ⊢;obtain ⟨i,rfl⟩:=Qq7 t;simp only [Qq0] at b;refine ⟨by trivial,fun m=>?_,fun m=>?_⟩
  ·have m:i<N:=by simpa using m
   have O:i64.wrap ((i:Int)+1)=((i+1:Nat):Int):=by rw [ar (by omega)];omega
   simp only [O,Qq0,Qk0,Qy1];refine K4 (j.le G) i (by omega) ?_;have H:=j.cV.get (i:=i) (by omega);refine ⟨fun z V'=>z=((xs[i]+4294967296*(xs[i+1]?).getD 0:Nat):Int),⟨fun d=>?_,fun d=>?_⟩,?_⟩
   ·have d:i+1<N:=by simp at d;omega
    have C:=j.cV.get (i:=i+1) (by omega)
    have E:aU .or .u64 (u64.wrap ((xs[i]:Nat):Int)) (u64.wrap (u64.wrap ((xs[i+1]:Nat):Int)*2^32))=((xs[i]+4294967296*(xs[i+1]?).getD 0:Nat):Int):=by
     have v:((2:Int)^32)=4294967296:=by decide
     rw [v,aM (by omega),aM (x:=((xs[i+1]:Nat):Int)) (by omega),aM (by omega),I6 _ _ C H,Qq1 (by omega),Qm9];omega
    refine K4 (j.le G) (i+1) (by omega) ⟨by omega,((xs[i]+4294967296*(xs[i+1]?).getD 0:Nat):Int),?_,rfl⟩
    (try dsimp only);and_intros<;>first|exact True.intro|exact E|rfl
   ·have d:N<=i+1:=by simp at d;omega
    have E:u64.wrap ((xs[i]:Nat):Int)=((xs[i]+4294967296*(xs[i+1]?).getD 0:Nat):Int):=by
     rw [aM (by omega),Qj6 (by omega)];simp
    refine ⟨((xs[i]+4294967296*(xs[i+1]?).getD 0:Nat):Int),?_,rfl⟩
    (try dsimp only);and_intros<;>first|exact True.intro|exact E|rfl
   rintro _ P Q rfl;have u:=CE (Y:=val (xs.drop (i+1))) H y;rw [pX j.cV] at u
   have g:val (xs.drop i)=xs[i]+4294967296*val (xs.drop (i+1)):=by
    rw [Qw4 (by omega),bq]
   rw [g,u] at b;rw [fu,ij];obtain ⟨D,I⟩:∃D,D=(xs[i]+4294967296*(xs[i+1]?).getD 0) / 2^r%4294967296:=⟨_,rfl⟩;have R:(((xs[i]+4294967296*(xs[i+1]?).getD 0) / 2^r:Nat):Int)%4294967296=(D:Int):=by rw [I];omega
   rw [R];rw [←I] at b;refine ⟨by trivial,by omega,⟨by omega,by omega⟩,by simp;omega,(((i+1:Nat):Int),aG (es.set i D)),?_,?_,?_⟩
   ·(try dsimp only);omega
   ·(try dsimp only);and_intros<;>first|exact True.intro|rfl|rw [←bz]
   ·(try dsimp only)
    refine ⟨by omega,by omega,_,rfl,by simpa using B,f.set _ _ (by omega),?_⟩;simp only [Qq0];rw [aL _ _ _,←b,Qz6,Qj1,Qj2,Qz7]
  ·have m:i=N:=by simp at m;omega
   subst m;intro P Q bk S;refine (cJ (RD.bI S f (n:=i) (c:=i) (by omega) (Qq3 _))).mono ?_;rintro r' V6 l6 ⟨k',rfl,d⟩;refine ⟨_,_,_,rfl,fun _ V7 T=>⟨_,_,_,rfl,?_⟩⟩;rw [aq,Qx0 (l:=xs) (i:=i) (by omega)] at b
   have b:val es=val xs / 2^r:=by
    rw [←b,dS,Wx4,Qj3,Qy9]
   rw [aQ f,b] at d;exact d.le T
end Go.Proofs.Tryz
namespace Go.Big
theorem sH {ds:List Nat}(hd:bK ds)(w:Nat)(hw:w<=ds.length:=by omega):val ds / 4294967296^w=val (ds.drop w):=by
 have e:val ds=val (ds.take w++ds.drop w):=by rw [Qk5]
 have a:=eQ (hd.take w);rw [cU] at e;rw [Qw0,Qy5 (by omega)] at e a;rw [e,Qf6 _ _ (Qp5 (by omega)),Qj5 a,Qy1]
theorem O_ {R n:Nat}(h:(ai R).length=n+2):R / 4294967296^n=(ai R)[n+1]'(by omega)*4294967296+(ai R)[n]'(by omega):=by
 have:=sH (aH R) n;rw [ae] at this;rw [this,Qw4 (by omega),Qw4 (i:=n+1) (by omega),Qx0 (by omega)];simp only [bq,dS];omega
theorem LV {R n:Nat}(h:(ai R).length=n+1):R / 4294967296^n=(ai R)[n]'(by omega):=by
 have:=sH (aH R) n;rw [ae] at this;rw [this,Qw4 (by omega),Qx0 (by omega)];simp only [bq,dS];omega
theorem O9 {R n:Nat}(h:(ai R).length<=n):R / 4294967296^n=0:=Qj5 (aI.1 h)
theorem EE {V n:Nat}(h:(ai V).length=n+1):(ai V)[n]'(by omega)*4294967296^n<=V:=by
 have:=LV h;rw [←this];exact Nat.div_mul_le_self _ _
theorem Ib {R V top P W:Nat}(hV:top*P<=V)(ht:0<top)(hP:0<P)(hW:0<W):R / (V*W)<=R / (P*W) / top:=by
 rw [Qh0 ht,Qh0 (Wy5 hP hW)];have a:R / (V*W)*(V*W)<=R:=Nat.div_mul_le_self _ _;have b:R / (V*W)*(top*P*W)<=R / (V*W)*(V*W):=Qy4 _ (Qq9 _ hV)
 have c:R / (V*W)*top*(P*W)=R / (V*W)*(top*P*W):=by
  generalize R / (V*W)=q;rw [Qz7 q top,←Qz7 top P W]
 omega
theorem GM {A V W D R q R':Nat}(h:A=V*(W*4294967296*D)+R)(hq:R=V*q*W+R'):A=V*(W*(q+4294967296*D))+R':=by
 subst hq;rw [h];grind
theorem IC {x y s Q R:Nat}(h:x*2^s=y*2^s*Q+R)(hR:R<y*2^s):Q=x / y/\R / 2^s=x%y:=by
 have c:=Qz4 s
 have f:0<y:=by
  rcases Qx9 y with e|e
  ·subst e;simp at hR
  ·exact e
 have g:y*2^s*Q=(y*Q)*2^s:=by grind
 rw [g] at h
 have i:y*Q<=x:=by
  rcases Qy8 x (y*Q) with a|a
  ·have:(x+1)*2^s<=y*Q*2^s:=Qq9 _ a;rw [Qj4] at this;omega
  ·exact a
 obtain ⟨d,rfl⟩:=Nat.exists_eq_add_of_le i;rw [Qj4] at h;have j:R=d*2^s:=by omega
 subst j;have b:d<y:=Nat.lt_of_mul_lt_mul_right hR;rw [Qg5 _ c];constructor
 ·rw [Wx2 f,Qj5 b,Qy9]
 ·rw [Wx3,Qx7 b]
theorem L5 (j:Nat):2^(32*j)=4294967296^j:=by rw [Qs0]
theorem D4 {R V W g:Nat}(NK:0<V*W)(h:V*g*W<=R)(hq:R / (V*W)<=g):g=R / (V*W):=by
 have:g<=R / (V*W):=by
  rw [Qh0 NK];have:g*(V*W)=V*g*W:=by grind
  omega
 omega
theorem Ic {R V W g:Nat}(NK:0<V*W)(h:R<V*g*W):R / (V*W)<g:=by
 rw [Qv0 NK];have:g*(V*W)=V*g*W:=by grind
 omega
theorem Ex {R V W:Nat}:R=V*(R / (V*W))*W+R%(V*W):=by
 have:=Qc6 R (V*W)
 have e:V*(R / (V*W))*W=V*W*(R / (V*W)):=by
  generalize R / (V*W)=q;grind
 omega
theorem ic {a b:Nat}:(ai (a*b)).length<=(ai a).length+(ai b).length:=by
 rw [aI,Qy6];have c:a<4294967296^(ai a).length:=aI.1 (Qq3 _);have d:b<4294967296^(ai b).length:=aI.1 (Qq3 _);exact Qp2 c d
theorem zY (j:Nat):(ai (4294967296^j)).length<=j+1:=by
 rw [aI];exact Nat.pow_lt_pow_right (by omega) (by omega)
end Go.Big
namespace Go.Proofs.Tryz
open Go.Eng Go.Big
theorem Yx {V:View}{p:OA}{n c:Nat}{ds:List Nat}(h:RD V p n c ds){i:Int}{K:Int->Prop}(j d:Nat)(hj:i=j)(hn:ds[j]?=some d)
  (hK:K (d:Int)):(p.isSome=true)/\(0<=i/\i<(n:Int))/\∃x:Int,(∃a,ah p (i.toNat*1)=some a/\V.at a (.int .u32 x))/\K x:=by
 have b:j<ds.length:=by
  rcases Qy8 j ds.length with h|h
  ·exact h
  ·rw [Qj6 h] at hn;cases hn
 refine h.rd j hj b ?_;rw [Qq1 b] at hn;cases hn;exact hK
theorem G6 {W n:Nat}(h:(ai W).length=n+1:=by omega):∃top,(ai W)[n]?=some top/\top≠0/\top<4294967296/\top*4294967296^n<=W:=by
 refine ⟨(ai W)[n]'(by omega),Qq1 _,?_,(aH W).get _,EE h⟩;have:=(gG W).last (by omega);simpa [h] using this
structure yu (A V L:Nat) (R:Nat) (j:Nat) (es:List Nat):Prop where
 len:es.length=L
 cV:bK es
 lt:R<V*4294967296^j
 eq:A=V*(4294967296^j*val (es.drop j))+R
theorem yu.step {A V L R j:Nat}{es:List Nat}(h:yu A V L R (j+1) es)(hj:j<L)(hV:0<V) :
  R / (V*4294967296^j)<4294967296/\yu A V L (R-V*(R / (V*4294967296^j))*4294967296^j) j (es.set j (R / (V*4294967296^j))):=by
 have c:0<4294967296^j:=Qp5 (by omega);have a:0<V*4294967296^j:=Wy5 hV c
 have b:R / (V*4294967296^j)<4294967296:=by
  rw [Qv0 a];have:=h.lt;rw [Qz6] at this
  have e:4294967296*(V*4294967296^j)=V*(4294967296^j*4294967296):=by
   generalize 4294967296^j=w;grind
  omega
 have d:=Ex (R:=R) (V:=V) (W:=4294967296^j);have hm:=Qv9 R a;have he:R-V*(R / (V*4294967296^j))*4294967296^j=R%(V*4294967296^j):=by omega
 refine ⟨b,⟨by simpa using h.len,h.cV.set _ _ b,by rw [he];exact hm,?_⟩⟩;have f:=h.len;rw [Qw4 (by simp;omega),Qd9,Qv8 (by omega),bq,he];exact GM (by have:=h.eq;rwa [Qz6] at this) d
theorem Jt {R V j:Nat}(h:R<V*4294967296^(j+1)):(ai R).length<=(ai V).length+j+1:=by
 have a:V*4294967296^(j+1)<=4294967296^(ai V).length*4294967296^(j+1):=Qq9 _ (Qg9 (aI.1 (Qq3 _)));rw [←Qy6] at a;have:=aI.2 (Qx2 h a);omega
theorem KK {R n:Nat}(h:(ai R).length<=n+2):R / 4294967296^n<18446744073709551616:=by
 rw [Qv0 (Qp5 (by omega))];have:=aI.1 h;rw [Qz6,Qz6] at this
 have e:4294967296^n*4294967296*4294967296=18446744073709551616*4294967296^n:=by
  generalize 4294967296^n=w;omega
 omega
theorem DT {V:View}{p q:OA}{n c m e:Nat}{x y:Nat}(hx:RN V p n c x)(hy:RN V q m e y)(hm:(ai x).length<=274877906944)(hy0:0<y)(hle:(ai y).length<=(ai x).length) :
  aa prog 187 #[.slice p n c,.slice q m e] V fun r V'=>∃p1 n1 c1 p2 n2 c2,r=.tuple #[.slice p1 n1 c1,.slice p2 n2 c2]/\RN V' p1 n1 c1 (x / y)/\RN V' p2 n2 c2 (x%y):=by
 have a2:=hx.len;have zc:=hy.len
 have b4:0<m:=by
  rcases Qx9 m with h|h
  ·have:=bd.1 (Qq6.1 (zc▸h));omega
  ·exact h
 have vc:=De p n c q m e V;have w1:i64.wrap ((m:Int)-1)=((m-1:Nat):Int):=by rw [ar (by omega)];omega
 have w2:i64.wrap ((n:Int)-m)=((n-m:Nat):Int):=by rw [ar (by omega)];omega
 have w3:i64.wrap (((n-m:Nat):Int)+1)=((n-m+1:Nat):Int):=by rw [ar (by omega)];omega
 have w4:i64.wrap (((n-m+1:Nat):Int)-1)=((n-m:Nat):Int):=by rw [ar (by omega)];omega
 simp only [w1,w2,w3,Qq0,w4,cE] at vc;obtain ⟨L,hL⟩:∃L,L=n-m+1:=⟨_,rfl⟩;rw [←hL] at vc;refine vc _ ?_;clear vc;refine hy.rd (m-1) rfl (by omega) fun V1 O=>(fK _ ((aH y).get (by omega))).mono ?_;rintro r V2 P rfl;have a3:bj ((ai y)[m-1]'(by omega))<=32:=eI.2 (by have:=(aH y).get (i:=m-1) (by omega);omega);obtain ⟨s,hs⟩:∃s:Nat,(32:Int)-(bj ((ai y)[m-1]'(by omega)):Int)=s:=⟨32-bj ((ai y)[m-1]'(by omega)),by omega⟩;have KB:s<=32:=by omega
 rw [hs];clear hs a3;refine ⟨_,rfl,fun V3 l3=>(kI (hy.le (O.trans (P.trans l3))) (by omega) s).mono ?_⟩;rintro r V4 l4 ⟨vp,d,vc,rfl,F⟩;rw [ae] at F;refine ⟨_,_,_,rfl,fun V5 l5=>(kI (hx.le (O.trans (P.trans (l3.trans (l4.trans l5))))) (by omega) s).mono ?_⟩;rintro r V6 l6 ⟨rp,N,rc,rfl,hr⟩;rw [ae] at hr
 replace F:=F.le (l5.trans l6)
 have a4:=F.len;have S:=Qz4 s;have b5:2^s<=4294967296:=Qw9 (n:=2) (by omega) KB;have Vu:0<y*2^s:=Wy5 hy0 S;have b6:(ai (2^s)).length<=2:=aI.2 (by omega);have b7:d<=m+2:=by have:=ic (a:=y) (b:=2^s);omega
 have Zq:0<d:=by
  rcases Qx9 d with h|h
  ·have:=bd.1 (Qq6.1 (a4▸h));omega
  ·exact h
 have G:yu (x*2^s) (y*2^s) L (x*2^s) L (List.replicate L 0):=by
  refine ⟨by simp,bK.rep _,?_,by simp⟩;have h1:x<4294967296^n:=by rw [a2];exact aI.1 (Qq3 _)
  have h2:4294967296^(m-1)<=y:=by rw [←rW];omega
  have v:4294967296^(m-1)*4294967296^L<=y*4294967296^L:=Qq9 _ h2;rw [←Qy6,show m-1+L=n from by omega] at v;have B:x*2^s<y*4294967296^L*2^s:=Qm6 (by omega) S
  have C:y*4294967296^L*2^s=y*2^s*4294967296^L:=by
   generalize 4294967296^L=w;grind
  omega
 have E:∀{Q R:Nat},x*2^s=y*2^s*Q+R->R<y*2^s->Q=x / y/\R / 2^s=x%y:=fun h1 h2=>IC h1 h2;generalize x*2^s=A at *;generalize y*2^s=W at *;have w5:i64.wrap ((d:Int)-1)=((d-1:Nat):Int):=by rw [ar (by omega)];omega
 simp only [w5,Qq0];refine ⟨_,_,_,rfl,?_⟩;obtain ⟨top,XV,VC,VD,OT⟩:=G6 (W:=W) (n:=d-1);refine Yx F (d-1) top rfl XV ?_;have w6:u64.wrap (top:Int)=top:=aM (by omega);simp only [w6]
 refine ⟨by omega,by omega,by omega,fun z V'=>∃R:Nat,RN V' z.1 z.2.1 z.2.2.1 R/\-1<=z.2.2.2.1/\z.2.2.2.1<L/\∃es:List Nat,z.2.2.2.2=aG es/\yu A W L R (z.2.2.2.1+1).toNat es,fun z=>(z.2.2.2.1+1).toNat,
  ⟨(rp,N,rc,((n-m:Nat):Int),aG (List.replicate L 0)),by (try dsimp only);and_intros<;>first|exact True.intro|rfl,A,hr,by (try dsimp only);omega,by (try dsimp only);omega,_,rfl,?_⟩,?_⟩
 ·(try dsimp only)
  rw [show (((n-m:Nat):Int)+1).toNat=L from by omega];exact G
 rintro ⟨rp,N,rc,j,vs⟩ V7 l7 ⟨R,H,a5,a6,es,rfl,o⟩;dsimp only at H a5 a6 o ⊢;have b8:=H.len;refine ⟨by trivial,fun v=>?_,fun v=>?_⟩
 ·have v:0<=j:=by simpa using v
  obtain ⟨j,rfl⟩:=Qq7 v;have o:yu A W L R (j+1) es:=o;have XJ:j<L:=by omega
  have T:=Jt o.lt;obtain ⟨hq,U⟩:=o.step XJ Vu;have w7:i64.wrap ((d:Int)+j)=((d-1+j+1:Nat):Int):=by rw [ar (by omega)];omega
  have w8:i64.wrap (((d-1+j+1:Nat):Int)-1)=((d-1+j:Nat):Int):=by rw [ar (by omega)];omega
  have w9:i64.wrap ((32:Int)*j)=((32*j:Nat):Int):=by rw [ar (by omega)];omega
  have TF:i64.wrap ((j:Int)-1)=(j:Int)-1:=ar (by omega);simp only [w7,w8,w9,TF,Qq0];have T:(ai R).length<=d-1+j+2:=by omega
  have a7:=KK T;have hP:0<4294967296^(d-1):=Qp5 (by omega);have hW:0<4294967296^j:=Qp5 (by omega);have hg:=Ib (R:=R) OT (by omega) hP hW;rw [←Qy6] at hg;have P:=@O_ R (d-1+j);have O:=@LV R (d-1+j);have l0:=@O9 R (d-1+j);have l:∀i (hi:i<(ai R).length),(ai R)[i]<4294967296:=fun i hi=>(aH R).get hi;generalize R / 4294967296^(d-1+j)=lead at *;refine ⟨fun z V'=>z=(lead:Int),⟨fun B=>?_,fun B=>?_⟩,?_⟩
  ·have B:d-1+j+1<N:=by simp at B;omega
   refine (H.rd (d-1+j+1) rfl (by omega) ⟨by omega,H.rd (d-1+j) rfl (by omega) ⟨(lead:Int),?_,rfl⟩⟩)
   have X:aU .or .u64 (u64.wrap (u64.wrap (((ai R)[d-1+j+1]'(by omega):Nat):Int)*2^32)) (u64.wrap (((ai R)[d-1+j]'(by omega):Nat):Int))=(lead:Int):=by
    have e3:((2:Int)^32)=4294967296:=by decide
    have g1:=l (d-1+j+1) (by omega);have Y:=l (d-1+j) (by omega);have:=P (by omega);rw [e3,aM (x:=(((ai R)[d-1+j+1]'(by omega):Nat):Int)) (by omega),aM (x:=(((ai R)[d-1+j]'(by omega):Nat):Int)) (by omega),aM (by omega),Cm _ _ g1 Y,this];omega
   (try dsimp only);and_intros<;>first|exact True.intro|exact X|rfl
  ·have B:N<=d-1+j+1:=by simp at B;omega
   refine ⟨fun z V'=>z=(lead:Int),⟨fun C=>?_,fun C=>?_⟩,?_⟩
   ·have C:d-1+j<N:=by simp at C;omega
    refine H.rd (d-1+j) rfl (by omega) ⟨(lead:Int),?_,rfl⟩
    have X:u64.wrap (((ai R)[d-1+j]'(by omega):Nat):Int)=(lead:Int):=by
     have Y:=l (d-1+j) (by omega);rw [aM (by omega),O (by omega)]
    (try dsimp only);and_intros<;>first|exact True.intro|exact X|rfl
   ·have C:N<=d-1+j:=by simp at C;omega
    have X:(0:Int)=(lead:Int):=by rw [l0 (by omega)];rfl
    refine ⟨(lead:Int),?_,rfl⟩
    (try dsimp only);and_intros<;>first|exact True.intro|exact X|rfl
   ·rintro _ V8 l8 rfl;refine ⟨by trivial,(lead:Int),?_,rfl⟩
    (try dsimp only);and_intros<;>first|exact True.intro|rfl
  rintro _ V9 Z rfl;clear P O l0 l;have Ot:(lead:Int).tdiv (top:Int)=((lead / top:Nat):Int):=by rw [Qk1 (by omega)];omega
  have a8:lead / top<=lead:=Qn3 _ _;rw [Ot];generalize lead / top=lt at *
  obtain ⟨D,a0,MB,R0⟩:∃D:Nat,bP (u64.wrap (lt:Int)) 4294967295=(D:Int)/\D<4294967296/\R / (W*4294967296^j)<=D:=by
   rw [aM (by omega)];unfold bP;split
   ·exact ⟨4294967295,rfl,by omega,by omega⟩
   ·exact ⟨lt,rfl,by omega,hg⟩
  rw [a0];clear a0 Ot a8 hg a7;have Vv:0<W*4294967296^j:=Wy5 Vu hW;have u:∀g:Nat,g<4294967296->(ai g).length<=1:=fun g hg=>aI.2 (by omega);refine ⟨by trivial,by omega,fun gm t=>(cS D).mono ?_⟩;rintro r fH bE ⟨gp,gn,gc,rfl,a9⟩;refine ⟨_,_,_,rfl,fun jC I=>(cp (F.le (l7.trans (Z.trans (t.trans (bE.trans I))))) (a9.le I) (by have:=u D MB;omega)).mono ?_⟩;rintro r oH cN ⟨pp,pn,pc,rfl,NG⟩;rw [ae,ae] at NG;have J:=fun g=>ic (a:=W) (b:=g);refine ⟨_,_,_,rfl,fun mD dP=>(kI (NG.le dP) (by have:=u D MB;have:=J D;omega) (32*j)).mono ?_⟩;rintro r mE dj ⟨tp,tn,tc,rfl,Vo⟩;rw [ae,L5] at Vo;have Oz:=H.le (Z.trans (t.trans (bE.trans (I.trans (cN.trans (dP.trans dj))))));have Sm:=F.le (l7.trans (Z.trans (t.trans (bE.trans (I.trans (cN.trans (dP.trans dj)))))))
  refine ⟨_,_,_,rfl,fun z V'=>∃g:Nat,z.1=g/\g<4294967296/\R / (W*4294967296^j)<=g/\RN V' z.2.1 z.2.2.1 z.2.2.2 (W*g*4294967296^j),fun z=>z.1.toNat,
   ⟨((D:Int),tp,tn,tc),by (try dsimp only);and_intros<;>first|exact True.intro|rfl,D,rfl,MB,R0,Vo⟩,?_⟩
  rintro ⟨_,tp,tn,tc⟩ sM dY ⟨g,rfl,b0,XH,ht⟩;dsimp only at ht ⊢
  have b1:(ai (W*g*4294967296^j)).length<=1099511627776:=by
   have h1:=ic (a:=W*g) (b:=4294967296^j);have h2:=zY j;have v:=J g;have B:=u g b0;omega
  refine ⟨by trivial,fun nF dw=>(fP (ht.le dw) (Oz.le (dY.trans dw)) b1).mono ?_⟩;rintro r uf fF rfl;refine ⟨_,rfl,fun f=>?_,fun f=>?_⟩
  ·have f:R<W*g*4294967296^j:=by
    have f:0<jF (W*g*4294967296^j) R:=by simpa using f
    unfold jF at f;split at f
    ·omega
    ·split at f
     ·assumption
     ·omega
   have b2:=Ic Vv f;have b9:0<g:=Qv5 (Qw2 _) b2;have e1:u64.wrap ((g:Int)-1)=((g-1:Nat):Int):=by rw [aM (by omega)];omega
   simp only [e1];refine fun A8 gj=>(cS (g-1)).mono ?_;rintro r Bg mK ⟨gp,gn,gc,rfl,b3⟩;refine ⟨_,_,_,rfl,fun Bh iY=>(cp (Sm.le (dY.trans (dw.trans (fF.trans (gj.trans (mK.trans iY)))))) (b3.le iY) (by have:=u (g-1) (by omega);omega)).mono ?_⟩;rintro r Dv pD ⟨pp,pn,pc,rfl,a1⟩;rw [ae,ae] at a1;refine ⟨_,_,_,rfl,fun Dm lT=>(kI (a1.le lT) (by have:=u (g-1) (by omega);have:=J (g-1);omega) (32*j)).mono ?_⟩;rintro r JV Fp ⟨tp,tn,tc,rfl,NH⟩;rw [ae,L5] at NH;refine ⟨_,_,_,rfl,(((g-1:Nat):Int),tp,tn,tc),?_,by (try dsimp only);and_intros<;>first|exact True.intro|rfl,g-1,rfl,by omega,by omega,NH⟩
   (try dsimp only);omega
  ·have f:W*g*4294967296^j<=R:=by
    have f:¬0<jF (W*g*4294967296^j) R:=by simpa using f
    unfold jF at f;split at f
    ·omega
    ·split at f
     ·omega
     ·omega
   have K:=D4 Vv f XH;rw [←K] at U;have c0:=o.len;refine ⟨⟨by omega,by omega⟩,by simp;omega,fun JW xB=>(nJ (Oz.le (dY.trans (dw.trans (fF.trans xB)))) (ht.le (dw.trans (fF.trans xB))) (by omega) (aD f) (by rw [ae,ae];exact f)).mono ?_⟩;rintro r Ny Dq ⟨np,nn,nc,rfl,Qx⟩;rw [ae,ae] at Qx;have e1:u32.wrap (g:Int)=(g:Int):=pW (by omega);have e2:(aG es).set (0+j*1) (.int .u32 (g:Int))=aG (es.set j g):=by rw [←bz];simp
   simp only [e1];refine ⟨_,_,_,rfl,(np,nn,nc,(j:Int)-1,aG (es.set j g)),?_,by (try dsimp only);and_intros<;>first|exact True.intro|rfl|exact e2|(rw [←bz];simp),R-W*g*4294967296^j,Qx,by (try dsimp only);omega,by (try dsimp only);omega,_,rfl,?_⟩
   ·(try dsimp only);omega
   ·(try dsimp only)
    rw [show ((j:Int)-1+1).toNat=j from by omega];exact U
 ·have v:j=-1:=by simp at v;omega
  subst v
  have Se:(ai R).length<=1099511627776:=by
   have f:=o.lt;have f:R<W:=by simpa using f
   have:=aD (Qg9 f);omega
  intro V8 l8 bk hb;refine (cJ (RD.bI hb o.cV (n:=L) (c:=L) o.len.symm (Qq3 _)) (by have:=o.len;omega)).mono ?_;rintro r V9 Z ⟨k,rfl,B⟩;refine ⟨_,_,_,rfl,fun _ gm t=>(BB (H.le (l8.trans (Z.trans t))) Se s).mono ?_⟩;rintro r fH bE ⟨p2,n2,c2,rfl,C⟩;rw [ae] at C;refine ⟨_,_,_,rfl,fun jC I=>⟨_,_,_,_,_,_,rfl,?_,?_⟩⟩
  ·have f:=o.lt;have M:=o.eq;have f:R<W:=by simpa using f
   have M:A=W*val es+R:=by simpa using M
   obtain ⟨g1,Y⟩:=E M f;rw [aQ o.cV,g1] at B;exact B.le (t.trans (bE.trans I))
  ·have f:=o.lt;have M:=o.eq;have f:R<W:=by simpa using f
   have M:A=W*val es+R:=by simpa using M
   obtain ⟨g1,Y⟩:=E M f;rw [Y] at C;exact C.le I
theorem qk {x:Nat}(h:(ai x).length<=2:=by omega):x<18446744073709551616:=by
 have:=aI.1 h;omega
theorem copied {V:View}{b n c:Nat}{ds:List Nat}{sp:List Value}{ty:TypeId}(hd:bK ds)(hn:n=ds.length)(hc:n<=c)(hb:V.bI b (.cells (aG ds++sp).toArray ty (0,0))):RD V (some ⟨b,0,none⟩) n c ds:=by
 refine ⟨hn,hc,fun i v a=>⟨_,rfl,?_⟩,hd,fun e=>nomatch e⟩;rw [add_zero'];refine fJ hb ?_;rw [Qx4]
 ·exact a
 ·rcases Qy8 i (aG ds).length with e|e
  ·exact e
  ·rw [Qj6 e] at a;cases a
theorem dM {V:View}{p q:OA}{n c m e:Nat}{x y:Nat}(hx:RN V p n c x)(hy:RN V q m e y)(hm:(ai x).length<=274877906944)(hm':(ai y).length<=274877906944)(hy0:0<y) :
  aa prog 143 #[.slice p n c,.slice q m e] V fun r V'=>∃p1 n1 c1 p2 n2 c2,r=.tuple #[.slice p1 n1 c1,.slice p2 n2 c2]/\RN V' p1 n1 c1 (x / y)/\RN V' p2 n2 c2 (x%y):=by
 have j:=hx.len;have zc:=hy.len
 have a0:0<m:=by
  rcases Qx9 m with h|h
  ·have:=bd.1 (Qq6.1 (zc▸h));omega
  ·exact h
 refine yi p n c q m e V _ fun V1 u=>(kJ (hx.le u)).mono ?_;rintro r V2 E rfl;rw [ae];refine ⟨_,_,rfl,fun z V'=>True,⟨fun a=>?_,fun a=>⟨(),by (try dsimp only);and_intros<;>first|exact True.intro|rfl,trivial⟩⟩,?_⟩
 ·have a:n<=2:=by simpa using a
  refine fun V3 l3=>(kJ (hy.le (u.trans (E.trans l3)))).mono ?_;rintro r V4 l4 rfl;rw [ae];refine ⟨_,_,rfl,fun f=>?_,fun f=>⟨(),by (try dsimp only);and_intros<;>first|exact True.intro|rfl,trivial⟩⟩;have f:m<=2:=by simpa using f
  have a1:=qk (x:=x);have VH:=qk (x:=y);rw [if_pos a,if_pos f];have hq:x / y<=x:=Qn3 _ _;have hr:x%y<y:=Qv9 _ hy0;have F:((x:Nat):Int).tdiv (y:Int)=((x / y:Nat):Int):=by rw [Qk1 (by omega)];omega
  have G:((x:Nat):Int).tmod (y:Int)=((x%y:Nat):Int):=by rw [Qz3 (by omega)];omega
  rw [F,G];generalize x / y=qq at *;generalize x%y=rr at *;have H:u64.wrap (qq:Int)=qq:=aM (by omega);rw [H];refine ⟨by omega,by omega,fun V5 l5=>(cS qq).mono ?_⟩;rintro r V6 l6 ⟨p1,n1,c1,rfl,I⟩;refine ⟨_,_,_,rfl,fun V7 l7=>(cS rr).mono ?_⟩;rintro r V8 l8 ⟨p2,n2,c2,rfl,K⟩;exact ⟨_,_,_,rfl,fun V9 Y=>⟨_,_,_,_,_,_,rfl,I.le (l7.trans (l8.trans Y)),K.le Y⟩⟩
 rintro _ gm w _
 replace hx:=hx.le (u.trans (E.trans w))
 replace hy:=hy.le (u.trans (E.trans w))
 refine ⟨by trivial,fun fH B=>(fP (hx.le B) (hy.le B) (by omega)).mono ?_⟩;rintro r jC Z rfl
 replace hx:=hx.le (B.trans Z)
 replace hy:=hy.le (B.trans Z)
 refine ⟨_,rfl,fun a=>⟨aG (ai x),hx.sl,by simp [j],by omega,by omega,by simp,by simp [j],?_,?_⟩,fun a=>⟨fun f=>?_,fun f=>?_⟩⟩
 ·intro v g;simp only [aG,Qy0] at g;obtain ⟨d,-,rfl⟩:=g;rfl
 ·have a:x<y:=by simpa [fq] using a
  intro bk J sp c' f h2 V1 u b C;rw [Qj5 a,Qx7 a];refine ⟨_,_,_,_,_,_,rfl,RD.nil,?_⟩;simp only [Qy1,Qd8,Qc2,Qm3] at C f ⊢;exact copied (aH x) j f C
 ·have a:y<=x:=by simpa [←Wx9,fq] using a
  have f:m=1:=by simp at f;omega
  subst f;obtain ⟨d,D⟩:=kV (ds:=ai y);have L:d=y:=by have:=ae y;rw [D] at this;simpa using this
  subst L;have M:d<4294967296:=by have:=aH d;rw [D] at this;exact (bK.cons.1 this).1
  try unfold RN at hy
  rw [D] at hy;have a2:0<n:=by have:=aD a;omega
  have w1:i64.wrap ((n:Int)-1)=(n:Int)-1:=ar (by omega);simp only [w1,Qq0,cE];have y_:=aH x;have OY:=ae x;try unfold RN at hx
  clear D;rw [←OY];clear OY a;generalize ai x=xs at *
  refine ⟨by omega,by omega,by omega,fun z V'=>0<=z.1/\z.1<d/\-1<=z.2.1/\z.2.1<n/\∃es:List Nat,z.2.2=aG es/\es.length=n/\bK es /\
   val (xs.drop (z.2.1+1).toNat)=d*val (es.drop (z.2.1+1).toNat)+z.1.toNat,fun z=>(z.2.1+1).toNat,
   ⟨(0,(n:Int)-1,aG (List.replicate n 0)),by (try dsimp only);and_intros<;>first|exact True.intro|rfl,by (try dsimp only);omega,by (try dsimp only);omega,by (try dsimp only);omega,by (try dsimp only);omega,_,rfl,by simp,bK.rep _,?_⟩,?_⟩
  ·(try dsimp only)
   rw [Qx0 (by omega),Qx0 (by simp)];rfl
  rintro ⟨rest,i,vs⟩ mD N ⟨A,O,P,Q,es,rfl,R,o,g⟩;dsimp only at A O P Q g ⊢;obtain ⟨rest,rfl⟩:=Qq7 A;refine ⟨by trivial,fun s=>?_,fun s=>?_⟩
  ·have s:0<=i:=by simpa using s
   obtain ⟨i,rfl⟩:=Qq7 s;have S:((i:Int)+1).toNat=i+1:=by omega
   rw [S] at g;simp only [Qq0] at g ⊢;have RZ:=y_.get (i:=i) (by omega);refine (hx.le N).rd i rfl (by omega) (Cv (hy.le N) (by simp) fun mE T=>(Kc rest xs[i] d (by omega) RZ M).mono ?_);rintro r sM dY rfl
   have hq:(rest*4294967296+xs[i]) / d<4294967296:=by
    rw [Qv0 (by omega)];have:rest+1<=d:=by omega
    have:=Qq9 4294967296 this;rw [Qn1 4294967296 d];omega
   have hr:(rest*4294967296+xs[i])%d<d:=Qv9 _ (by omega);have Ho:=Qc6 (rest*4294967296+xs[i]) d;generalize (rest*4294967296+xs[i]) / d=q at *;generalize (rest*4294967296+xs[i])%d=r at *;have w2:i64.wrap ((i:Int)-1)=(i:Int)-1:=ar (by omega);simp only [w2];refine ⟨_,_,rfl,⟨by omega,by omega⟩,by simp;omega,((r:Int),(i:Int)-1,aG (es.set i q)),?_,?_,?_⟩
   ·(try dsimp only);omega
   ·(try dsimp only);and_intros<;>first|exact True.intro|rfl|(rw [←bz];simp)
   ·(try dsimp only)
    refine ⟨by omega,by omega,by omega,by omega,_,rfl,by simpa using R,o.set _ _ (by omega),?_⟩;have U:((i:Int)-1+1).toNat=i:=by omega
    rw [U,Qw4 (by omega),Qw4 (l:=es.set i q) (by simp;omega),Qd9,Qv8 (by omega)];have h9:xs[i]+4294967296*val (List.drop (i+1) xs)=d*(q+4294967296*val (List.drop (i+1) es))+r:=vL g Ho;rw [bq,bq,Qq0];exact h9
  ·have s:i=-1:=by simp at s;omega
   subst s;simp only [Qq0] at g;have g:val xs=d*val es+rest:=by simpa using g
   intro nF dw bk C;refine (cJ (RD.bI C o (n:=n) (c:=n) (by omega) (Qq3 _))).mono ?_;rintro r uf fF ⟨k,rfl,h4⟩;refine ⟨_,_,_,rfl,fun _ A8 gj W t=>?_⟩
   have t:A8.bI W (.cells (aG [rest]).toArray 221 (0,0)):=by
    simpa [aG] using t
   refine (cJ (RD.bI t (n:=1) (c:=1) (by simp [bK];omega) rfl (Qq3 _)) (by simp)).mono ?_;rintro r Bg mK ⟨k2,rfl,X⟩;refine ⟨_,_,_,rfl,fun _ Bh iY=>⟨_,_,_,_,_,_,rfl,?_,?_⟩⟩
   ·have F:val xs / d=val es:=by rw [g,Wx2 (by omega),Qj5 (by omega),Qy9]
    rw [aQ o] at h4;rw [F];exact h4.le (gj.trans (mK.trans iY))
   ·have G:val xs%d=rest:=by rw [g,Wx3,Qx7 (by omega)]
    rw [aQ (by simp [bK];omega)] at X;have H:val [rest]=rest:=by simp
    rw [H] at X;rw [G];exact X.le iY
 ·have a:y<=x:=by simpa [←Wx9,fq] using a
  refine fun oH cN=>(DT (hx.le cN) (hy.le cN) hm hy0 (aD a)).mono ?_;rintro r mD N ⟨p1,n1,c1,p2,n2,c2,rfl,I,K⟩;exact ⟨_,_,_,_,_,_,rfl,fun mE T=>⟨_,_,_,_,_,_,rfl,I.le T,K.le T⟩⟩
end Go.Proofs.Tryz
