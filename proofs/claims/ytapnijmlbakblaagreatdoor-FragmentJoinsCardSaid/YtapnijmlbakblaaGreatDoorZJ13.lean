import Derived.Test.YtapnijmlbakblaaGreatDoorZJ12
import Derived.Test.YtapnijmlbakblaaGreatDoorZJ11
import Derived.Test.YtapnijmlbakblaaGreatDoorZJ8
set_option linter.unusedVariables false
open Go.IntKind (i64 u64 u32)
namespace Go.Big
def cmpQ (x y:Rat):Int:=(x-y).num.sign
def cT (x y:Rat):Rat:=mkRat (Nat.gcd (x.num.natAbs*y.den) (y.num.natAbs*x.den):Nat) (x.den*y.den)
theorem Iz {q:Rat}:q.num<0↔q<0:=by
 have:=@Rat.num_nonneg q;rw [←Rat.not_le,←this];omega
theorem IA {q:Rat}:0<q.num↔0<q:=by
 have b:=@Rat.num_nonneg q;have c:=@Qc2 q;rw [Rat.lt_iff_le_and_ne,←b];constructor
 ·intro h;exact ⟨by omega,fun e=>by rw [←e] at h;simp at h⟩
 ·rintro ⟨h,a⟩;have:q.num≠0:=fun e=>a (c.1 e).symm;omega
theorem E4 {x y:Rat}:x<y↔cmpQ x y=-1:=by
 unfold cmpQ;rw [Int.sign_eq_neg_one_iff_neg,Iz,Rat.lt_iff_sub_pos x y,←Rat.neg_sub y x];constructor
 ·intro h;have:=Rat.neg_lt_neg h;simpa using this
 ·intro h;have:=Rat.neg_lt_neg h;rw [Rat.neg_neg] at this;simpa using this
theorem E3 {x y:Rat}:y<x↔cmpQ x y=1:=by
 unfold cmpQ;rw [Int.sign_eq_one_iff_pos,IA,Rat.lt_iff_sub_pos y x]
theorem jj {x y:Rat}:x=y↔cmpQ x y=0:=by
 unfold cmpQ;rw [Qp4,Qc2];constructor
 ·intro h;subst h;exact Rat.sub_self
 ·intro h;have:=congrArg (·+ y) h;simpa [Rat.sub_add_cancel,Rat.zero_add] using this
end Go.Big
namespace Go.Proofs.Tryz
open Go.Eng Go.Big
theorem zL {V:View}{v w:Value}{x y:Rat}(hx:RR V v x)(hy:RR V w y){k m:Nat}(hk:Sz k x)(hm:Sz m y)(hkm:k+m<1099511627776:=by omega) :
  aa prog 169 #[v,w] V fun r V'=>RR V' r (x-y):=by
 obtain ⟨h,i,j,rfl⟩:=hx.shape;obtain ⟨l,s1,s2,rfl⟩:=hy.shape;refine xC _ _ _ _ _ _ V _ fun o b=>(oI (hy.le b) hm).mono ?_;rintro r q f c;obtain ⟨n,d,p,rfl⟩:=c.shape;refine ⟨_,_,_,rfl,fun s e=>(tC (hx.le (b.trans (f.trans e))) (c.le e) hk hm.neg hkm).mono ?_⟩;rintro r t u a;rw [←Qr5] at a;obtain ⟨n,d,p,rfl⟩:=a.shape;exact ⟨_,_,_,rfl,fun z g=>a.le g⟩
theorem mw {V:View}{v w:Value}{x y:Rat}(hx:RR V v x)(hy:RR V w y){k m:Nat}(hk:Sz k x)(hm:Sz m y)(hkm:k+m<1099511627776:=by omega) :
  aa prog 111 #[v,w] V fun r V'=>r=.int .i64 (cmpQ x y):=by
 obtain ⟨t,u,z,rfl⟩:=hx.shape;obtain ⟨A,s1,s2,rfl⟩:=hy.shape
 have gen:∀mr:View,V.Le mr->aa prog 169 #[.agg #[.int .i64 t,.int .i64 u,.pointer z],.agg #[.int .i64 A,.int .i64 s1,.pointer s2]] mr fun B C=>∃Qk:Int,∃Jw:Int,∃IL:OA,B=.agg #[.int .i64 Qk,.int .i64 Jw,.pointer IL]/\(∀rz:View,C.Le rz->aa prog 160 #[.agg #[.int .i64 Qk,.int .i64 Jw,.pointer IL]] rz fun D E=>∃P9:Int,D=.int .i64 P9/\(∀wS:View,E.Le wS->Value.int .i64 P9=.int .i64 (cmpQ x y))):=by
  intro i f;refine (zL (hx.le f) (hy.le f) hk hm hkm).mono ?_;rintro r O P q;obtain ⟨n,d,p,rfl⟩:=q.shape;refine ⟨_,_,_,rfl,fun Q F=>(HB (q.le F) (hk.sub hm)).mono ?_⟩;rintro r R S rfl;exact ⟨_,rfl,fun _ _=>rfl⟩
 rcases hx with ⟨ex,G⟩|⟨a,b,p,n,c,H,I,J,ex,-,-,-,-,-,G⟩
 ·rcases hy with ⟨g,K⟩|⟨a,b,p,n,c,H,I,J,g,-,-,-,-,-,K⟩
  ·simp only [Value.agg.injEq,Qb5,Qk7,Value.int.injEq,Value.pointer.injEq,true_and,and_true] at ex g;obtain ⟨rfl,rfl,rfl⟩:=ex;obtain ⟨rfl,rfl,rfl⟩:=g
   have j:x.den=y.den->((x<y↔x.num<y.num)/\(y<x↔y.num<x.num)/\(x=y↔x.num=y.num)):=by
    intro e;have s:(0:Int)<y.den:=by have:=y.den_nz;omega
    refine ⟨?_,?_,fun h=>by rw [h],fun h=>Rat.ext h e⟩
    ·rw [Rat.lt_iff,e];exact ⟨fun h=>Wq5 h (by omega),fun h=>Wq1 h s⟩
    ·rw [Rat.lt_iff,e];exact ⟨fun h=>Wq5 h (by omega),fun h=>Wq1 h s⟩
   refine jK _ _ _ _ _ _ V _ ⟨fun _=>⟨fun _=>⟨fun l=>?_,fun _=>gen⟩,(fun h=>nomatch h)⟩,(fun h=>nomatch h)⟩;have l:x.den=y.den:=by rw [beq_iff_eq] at l;omega
   obtain ⟨L,M,N⟩:=j l;refine ⟨fun h i f=>?_,fun h=>⟨fun o i f=>?_,fun o i f=>?_⟩⟩
   ·rw [E4.1 (L.2 (by simpa using h))]
   ·rw [E3.1 (M.2 (by simpa using o))]
   ·rw [jj.1 (N.2 (by rw [decide_eq_false_iff_not] at h o;omega))]
  ·simp only [Value.agg.injEq,Qb5,Qk7,Value.int.injEq,Value.pointer.injEq,true_and,and_true] at ex g;obtain ⟨rfl,rfl,rfl⟩:=ex;obtain ⟨rfl,rfl,rfl⟩:=g;exact jK _ _ _ _ _ _ V _ ⟨fun _=>⟨(fun h=>nomatch h),fun _=>gen⟩,(fun h=>nomatch h)⟩
 ·simp only [Value.agg.injEq,Qb5,Qk7,Value.int.injEq,Value.pointer.injEq,true_and,and_true] at ex;obtain ⟨rfl,rfl,rfl⟩:=ex;exact jK _ _ _ _ _ _ V _ ⟨(fun h=>nomatch h),fun _=>gen⟩
theorem jU {V:View}{v w:Value}{x y:Rat}(hx:RR V v x)(hy:RR V w y){k m:Nat}(hk:Sz k x)(hm:Sz m y)(hkm:k+m<1099511627776:=by omega) :
  aa prog 90 #[v,w] V fun r V'=>r=.bool (decide (x=y)):=by
 obtain ⟨b,c,d,rfl⟩:=hx.shape;obtain ⟨e,s1,s2,rfl⟩:=hy.shape;refine sP _ _ _ _ _ _ V _ fun f a=>(mw (hx.le a) (hy.le a) hk hm hkm).mono ?_;rintro r g h rfl;refine ⟨_,rfl,fun i j=>?_⟩;congr 1;rw [Qz3,beq_iff_eq,decide_eq_true_eq,jj]
theorem BQ {x y:Rat}{k m:Nat}(hx:Sz k x)(hy:Sz m y):x.num.natAbs*y.den<2^(k+m)/\y.num.natAbs*x.den<2^(k+m)/\Nat.gcd (x.num.natAbs*y.den) (y.num.natAbs*x.den)<2^(k+m)/\x.den*y.den<2^(k+m):=by
 have a:x.num.natAbs*y.den<2^(k+m):=bG hx.1 hy.2;have b:y.num.natAbs*x.den<2^(k+m):=by rw [Qf2];exact bG hy.1 hx.2
 refine ⟨a,b,?_,bG hx.2 hy.2⟩;rcases Qx8 (x.num.natAbs*y.den) with e|e
 ·rw [e,Qs6];exact b
 ·exact Qn2 (Qt5 e (Qj6 _ _)) a
theorem fg {x y:Rat}{k m:Nat}(hx:Sz k x)(hy:Sz m y):Sz (k+m+1) (cT x y):=by
 obtain ⟨-,-,a,b⟩:=BQ hx hy;have c:2^(k+m)<=2^(k+m+1):=Qx3 (by omega) (by omega);exact Go.Eng.Sz.mkRat (by rw [Qx4];omega) (by omega) (by omega)
theorem fM {V:View}{v w:Value}{x y:Rat}(hx:RR V v x)(hy:RR V w y){k m:Nat}(hk:Sz k x)(hm:Sz m y)(hkm:k+m<1099511627776:=by omega) :
  aa prog 89 #[v,w] V fun r V'=>RR V' r (cT x y):=by
 obtain ⟨A,B,C,rfl⟩:=hx.shape;obtain ⟨D,s1,s2,rfl⟩:=hy.shape;obtain ⟨b1,b2,b3,b4⟩:=BQ hk hm;have q1:=ag hk.1;have q2:=ag hk.2;have q3:=ag hm.1;have q4:=ag hm.2;have q5:=ag b1;have q6:=ag b2;have q7:=ag b3;have q8:=ag b4
 have gen:(∀T_:View,V.Le T_->aa prog 151 #[.agg #[.int .i64 A,.int .i64 B,.pointer C]] T_ fun S1 VQ=>∃(PF:OA)(Pm Ob:Nat),S1=.slice PF Pm Ob/\(∀Ua:View,VQ.Le Ua->aa prog 151 #[.agg #[.int .i64 D,.int .i64 s1,.pointer s2]] Ua fun S2 VS=>∃(PG:OA)(Pn Oc:Nat),S2=.slice PG Pn Oc/\(∀Ub:View,VS.Le Ub->aa prog 150 #[.slice PF Pm Ob,.slice PG Pn Oc] Ub fun S3 VT=>∃(IP:OA)(Ir Hu:Nat),S3=.slice IP Ir Hu/\(∀Uc:View,VT.Le Uc->aa prog 153 #[.agg #[.int .i64 A,.int .i64 B,.pointer C]] Uc fun S4 VU=>∃Q3:Bool,∃(PI:OA)(Pp Oe:Nat),S4=.agg #[.bool Q3,.slice PI Pp Oe]/\(∀Ud:View,VU.Le Ud->aa prog 151 #[.agg #[.int .i64 D,.int .i64 s1,.pointer s2]] Ud fun S5 VV=>∃(IQ:OA)(Is Hv:Nat),S5=.slice IQ Is Hv/\(∀Ue:View,VV.Le Ue->aa prog 150 #[.slice PI Pp Oe,.slice IQ Is Hv] Ue fun S6 VW=>∃(PJ:OA)(Pq Of:Nat),S6=.slice PJ Pq Of/\(∀Uf:View,VW.Le Uf->aa prog 153 #[.agg #[.int .i64 D,.int .i64 s1,.pointer s2]] Uf fun S7 VX=>∃Q4:Bool,∃(IU:OA)(It Hw:Nat),S7=.agg #[.bool Q4,.slice IU It Hw]/\(∀Ug:View,VX.Le Ug->aa prog 151 #[.agg #[.int .i64 A,.int .i64 B,.pointer C]] Ug fun S8 VY=>∃(PL:OA)(Ps Oh:Nat),S8=.slice PL Ps Oh/\(∀Uh:View,VY.Le Uh->aa prog 150 #[.slice IU It Hw,.slice PL Ps Oh] Uh fun S9 VZ=>∃(IV:OA)(Iu Hx:Nat),S9=.slice IV Iu Hx/\(∀Ui:View,VZ.Le Ui->aa prog 152 #[.slice PJ Pq Of,.slice IV Iu Hx] Ui fun S_ V_=>∃(PM:OA)(Pt Oi:Nat),S_=.slice PM Pt Oi/\(∀Uj:View,V_.Le Uj->aa prog 147 #[.agg #[.bool false,.slice PM Pt Oi],.slice IP Ir Hu] Uj fun Ta Wa=>∃Qg:Int,∃Qh:Int,∃IW:OA,Ta=.agg #[.int .i64 Qg,.int .i64 Qh,.pointer IW]/\(∀NX:View,Wa.Le NX->RR NX (.agg #[.int .i64 Qg,.int .i64 Qh,.pointer IW]) (cT x y))))))))))))):=by
  intro O i;refine (dD (hx.le i) hk).mono ?_;rintro r E j ⟨p1,n1,c1,rfl,g1⟩;refine ⟨_,_,_,rfl,fun V3 s=>(dD (hy.le (i.trans (j.trans s))) hm).mono ?_⟩;rintro r V4 F ⟨p2,n2,c2,rfl,g2⟩;refine ⟨_,_,_,rfl,fun V5 t=>(fO (g1.le (s.trans (F.trans t))) (g2.le t)).mono ?_⟩;rintro r V6 P ⟨p3,n3,c3,rfl,Q⟩;rw [af,af] at Q;have G:=i.trans (j.trans (s.trans (F.trans (t.trans P))));refine ⟨_,_,_,rfl,fun V7 l=>(eu (hx.le (G.trans l)) hk).mono ?_⟩;rintro r V8 H ⟨p4,n4,c4,rfl,g4⟩;refine ⟨_,_,_,_,rfl,fun V9 u=>(dD (hy.le (G.trans (l.trans (H.trans u)))) hm).mono ?_⟩;rintro r fK f ⟨p5,n5,c5,rfl,g5⟩;refine ⟨_,_,_,rfl,fun eO z=>(fO (g4.le (u.trans (f.trans z))) (g5.le z)).mono ?_⟩;rintro r gW R ⟨p6,n6,c6,rfl,S⟩;rw [af,af] at S;have T:=G.trans (l.trans (H.trans (u.trans (f.trans (z.trans R)))));refine ⟨_,_,_,rfl,fun lx I=>(eu (hy.le (T.trans I)) hm).mono ?_⟩;rintro r mr U ⟨p7,n7,c7,rfl,g7⟩;refine ⟨_,_,_,_,rfl,fun mV J=>(dD (hx.le (T.trans (I.trans (U.trans J)))) hk).mono ?_⟩;rintro r rz W ⟨p8,n8,c8,rfl,g8⟩;refine ⟨_,_,_,rfl,fun pR K=>(fO (g7.le (J.trans (W.trans K))) (g8.le K)).mono ?_⟩;rintro r wS hJ ⟨p9,n9,c9,rfl,X⟩;rw [af,af] at X;have Y:=I.trans (U.trans (J.trans (W.trans (K.trans hJ))));refine ⟨_,_,_,rfl,fun Dk L=>(qi (S.le (Y.trans L)) (X.le L) (by omega)).mono ?_⟩;rintro r FQ pS ⟨LI,a0,a1,rfl,o⟩;rw [af,af] at o;refine ⟨_,_,_,rfl,fun ET Z=>(cg false (o.le Z) (Q.le (l.trans (H.trans (u.trans (f.trans (z.trans (R.trans (Y.trans (L.trans (pS.trans Z)))))))))) (by omega)).mono ?_⟩;rintro r FR uU g;rw [nM,af,af] at g;obtain ⟨n,d,p,rfl⟩:=g.shape;exact ⟨_,_,_,rfl,fun G3 mO=>g.le mO⟩
 rcases hx with ⟨ex,wx⟩|⟨a,b,p,n,c,p',n',c',ex,-,-,-,-,-,wx⟩
 ·rcases hy with ⟨q,wy⟩|⟨a,b,p,n,c,p',n',c',q,-,-,-,-,-,wy⟩
  ·simp only [Value.agg.injEq,Qb5,Qk7,Value.int.injEq,Value.pointer.injEq,true_and,and_true] at ex q;obtain ⟨rfl,rfl,rfl⟩:=ex;obtain ⟨rfl,rfl,rfl⟩:=q;obtain ⟨P7,Vv⟩:=wx;obtain ⟨P8,Vw⟩:=wy;refine mn _ _ _ _ _ _ V _ ⟨fun _=>⟨fun _=>⟨fun M=>⟨fun _ _=>True,⟨fun N O i=>?_,fun _=>⟨(),by and_intros<;>rfl,trivial⟩⟩,fun _ O i _=>⟨by trivial,fun E j=>gen E (i.trans j)⟩⟩,fun _=>gen⟩,(fun h=>nomatch h)⟩,(fun h=>nomatch h)⟩;have M:x.den=1:=by rw [beq_iff_eq] at M;omega
   have N:y.den=1:=by rw [beq_iff_eq] at N;omega
   refine (iw _ (by omega)).mono ?_;rintro r E j rfl;refine ⟨_,rfl,fun V3 s=>(iw _ (by omega)).mono ?_⟩;rintro r V4 F rfl;refine ⟨_,rfl,fun V5 t=>(uc _ _ (by omega)).mono ?_⟩;rintro r V6 P rfl;refine ⟨_,rfl,fun V7 l=>.inl ?_⟩
   have e:cT x y=((Nat.gcd x.num.natAbs y.num.natAbs:Nat):Int):=by
    unfold cT;rw [M,N,Qk8,Qk8,Qk8];exact mkRat_one _
   have hl:Nat.gcd x.num.natAbs y.num.natAbs<4611686018427387904:=by
    rcases Qx8 x.num.natAbs with e|e
    ·rw [e,Qs6];exact P8
    ·exact Qn2 (Qt5 e (Qj6 _ _)) P7
   rw [e,ar (by omega)];exact ⟨rfl,uR (by rw [Qx4];exact hl)⟩
  ·simp only [Value.agg.injEq,Qb5,Qk7,Value.int.injEq,Value.pointer.injEq,true_and,and_true] at ex q;obtain ⟨rfl,rfl,rfl⟩:=ex;obtain ⟨rfl,rfl,rfl⟩:=q;exact mn _ _ _ _ _ _ V _ ⟨fun _=>⟨(fun h=>nomatch h),fun _=>gen⟩,(fun h=>nomatch h)⟩
 ·simp only [Value.agg.injEq,Qb5,Qk7,Value.int.injEq,Value.pointer.injEq,true_and,and_true] at ex;obtain ⟨rfl,rfl,rfl⟩:=ex;exact mn _ _ _ _ _ _ V _ ⟨(fun h=>nomatch h),fun _=>gen⟩
def RA (V:View)(v:Value)(q:Rat):Prop:=∃p n c p' n' c',v=.agg #[.bool (decide (q.num<0)),.slice p n c,.slice p' n' c']/\RD V p n c (ai q.num.natAbs)/\RD V p' n' c' (ai q.den)
theorem RA.le {V V':View}{v:Value}{q:Rat}(h:RA V v q)(l:V.Le V'):RA V' v q:=by
 obtain ⟨p,n,c,a,b,d,e,f,g⟩:=h;exact ⟨p,n,c,a,b,d,e,f.le l,g.le l⟩
theorem t_ {V:View}(b:Bool){p q:OA}{n c m e:Nat}{xs ys:List Nat}(hx:RD V p n c xs)(hy:RD V q m e ys)(hm:xs.length<=1099511627776)(hn:ys.length<=1099511627776:=by omega) :
  aa prog 106 #[.agg #[.bool b,.slice p n c,.slice q m e]] V fun r V'=>RR V' r (mkRat (bo b xs) (val ys)):=by
 refine Ew b p n c q m e V _ fun f a=>(cg b (hx.le a) (hy.le a) hm hn).mono ?_;rintro r g i h;obtain ⟨u,v,w,rfl⟩:=h.shape;exact ⟨_,_,_,rfl,fun j d=>h.le d⟩
theorem yy {V:View}{v:Value}{q:Rat}(h:RA V v q){k:Nat}(hs:Sz k q)(hk:k<=1099511627776):aa prog 106 #[v] V fun r V'=>RR V' r q:=by
 obtain ⟨p,n,c,d,e,f,rfl,a,b⟩:=h;have g:=ag hs.1;have i:=ag hs.2;refine (t_ _ a b (by omega)).mono ?_;rintro r V' _ h;rw [aO,af,Qp5] at h;exact h
theorem oH {V:View}{v:Value}{q:Rat}(h:RR V v q){k:Nat}(hs:Sz k q)(hk:k<=1099511627776):aa prog 171 #[v] V fun r V'=>RA V' r q:=by
 have a:=h;obtain ⟨e,f,g,rfl⟩:=h.shape;refine xz e f g V _ fun n b=>(eu (a.le b) hs hk).mono ?_;rintro r o i ⟨p,s,t,rfl,j⟩;refine ⟨_,_,_,_,rfl,fun u c=>(dD (a.le (b.trans (i.trans c))) hs hk).mono ?_⟩;rintro r w l ⟨x,y,z,rfl,m⟩;exact ⟨_,_,_,rfl,fun A d=>⟨_,_,_,_,_,_,rfl,j.le (c.trans (l.trans d)),m.le d⟩⟩
theorem jd {V:View}{v w:Value}{x y:Rat}(hx:RR V v x)(hy:RR V w y){k m:Nat}(hk:Sz k x)(hm:Sz m y)(hkm:k+m<1099511627776:=by omega) :
  aa prog 198 #[v,w] V fun r V'=>RR V' r (x*y):=by
 obtain ⟨R,S,T,rfl⟩:=hx.shape;obtain ⟨U,s1,s2,rfl⟩:=hy.shape;have g:x*y=mkRat (x.num*y.num) (x.den*y.den):=Wy3 x y;have W:(x.num*y.num).natAbs<2^(k+m):=by rw [Qm1,Qz1];exact Qp7 hk.1 hm.1
 have X:x.den*y.den<2^(k+m):=by rw [Qz1];exact Qp7 hk.2 hm.2
 have q1:=ag hk.1;have q2:=ag hk.2;have q3:=ag hm.1;have q4:=ag hm.2;have q5:=ag W;have q6:=ag X;refine xA R S T U s1 s2 V _ ⟨fun Y=>⟨fun _ _=>True,⟨fun Z=>?_,fun _=>⟨(),by (try dsimp only);and_intros<;>trivial,trivial⟩⟩,fun _ V8 l8 _=>⟨rfl,fun V9 XD=>?_⟩⟩,fun _ V9 h=>?_⟩
 ·rcases hx with ⟨ex,P⟩|⟨a,b,p,n,c,p',n',c',ex,-,-,-,-,-,P⟩
  ·rcases hy with ⟨s,Q⟩|⟨a,b,p,n,c,p',n',c',s,-,-,-,-,-,Q⟩
   ·simp only [Value.agg.injEq,Qb5,Qk7,Value.int.injEq,Value.pointer.injEq,true_and,and_true] at ex s;obtain ⟨rfl,rfl,rfl⟩:=ex;obtain ⟨rfl,rfl,rfl⟩:=s;obtain ⟨P7,Vv⟩:=P;obtain ⟨P8,Vw⟩:=Q;have dx:=x.den_nz;have dy:=y.den_nz;have e1:i64.wrap ((x.den:Int)-1+1)=x.den:=by rw [ar (by omega)];omega
    have e2:i64.wrap ((y.den:Int)-1+1)=y.den:=by rw [ar (by omega)];omega
    rw [e1,e2];intro V1 l1;refine (fk _ _ P7 P8).mono ?_;rintro r V2 l2 ⟨z1,rfl,E⟩;refine ⟨_,_,rfl,fun V3 l3=>(fk _ _ (by omega)).mono ?_⟩;rintro r V4 l4 ⟨z2,rfl,F⟩;refine ⟨_,_,rfl,fun t1=>⟨fun t2 V5 l5=>?_,fun _=>⟨(),by (try dsimp only);and_intros<;>trivial,trivial⟩⟩,fun _=>⟨(),by (try dsimp only);and_intros<;>trivial,trivial⟩⟩;have t1:=of_decide_eq_true t1;have t2:=of_decide_eq_true t2;rw [E t1,F t2];have hd:((x.den:Int)*(y.den:Int))=((x.den*y.den:Nat):Int):=(Qn5 ..).symm;rw [hd] at t2 ⊢;refine (mY _ _ t1 (by rwa [Qx4] at t2) (Qv4 dx dy)).mono ?_;rintro r V6 l6 G;rw [←g] at G;obtain ⟨n,d,p,rfl⟩:=G.shape;exact ⟨_,_,_,rfl,fun V7 l7=>G.le l7⟩
   ·simp only [Value.agg.injEq,Qb5,Qk7,Value.int.injEq,Value.pointer.injEq,true_and,and_true] at s;obtain ⟨rfl,rfl,rfl⟩:=s;cases Z
  ·simp only [Value.agg.injEq,Qb5,Qk7,Value.int.injEq,Value.pointer.injEq,true_and,and_true] at ex;obtain ⟨rfl,rfl,rfl⟩:=ex;cases Y
 ·have h:=l8.trans XD;refine (eu (hx.le h) hk).mono ?_;rintro r fK f ⟨p1,n1,c1,rfl,H⟩;refine ⟨_,_,_,_,rfl,fun eO i=>(eu (hy.le (h.trans (f.trans i))) hm).mono ?_⟩;rintro r gW t ⟨p2,n2,c2,rfl,I⟩;refine ⟨_,_,_,_,rfl,fun lx j=>(fX _ _ (H.le (i.trans (t.trans j))) (I.le j)).mono ?_⟩;rintro r mr J u;rw [aO,aO] at u;obtain ⟨p3,n3,c3,rfl,K⟩:=u;have z:=h.trans (f.trans (i.trans (t.trans (j.trans J))));refine ⟨_,_,_,_,rfl,fun mV l=>(dD (hx.le (z.trans l)) hk).mono ?_⟩;rintro r rz A ⟨p4,n4,c4,rfl,L⟩;refine ⟨_,_,_,rfl,fun pR o=>(dD (hy.le (z.trans (l.trans (A.trans o)))) hm).mono ?_⟩;rintro r wS B ⟨p5,n5,c5,rfl,M⟩;refine ⟨_,_,_,rfl,fun Dk q=>(fO (L.le (o.trans (B.trans q))) (M.le q)).mono ?_⟩;rintro r FQ N ⟨p6,n6,c6,rfl,C⟩;rw [af,af] at C;refine ⟨_,_,_,rfl,fun ET D=>(cg _ (K.le (l.trans (A.trans (o.trans (B.trans (q.trans (N.trans D))))))) (C.le D) (by omega)).mono ?_⟩;rintro r FR uU e;rw [aO,af,←g] at e;obtain ⟨n,d,p,rfl⟩:=e.shape;exact ⟨_,_,_,rfl,fun G3 O=>e.le O⟩
 ·skip
  refine (eu (hx.le h) hk).mono ?_;rintro r fK f ⟨p1,n1,c1,rfl,H⟩;refine ⟨_,_,_,_,rfl,fun eO i=>(eu (hy.le (h.trans (f.trans i))) hm).mono ?_⟩;rintro r gW t ⟨p2,n2,c2,rfl,I⟩;refine ⟨_,_,_,_,rfl,fun lx j=>(fX _ _ (H.le (i.trans (t.trans j))) (I.le j)).mono ?_⟩;rintro r mr J u;rw [aO,aO] at u;obtain ⟨p3,n3,c3,rfl,K⟩:=u;have z:=h.trans (f.trans (i.trans (t.trans (j.trans J))));refine ⟨_,_,_,_,rfl,fun mV l=>(dD (hx.le (z.trans l)) hk).mono ?_⟩;rintro r rz A ⟨p4,n4,c4,rfl,L⟩;refine ⟨_,_,_,rfl,fun pR o=>(dD (hy.le (z.trans (l.trans (A.trans o)))) hm).mono ?_⟩;rintro r wS B ⟨p5,n5,c5,rfl,M⟩;refine ⟨_,_,_,rfl,fun Dk q=>(fO (L.le (o.trans (B.trans q))) (M.le q)).mono ?_⟩;rintro r FQ N ⟨p6,n6,c6,rfl,C⟩;rw [af,af] at C;refine ⟨_,_,_,rfl,fun ET D=>(cg _ (K.le (l.trans (A.trans (o.trans (B.trans (q.trans (N.trans D))))))) (C.le D) (by omega)).mono ?_⟩;rintro r FR uU e;rw [aO,af,←g] at e;obtain ⟨n,d,p,rfl⟩:=e.shape;exact ⟨_,_,_,rfl,fun G3 O=>e.le O⟩
theorem inv_neg {q:Rat}(h:q.num<0):(q⁻¹).num=-(q.den:Int)/\(q⁻¹).den=q.num.natAbs:=by
 show (Rat.inv q).num=_/\(Rat.inv q).den=_;unfold Rat.inv;rw [dif_pos h];exact ⟨rfl,rfl⟩
theorem inv_pos {q:Rat}(h:0<q.num:=by omega):(q⁻¹).num=(q.den:Int)/\(q⁻¹).den=q.num.natAbs:=by
 show (Rat.inv q).num=_/\(Rat.inv q).den=_;unfold Rat.inv;rw [dif_neg (by omega),dif_pos h];exact ⟨rfl,rfl⟩
theorem inv_zero {q:Rat}(h:q.num=0):q⁻¹=0:=by
 have:q=0:=Qc2.1 h;subst this;exact Rat.inv_zero
theorem nU {k:Nat}{q:Rat}(h:Sz k q):Sz k q⁻¹:=by
 rcases Ww7 q.num 0 with a|a|a
 ·obtain ⟨b,c⟩:=inv_neg a;refine ⟨?_,?_⟩
  ·rw [b,Qd6];exact h.2
  ·rw [c];exact h.1
 ·rw [inv_zero a];exact ⟨Qz8 _,Qn2 (Wq7 q.den_nz) h.2⟩
 ·obtain ⟨b,c⟩:=inv_pos a;exact ⟨by rw [b];exact h.2,by rw [c];exact h.1⟩
theorem EZ {V:View}{v:Value}{q:Rat}(h:RR V v q){k:Nat}(hs:Sz k q)(hk:k<=1099511627776:=by omega):aa prog 203 #[v] V fun r V'=>RR V' r q⁻¹:=by
 rcases h with ⟨rfl,hw⟩|⟨a,b,p,n,c,s,t,y,rfl,z,A,B,C,D,hw⟩
 ·obtain ⟨l,m⟩:=hw;have H:=q.den_nz;refine nq _ _ _ V _ ⟨(fun d=>nomatch d),fun _=>⟨fun g I J=>?_,fun g=>⟨fun j K L=>?_,fun j M N=>?_⟩⟩⟩
  ·have g:=of_decide_eq_true g;obtain ⟨f,i⟩:=inv_neg g;refine .inl ⟨?_,?_⟩
   ·rw [f,i,ar (x:=(q.den:Int)-1+1) (by omega),ar (x:=0-q.num) (by omega),ar (x:=0-((q.den:Int)-1+1)) (by omega),ar (by omega)];congr 4
    ·omega
    ·congr 1;omega
   ·unfold Wd;rw [f,i,Qd6];exact ⟨m,l⟩
  ·have j:q.num=0:=by simpa using j
   rw [inv_zero j];exact .inl ⟨rfl,by decide,by decide⟩
  ·have g:¬q.num<0:=of_decide_eq_false g;have j:q.num≠0:=by simpa using j
   obtain ⟨f,i⟩:=inv_pos (q:=q);refine .inl ⟨?_,?_⟩
   ·rw [f,i,ar (x:=(q.den:Int)-1+1) (by omega),ar (by omega)];congr 4
    ·omega
    ·congr 1;omega
   ·unfold Wd;rw [f,i];exact ⟨m,l⟩
 ·obtain ⟨rfl,E⟩:=C.inv;have O:=ag hs.1;have P:=ag hs.2;refine nq _ _ _ V _ ⟨fun _=>⟨rfl,rfl,rfl,decide (q.num<0),⟨a.add 0,by simp [ah,Addr.add],z⟩,rfl,rfl,s,t,y,⟨a.add 2,rfl,B⟩,rfl,rfl,rfl,p,n,c,⟨a.add 1,by simp [ah,Addr.add],A⟩,fun Q o=>(cg _ (D.le o) (E.le o) (by omega)).mono ?_⟩,fun d=>nomatch d⟩;rintro r R S h
  have e:mkRat (bo (decide (q.num<0)) (ai q.den)) (val (ai q.num.natAbs))=q⁻¹:=by
   rw [af]
   have F:bo (decide (q.num<0)) (ai q.den)=if q.num<0 then -(q.den:Int) else (q.den:Int):=by
    unfold bo;rw [af];by_cases g:q.num<0<;>simp [g]
   rw [F];rcases Ww7 q.num 0 with d|d|d
   ·obtain ⟨f,i⟩:=inv_neg d;rw [if_pos d,←f,←i,Qp5]
   ·rw [inv_zero d,d];simp
   ·obtain ⟨f,i⟩:=inv_pos d;rw [if_neg (by omega),←f,←i,Qp5]
  rw [e] at h;obtain ⟨u,v,w,rfl⟩:=h.shape;exact ⟨_,_,_,rfl,fun T G=>h.le G⟩
theorem E0 {V:View}{v w:Value}{x y:Rat}(hx:RR V v x)(hy:RR V w y){k m:Nat}(hk:Sz k x)(hm:Sz m y)(hkm:k+m<1099511627776:=by omega) :
  aa prog 162 #[v,w] V fun r V'=>RR V' r (x*y⁻¹):=by
 have a:=hx;have b:=hy;obtain ⟨h,i,j,rfl⟩:=hx.shape;obtain ⟨l,s1,s2,rfl⟩:=hy.shape;refine xB h i j l s1 s2 V _ fun q d=>(EZ (b.le d) hm).mono ?_;rintro r s n e;have c:=e;obtain ⟨u,v,w,rfl⟩:=e.shape;refine ⟨_,_,_,rfl,fun t f=>(jd (a.le (d.trans (n.trans f))) (c.le f) hk (nU hm) hkm).mono ?_⟩;rintro r z A g;have o:=g;obtain ⟨u,v,w,rfl⟩:=g.shape;exact ⟨_,_,_,rfl,fun B p=>o.le p⟩
theorem K9 (a b:Nat)(ha:a<4294967296)(hb:b<4294967296):aV .and .u32 (a:Int) (b:Int)=((a &&& b:Nat):Int):=by
 have c:(BitVec.ofInt IntKind.u32.bits ((a:Nat):Int) &&& BitVec.ofInt IntKind.u32.bits ((b:Nat):Int)).toNat=a &&& b:=by
  show (BitVec.ofInt 32 ((a:Nat):Int) &&& BitVec.ofInt 32 ((b:Nat):Int)).toNat=_;rw [Qj3,Qj3,Wx4,Qv6,Qv6,Qx9 (by omega),Qx9 (by omega)]
 have d:a &&& b<2^32:=Qh6 a (by omega);rw [aV,hU,c];omega
theorem Sw (a b:Nat)(ha:a<4294967296)(hb:b<4294967296):aV .or .u32 (a:Int) (b:Int)=((a ||| b:Nat):Int):=by
 have c:(BitVec.ofInt IntKind.u32.bits ((a:Nat):Int) ||| BitVec.ofInt IntKind.u32.bits ((b:Nat):Int)).toNat=a ||| b:=by
  show (BitVec.ofInt 32 ((a:Nat):Int) ||| BitVec.ofInt 32 ((b:Nat):Int)).toNat=_;rw [Qj3,Qj3,Wx9,Qv6,Qv6,Qx9 (by omega),Qx9 (by omega)]
 have d:a ||| b<2^32:=Ww5 (by omega) (by omega);rw [aV,hU,c];omega
theorem Jx (a b:Nat)(ha:a<4294967296)(hb:b<4294967296):aV .xor .u32 (a:Int) (b:Int)=((a ^^^ b:Nat):Int):=by
 have c:(BitVec.ofInt IntKind.u32.bits ((a:Nat):Int) ^^^ BitVec.ofInt IntKind.u32.bits ((b:Nat):Int)).toNat=a ^^^ b:=by
  show (BitVec.ofInt 32 ((a:Nat):Int) ^^^ BitVec.ofInt 32 ((b:Nat):Int)).toNat=_;rw [Qj3,Qj3,BitVec.toNat_xor,Qv6,Qv6,Qx9 (by omega),Qx9 (by omega)]
 have d:a ^^^ b<2^32:=Qd4 (by omega) (by omega);rw [aV,hU,c];omega
theorem PZ {n:Nat}(h:n<4294967296):n / 2147483648=if n.testBit 31 then 1 else 0:=by
 rw [Qf8];have:(2:Nat)^31=2147483648:=by decide
 rw [this];split
 ·rename_i a;simp at a;omega
 ·rename_i a;simp at a;omega
theorem EY {n:Nat}(h:n<4294967296:=by omega):n.testBit 31=decide (2147483648<=n):=by
 rw [Qf8];have:(2:Nat)^31=2147483648:=by decide
 rw [this];congr 1;simp;omega
theorem Hr (x y c:Nat)(hx:x<4294967296)(hy:y<4294967296)(hc:c<=1){d:Nat}(hd:(d:Int)=((x:Int)-y-c)%4294967296) :
  (((4294967295 ^^^ x) &&& y) ||| ((4294967295 ^^^ (x ^^^ y)) &&& d)) / 2147483648=if x<y+c then 1 else 0:=by
 have k:(4294967295 ^^^ x)<2^32:=Qd4 (by omega) (by omega);have b:x ^^^ y<2^32:=Qd4 (by omega) (by omega);have l:(4294967295 ^^^ (x ^^^ y))<2^32:=Qd4 (by omega) b;have e:(4294967295 ^^^ x) &&& y<2^32:=Qh6 _ (by omega);have f:(4294967295 ^^^ (x ^^^ y)) &&& d<2^32:=Qh6 _ (by omega);have g:=Ww5 e f;rw [PZ g];have a:d<4294967296:=by omega
 rw [Wz0,Nat.testBit_and,Nat.testBit_and,Wy4,Wy4,Wy4,EY hx,EY hy,EY a,EY (n:=4294967295)];by_cases h:2147483648<=x<;>by_cases i:2147483648<=y<;>by_cases j:2147483648<=d<;>simp [h,i,j]<;>omega
theorem JU {V:View}(x y c:Nat)(hx:x<4294967296)(hy:y<4294967296)(hc:c<=1:=by omega) :
  aa prog 226 #[.int .u32 (x:Int),.int .u32 (y:Int),.int .u32 (c:Int)] V fun r V'=>∃d b:Nat,r=.tuple #[.int .u32 (d:Int),.int .u32 (b:Int)]/\d<4294967296/\b<=1/\d+(y+c)=x+4294967296*b:=by
 refine ou _ _ _ V _ ⟨by omega,fun n o=>?_⟩;obtain ⟨d,g⟩:∃d:Nat,(d:Int)=((x:Int)-y-c)%4294967296:=⟨(((x:Int)-y-c)%4294967296).toNat,by omega⟩;have a:d<4294967296:=by omega
 have h:u32.wrap (u32.wrap ((x:Int)-y)-c)=(d:Int):=by rw [hU,hU];omega
 have i:IntKind.u32.max=((4294967295:Nat):Int):=rfl;have j:(4294967295 ^^^ x)<2^32:=Qd4 (by omega) (by omega);have f:x ^^^ y<2^32:=Qd4 (by omega) (by omega);have k:(4294967295 ^^^ (x ^^^ y))<2^32:=Qd4 (by omega) f;have l:(4294967295 ^^^ x) &&& y<2^32:=Qh6 _ (by omega);have m:(4294967295 ^^^ (x ^^^ y)) &&& d<2^32:=Qh6 _ (by omega);rw [h,i,Jx _ _ (by omega) hx,K9 _ _ j hy,Jx _ _ hx hy,Jx _ _ (by omega) f,K9 _ _ k a,Sw _ _ l m,fq];have e:(2:Nat)^31=2147483648:=by decide
 rw [e,Hr x y c hx hy hc g];refine ⟨d,_,rfl,a,?_,?_⟩
 ·split<;>omega
 ·split<;>omega
theorem JP {V:View}(hi lo y:Nat)(hh:hi<y)(hl:lo<4294967296)(hy:y<4294967296) :
  aa prog 186 #[.int .u32 (hi:Int),.int .u32 (lo:Int),.int .u32 (y:Int)] V fun r V'=>r=.tuple #[.int .u32 (((hi*4294967296+lo) / y:Nat):Int),.int .u32 (((hi*4294967296+lo)%y:Nat):Int)]:=by
 have key:∀b:View,Value.tuple #[.int .u32 (u32.wrap (u64.wrap ((aV .or .u64 (u64.wrap ((u64.wrap (hi:Int))*2^32)) (u64.wrap (lo:Int))).tdiv (u64.wrap (y:Int))))),.int .u32 (u32.wrap ((aV .or .u64 (u64.wrap ((u64.wrap (hi:Int))*2^32)) (u64.wrap (lo:Int))).tmod (u64.wrap (y:Int))))]=.tuple #[.int .u32 (((hi*4294967296+lo) / y:Nat):Int),.int .u32 (((hi*4294967296+lo)%y:Nat):Int)]:=by
  intro _;have c:((2:Int)^32)=4294967296:=by decide
  have d:u64.wrap (hi:Int)=hi:=aM (by omega);have e:u64.wrap (lo:Int)=lo:=aM (by omega);have a:u64.wrap (y:Int)=y:=aM (by omega);have f:u64.wrap ((hi:Int)*4294967296)=(hi:Int)*4294967296:=aM (by omega);rw [d,c,f,e,a,Cj _ _ (by omega) hl];have g:(hi:Int)*4294967296+lo=((hi*4294967296+lo:Nat):Int):=by omega
  rw [g,←Int.ofNat_tdiv,←Int.ofNat_tmod]
  have m:(hi*4294967296+lo) / y<4294967296:=by
   rw [Qv7 (by omega)];have:(hi+1)*4294967296<=y*4294967296:=Qq7 _ hh;omega
  have n:(hi*4294967296+lo)%y<y:=Qb2 _ (by omega);generalize (hi*4294967296+lo) / y=q at *;generalize (hi*4294967296+lo)%y=r at *;have i:u64.wrap (q:Int)=q:=aM (by omega);have j:u32.wrap (q:Int)=q:=pG (by omega);have k:u32.wrap (r:Int)=r:=pG (by omega);rw [i,j,k]
 have a:u64.wrap (y:Int)=y:=aM (by omega);refine oh _ _ _ V _ ⟨fun _=>⟨fun h=>?_,fun _=>⟨by omega,by rw [a];omega,by rw [a];omega,fun b l=>key b⟩⟩,fun _=>⟨by omega,by rw [a];omega,by rw [a];omega,fun b l=>key b⟩⟩;simp at h;omega
theorem cO {V:View}{p:OA}{n c:Nat}{ds:List Nat}(h:RD V p n c ds)(hm:ds.length<=4611686018427387904:=by omega) :
  aa prog 142 #[.slice p n c] V fun r V'=>∃k,r=.slice p k c/\RD V' p k c (bW ds):=by
 have j:=h.len;have l:=h.cap;refine Dc p n c V _ ?_;refine ⟨fun z V'=>0<=z/\z<=n/\bW (ds.take z.toNat)=bW ds,fun z=>z.toNat,⟨n,by (try dsimp only);and_intros<;>first|exact True.intro|rfl,by (try dsimp only);omega,by (try dsimp only);omega,?_⟩,?_⟩
 ·simp [j]
 ·rintro k q e ⟨f,m,d⟩;obtain ⟨k,rfl⟩:=Qw0 f;dsimp only at m d ⊢;simp only [Qq0] at d;refine ⟨rfl,fun a=>?_,fun a=>?_⟩
  ·have a:0<k:=by simpa using a
   have w:i64.wrap ((k:Int)-1)=((k-1:Nat):Int):=by rw [ar (by omega)];omega
   simp only [w];have g:ds.take k=ds.take (k-1)++[ds[k-1]]:=by rw [←Qy1 (by omega),Qb1 a]
   refine (h.le e).rd (k-1) rfl (by omega) ⟨fun b=>?_,fun b=>?_⟩
   ·have b:ds[k-1]=0:=by simpa using b
    refine ⟨_,?_,by (try dsimp only);and_intros<;>first|exact True.intro|rfl,?_,?_,?_⟩
    ·(try dsimp only);omega
    ·(try dsimp only);omega
    ·(try dsimp only);omega
    ·(try dsimp only)
     rw [←d,g,b,gI];rfl
   ·have b:ds[k-1]≠0:=by simpa using b
    refine ⟨⟨by omega,by omega⟩,fun o i=>⟨k,rfl,?_⟩⟩;rw [←d,g,nZ _ _ b,←g];exact ((h.le e).le i).take (by omega)
  ·have a:k=0:=by simpa using a
   subst a;refine ⟨⟨by omega,by omega⟩,fun o i=>⟨0,rfl,?_⟩⟩;rw [←d];exact ((h.le e).le i).take (by omega)
theorem cP {V:View}(u:Nat)(h1:u<18446744073709551616:=by omega) :
  aa prog 105 #[.int .u64 (u:Int)] V fun r V'=>∃q k c',r=.slice q k c'/\RN V' q k c' u:=by
 refine Dd _ V _ ⟨by omega,fun e h f a=>?_⟩;rw [ll,hU,pG (by omega)] at a
 have a:e.bB f (.cells (aE [u%4294967296,u / 4294967296]).toArray 221 (0,0)):=by
  simpa [aE] using a
 have d:bP [u%4294967296,u / 4294967296]:=by simp [bP];omega
 refine (cO (RD.bB a d (n:=2) (c:=2) rfl (Qq3 _)) (by simp)).mono ?_;rintro r i j ⟨k,rfl,b⟩;refine ⟨_,_,_,rfl,fun _ l g=>⟨_,_,_,rfl,?_⟩⟩;rw [aT d] at b;have:val [u%4294967296,u / 4294967296]=u:=by simp;omega
 rw [this] at b;exact b.le g
theorem mz {V:View} :
  aa prog 136 #[] V fun r V'=>∃q k c',r=.slice q k c'/\RN V' q k c' 1:=by
 refine EL V _ fun b e c a=>⟨_,_,_,rfl,?_⟩;have d:ai 1=[1]:=JZ (by omega);unfold RN;rw [d]
 have a:b.bB c (.cells (aE [1]).toArray 221 (0,0)):=by
  simpa [aE] using a
 exact RD.bB a (by simp [bP]) rfl (Qq3 _)
def GQ (x:Int):Int:=if 0<x then 1 else if x<0 then -1 else 0
theorem DN {V:View}(x:Int) :
  aa prog 182 #[.int .i64 x] V fun r V'=>r=.int .i64 (GQ x):=by
 refine Df x V _ ⟨fun h b c=>?_,fun h=>⟨fun a b c=>?_,fun a b c=>?_⟩⟩
 ·have h:0<x:=by simpa using h
  rw [GQ,if_pos h]
 ·have h:x<0:=by simpa using a
  rw [GQ,if_neg (by omega),if_pos h]
 ·have h:¬0<x:=by simpa using h
  have a:¬x<0:=by simpa using a
  rw [GQ,if_neg h,if_neg a]
theorem ig {V:View}{p q:OA}{n c m e:Nat}{x y:Nat}(ha:RN V p n c x)(hb:RN V q m e y)(hm:(ai x).length<=1099511627776)(hn:(ai y).length<=1099511627776:=by omega) :
  aa prog 135 #[.slice p n c,.slice q m e] V fun r V'=>r=.int .i64 (jZ x y):=by
 have v:=ha.len;have A:=hb.len;refine EG p n c q m e V _ ⟨fun g D E=>?_,fun g=>?_⟩
 ·have w:i64.wrap ((n:Int)-m)=(n:Int)-m:=ar (by omega);simp only [w];refine (DN _).mono ?_;rintro r F G rfl;refine ⟨_,rfl,fun H I=>?_⟩;have g:n≠m:=by simp at g;omega
  congr 1;rcases Qy9 n m with h|h
  ·have:=kc (a:=x) (b:=y);rw [jZ,if_pos this,GQ,if_neg (by omega),if_pos (by omega)]
  ·have:=kc (a:=y) (b:=x);rw [jZ,if_neg (by omega),if_pos this,GQ,if_pos (by omega)]
 ·have g:n=m:=by simp at g;omega
  subst g;have w:i64.wrap ((n:Int)-1)=(n:Int)-1:=ar (by omega);simp only [w];refine ⟨fun z V'=>-1<=z/\z<n/\(ai x).drop (z+1).toNat=(ai y).drop (z+1).toNat,fun z=>(z+1).toNat,⟨_,by (try dsimp only);and_intros<;>first|exact True.intro|rfl,by (try dsimp only);omega,by (try dsimp only);omega,?_⟩,?_⟩
  ·(try dsimp only)
   rw [Qx1 (by omega),Qx1 (by omega)]
  ·rintro i J j ⟨k,o,s⟩;dsimp only at k o s ⊢;refine ⟨by trivial,fun d=>?_,fun d K L=>?_⟩
   ·have d:0<=i:=by simpa using d
    obtain ⟨i,rfl⟩:=Qw0 d;have w:i64.wrap ((i:Int)-1)=(i:Int)-1:=ar (by omega);simp only [w];have f:(ai x).drop (i+1)=(ai y).drop (i+1):=s;refine (ha.le j).rd i rfl (by omega) ((hb.le j).rd i rfl (by omega) ⟨fun t B C=>?_,fun t=>?_⟩)
    ·have:=js (aD y) (by omega) (by omega) f.symm (by simpa using t);rw [af,af] at this;rw [jZ,if_neg (by omega),if_pos this]
    ·refine (ha.le j).rd i rfl (by omega) ((hb.le j).rd i rfl (by omega) ⟨fun u B C=>?_,fun u=>?_⟩)
     ·have:=js (aD x) (by omega) (by omega) f (by simpa using u);rw [af,af] at this;rw [jZ,if_pos this]
     ·refine ⟨_,?_,by (try dsimp only);and_intros<;>first|exact True.intro|rfl,?_,?_,?_⟩
      ·(try dsimp only);omega
      ·(try dsimp only);omega
      ·(try dsimp only);omega
      ·(try dsimp only)
       have:((i:Int)-1+1).toNat=i:=by omega
       rw [this,Qw1 (by omega),Qw1 (l:=ai y) (by omega),f];congr 1;simp at t u;omega
   ·have d:i=-1:=by simp at d;omega
    subst d;have:ai x=ai y:=by simpa using s
    have:=oQ this;subst this;simp [jZ]
theorem Ik (a b:Nat):bM (a:Int) (b:Int)=((max a b:Nat):Int):=by
 unfold bM;split<;>omega
theorem F7 {V:View}{p q:OA}{n c m e:Nat}{xs ys:List Nat}(hx:RD V p n c xs)(hy:RD V q m e ys)(hm:xs.length<=1099511627776)(hn:ys.length<=1099511627776) :
  aa prog 184 #[.slice p n c,.slice q m e] V fun r V'=>∃p' n' c',r=.slice p' n' c'/\RN V' p' n' c' (val xs+val ys):=by
 have H:=hx.len;have O:=hy.len;have vc:=EO p n c q m e V;have w:i64.wrap (((max n m:Nat):Int)+1)=((max n m+1:Nat):Int):=by rw [ar (by omega)];omega
 simp only [Ik,w,Qq0] at vc;obtain ⟨k,I⟩:∃k,k=max n m:=⟨_,rfl⟩;rw [←I] at vc
 refine vc _ ⟨by omega,by omega,by omega,fun z V'=>0<=z.1/\z.1<=1/\0<=z.2.1/\z.2.1<=k/\∃es:List Nat,z.2.2=aE es/\es.length=k+1/\bP es /\
   val (es.take z.2.1.toNat)+4294967296^z.2.1.toNat*z.1.toNat=val (xs.take z.2.1.toNat)+val (ys.take z.2.1.toNat),fun z=>k-z.2.1.toNat,⟨(0,0,aE (List.replicate (k+1) 0)),by (try dsimp only);and_intros<;>first|exact True.intro|rfl|exact cE _,by (try dsimp only);omega,by (try dsimp only);omega,by (try dsimp only);omega,by (try dsimp only);omega,_,rfl,by simp,bP.rep _,by simp⟩,?_⟩
 rintro ⟨b,i,P⟩ Q D ⟨f,o,g,s,es,rfl,t,h,l⟩;dsimp only at f o g s l ⊢;obtain ⟨i,rfl⟩:=Qw0 g;obtain ⟨b,rfl⟩:=Qw0 f;simp only [Qq0] at l;refine ⟨by trivial,fun d=>?_,fun d=>?_⟩
 ·have d:i<k:=by simpa using d
  refine ⟨fun z V'=>∃x:Nat,z=x/\x<4294967296/\val (xs.take (i+1))=val (xs.take i)+4294967296^i*x,⟨fun a=>?_,fun a=>?_⟩,?_⟩
  ·have a:i<n:=by simpa using a
   refine (hx.le D).rd i rfl (by omega) ?_;exact ⟨_,by (try dsimp only);and_intros<;>first|exact True.intro|rfl,xs[i],rfl,hx.ew.get (by omega),az _ _⟩
  ·have a:n<=i:=by simpa using a
   exact ⟨_,by (try dsimp only);and_intros<;>first|exact True.intro|rfl,0,rfl,by omega,by rw [aq,aq];simp⟩
  rintro _ J E ⟨x,rfl,u,v⟩;refine ⟨by trivial,fun z V'=>∃y:Nat,z=y/\y<4294967296/\val (ys.take (i+1))=val (ys.take i)+4294967296^i*y,⟨fun a=>?_,fun a=>?_⟩,?_⟩
  ·have a:i<m:=by simpa using a
   refine ((hy.le D).le E).rd i rfl (by omega) ?_;exact ⟨_,by (try dsimp only);and_intros<;>first|exact True.intro|rfl,ys[i],rfl,hy.ew.get (by omega),az _ _⟩
  ·have a:m<=i:=by simpa using a
   exact ⟨_,by (try dsimp only);and_intros<;>first|exact True.intro|rfl,0,rfl,by omega,by rw [aq,aq];simp⟩
  rintro _ K L ⟨y,rfl,A,B⟩;refine ⟨by trivial,fun M F=>(JO x y b u A).mono ?_⟩;rintro r R S rfl;have w:i64.wrap ((i:Int)+1)=((i+1:Nat):Int):=by rw [ar (by omega)];omega
  simp only [w,Qq0];refine ⟨_,_,rfl,⟨by omega,by omega⟩,by simp;omega,(((x+y+b) / 4294967296:Nat),((i+1:Nat):Int),aE (es.set i ((x+y+b)%4294967296))),?_,by (try dsimp only);and_intros<;>first|exact True.intro|rfl|(rw [←bw];simp),?_⟩
  ·(try dsimp only);omega
  ·(try dsimp only)
   refine ⟨by omega,by omega,by omega,by omega,_,rfl,by simpa using t,h.set _ _ (by omega),?_⟩;simp only [Qq0];rw [aL _ _ _,Qk0,v,B];exact tQ l
 ·have d:i=k:=by simp at d;omega
  subst d;refine ⟨⟨by omega,by omega⟩,by simp;omega,fun J E T C=>?_⟩;have G:(aE es).set (0+((i:Int).toNat)*1) (.int .u32 (b:Int))=aE (es.set i b):=by rw [←bw];simp
  simp only [Qq0] at G;try simp only [Qq0] at C
  rw [G] at C;have j:=h.set i b (by omega);refine (cO (RD.bB C j (n:=i+1) (c:=i+1) (by simp;omega) (Qq3 _)) (by simp;omega)).mono ?_;rintro r K L ⟨k,rfl,a⟩;refine ⟨_,_,_,rfl,fun _ M F=>⟨_,_,_,rfl,?_⟩⟩;rw [aT j] at a
  have N:val (es.set i b)=val xs+val ys:=by
   have:=aL es i b;rw [aq (by simp;omega)] at this;rw [this,l,aq,aq]
  rw [N] at a;exact a.le F
theorem Es {E A B c x y W d b:Nat}(h:E+B=A+W*c)(hv:d+(y+c)=x+4294967296*b) :
  E+W*d+(B+W*y)=A+W*x+W*4294967296*b:=by
 have:=congrArg (W*·) hv;simp only [Qv0,←Qk3] at this;omega
theorem nE {V:View}{p q:OA}{n c m e:Nat}{xs ys:List Nat}(hx:RD V p n c xs)(hy:RD V q m e ys)(hm:xs.length<=1099511627776)(hl:ys.length<=xs.length)(hle:val ys<=val xs) :
  aa prog 185 #[.slice p n c,.slice q m e] V fun r V'=>∃p' n' c',r=.slice p' n' c'/\RN V' p' n' c' (val xs-val ys):=by
 have G:=hx.len;have N:=hy.len
 refine C7 p n c q m e V _ ⟨by omega,by omega,by omega,fun z V'=>0<=z.1/\z.1<=1/\0<=z.2.1/\z.2.1<=n/\∃es:List Nat,z.2.2=aE es/\es.length=n/\bP es /\
   val (es.take z.2.1.toNat)+val (ys.take z.2.1.toNat)=val (xs.take z.2.1.toNat)+4294967296^z.2.1.toNat*z.1.toNat,fun z=>n-z.2.1.toNat,
   ⟨(0,0,List.replicate n (.int .u32 0)),by (try dsimp only);and_intros<;>first|exact True.intro|rfl,by (try dsimp only);omega,by (try dsimp only);omega,by (try dsimp only);omega,by (try dsimp only);omega,List.replicate n 0,cE n,by simp,bP.rep _,by simp⟩,?_⟩
 rintro ⟨l,i,O⟩ P C ⟨o,u,s,v,es,rfl,g,a,t⟩;dsimp only at o u s v t ⊢;obtain ⟨i,rfl⟩:=Qw0 s;obtain ⟨l,rfl⟩:=Qw0 o;simp only [Qq0] at t;refine ⟨by trivial,fun j=>?_,fun j=>?_⟩
 ·have j:i<n:=by simpa using j
  refine ⟨fun z V'=>∃y:Nat,z=y/\y<4294967296/\val (ys.take (i+1))=val (ys.take i)+4294967296^i*y,⟨fun f=>?_,fun f=>?_⟩,?_⟩
  ·have f:i<m:=by simpa using f
   refine (hy.le C).rd i rfl (by omega) ?_;exact ⟨_,by (try dsimp only);and_intros<;>first|exact True.intro|rfl,ys[i],rfl,hy.ew.get (by omega),az _ _⟩
  ·have f:m<=i:=by simpa using f
   exact ⟨_,by (try dsimp only);and_intros<;>first|exact True.intro|rfl,0,rfl,by omega,by rw [aq,aq];simp⟩
  rintro _ H D ⟨y,rfl,x,A⟩;refine ⟨by trivial,?_⟩;refine ((hx.le C).le D).rd i rfl (by omega) fun I J=>(JU _ y l (hx.ew.get (by omega)) x).mono ?_;rintro r K E ⟨d,b,rfl,Q,F,B⟩;have w:i64.wrap ((i:Int)+1)=((i+1:Nat):Int):=by rw [ar (by omega)];omega
  simp only [w,Qq0];refine ⟨_,_,rfl,⟨by omega,by omega⟩,by simp;omega,((b:Int),((i+1:Nat):Int),aE (es.set i d)),?_,by (try dsimp only);and_intros<;>first|exact True.intro|rfl|(rw [←bw];simp),?_⟩
  ·(try dsimp only);omega
  ·(try dsimp only)
   refine ⟨by omega,by omega,by omega,by omega,_,rfl,by simpa using g,a.set _ _ (by omega),?_⟩;simp only [Qq0];rw [aL _ _ _,Qk0,az xs i,A];exact Es t B
 ·have j:i=n:=by simp at j;omega
  subst j;simp only [Qq0];intro H D R F;refine (cO (RD.bB F a (n:=i) (c:=i) g.symm (Qq3 _))).mono ?_;rintro r I J ⟨k,rfl,f⟩;refine ⟨_,_,_,rfl,fun _ K E=>⟨_,_,_,rfl,?_⟩⟩;rw [aT a] at f;rw [aq,aq,aq] at t;have L:=fE a;rw [g] at L
  have M:l=0:=by
   rcases Qx8 l with h|h
   ·exact h
   ·have:4294967296^i*1<=4294967296^i*l:=Qy6 _ h;omega
  subst M;rw [show val es=val xs-val ys from by omega] at f;exact f.le E
theorem Ct {V:View}{p:OA}{n c:Nat}{ds:List Nat}(h:RD V p n c ds){K:Int->Prop}(hn:0<ds.length)
  (hK:K ((ds[0]:Nat):Int)):(p.isSome=true)/\(0<=(0:Int)/\(0:Int)<(n:Int))/\∃x:Int,(∃a,ah p 0=some a/\V.at a (.int .u32 x))/\K x:=by
 have:=h.rd (i:=0) (K:=K) 0 rfl hn hK;simpa using this
theorem KI {V:View}{p:OA}{n c:Nat}{ds:List Nat}(h:RD V p n c ds){K:Int->Prop}(j:Nat)(hn:j<ds.length)
  (hK:K ((ds[j]:Nat):Int)):(p.isSome=true)/\(0<=(j:Int)/\(j:Int)<(n:Int))/\∃x:Int,(∃a,ah p j=some a/\V.at a (.int .u32 x))/\K x:=by
 have:=h.rd (i:=j) (K:=K) j rfl hn hK;simpa using this
theorem kR {ds:List Nat}(h:ds.length=1:=by omega):∃a,ds=[a]:=by
 match ds,h with
 | [a],_=>exact ⟨a,rfl⟩
theorem Eu {ds:List Nat}(h:ds.length=2:=by omega):∃a b,ds=[a,b]:=by
 match ds,h with
 | [a,b],_=>exact ⟨a,b,rfl⟩
theorem ch {V:View}{p q:OA}{n c m e:Nat}{xs ys:List Nat}(hx:RD V p n c xs)(hy:RD V q m e ys)(hm:xs.length+ys.length<=1099511627776:=by omega) :
  aa prog 81 #[.slice p n c,.slice q m e] V fun r V'=>∃p' n' c',r=.slice p' n' c'/\RN V' p' n' c' (val xs*val ys):=by
 have X:=hx.len;have yY:=hy.len;have y:((n:Int)+m).toNat=n+m:=by omega
 have w:i64.wrap ((n:Int)+m)=(n:Int)+m:=ar (by omega);have vc:=wi p n c q m e V;simp only [w,y,cE] at vc;refine (fun tail=>vc _ ⟨fun S=>⟨fun A=>?_,fun _=>tail⟩,fun _=>tail⟩) ?_
 ·have S:n=1:=by simp at S;omega
  have A:m=1:=by simp at A;omega
  clear tail vc;obtain ⟨a,rfl⟩:=kR (ds:=xs);obtain ⟨b,rfl⟩:=kR (ds:=ys);have T:=hx.ew.get (i:=0) (by simp);have B:=hy.ew.get (i:=0) (by simp);refine Ct hx (by simp) (Ct hy (by simp) fun V1 l1=>?_);simp only [Qs2] at T B ⊢;have ng:a*b<=4294967295*4294967295:=Qm7 (by omega) (by omega);have J:u64.wrap (a:Int)=a:=aM (by omega);have K:u64.wrap (b:Int)=b:=aM (by omega);have Y:(a:Int)*(b:Int)=((a*b:Nat):Int):=by simp
  have Z:u64.wrap ((a*b:Nat):Int)=((a*b:Nat):Int):=aM (by omega);rw [J,K,Y,Z];refine (cP (a*b)).mono ?_;rintro r V2 l2 ⟨p',n',c',rfl,h⟩;refine ⟨_,_,_,rfl,fun V3 l3=>⟨_,_,_,rfl,?_⟩⟩;simp only [bg,dL,Qv2,Qz2];exact h.le l3
 refine ⟨by omega,by omega,by omega,fun z V'=>0<=z.1/\z.1<=n/\∃es:List Nat,z.2=aE es/\es.length=n+m/\bP es /\
  val (es.take (z.1.toNat+m))=val (xs.take z.1.toNat)*val ys,fun z=>n-z.1.toNat,⟨(0,aE (List.replicate (n+m) 0)),by (try dsimp only);and_intros<;>first|exact True.intro|rfl,by (try dsimp only);omega,by (try dsimp only);omega,_,rfl,by simp,bP.rep _,by simp [tM,Qr0]⟩,?_⟩
 rintro ⟨i,vs⟩ V5 U ⟨C,L,es,rfl,M,o,D⟩;dsimp only at C L D ⊢;obtain ⟨i,rfl⟩:=Qw0 C;simp only [Qq0] at D;refine ⟨by trivial,fun v=>?_,fun v=>?_⟩
 ·have v:i<n:=by simpa using v
  refine (hx.le U).rd i rfl (by omega) ?_;have T:=hx.ew.get (i:=i) (by omega)
  refine ⟨fun z V'=>0<=z.1/\z.1<=4294967295/\0<=z.2.1/\z.2.1<=m/\∃d:List Nat,z.2.2=aE d/\d.length=n+m/\bP d/\d.drop (i+z.2.1.toNat)=es.drop (i+z.2.1.toNat) /\
   val (d.take (i+z.2.1.toNat))+4294967296^(i+z.2.1.toNat)*z.1.toNat=val (es.take (i+z.2.1.toNat))+4294967296^i*xs[i]*val (ys.take z.2.1.toNat),fun z=>m-z.2.1.toNat,
   ⟨(0,0,aE es),by (try dsimp only);and_intros<;>first|exact True.intro|rfl,by (try dsimp only);omega,by (try dsimp only);omega,by (try dsimp only);omega,by (try dsimp only);omega,es,rfl,M,o,rfl,by simp⟩,?_⟩
  rintro ⟨I,k,vs⟩ V6 W ⟨E,N,F,O,d,rfl,G,s,j,hw⟩;dsimp only at E N F O j hw ⊢;obtain ⟨k,rfl⟩:=Qw0 F;obtain ⟨I,rfl⟩:=Qw0 E;simp only [Qq0] at j hw;refine ⟨by trivial,fun g=>?_,fun g=>?_⟩
  ·have g:k<m:=by simpa using g
   refine (hy.le (U.trans W)).rd k rfl (by omega) ?_;have B:=hy.ew.get (i:=k) (by omega);have Rv:=s.get (i:=i+k) (by omega)
   have P:d[i+k]'(by omega)=es[i+k]'(by omega):=by
    have A:d[i+k]?=es[i+k]?:=by
     have:=congrArg (fun l=>l[0]?) j;simpa [Qj5] using this
    rw [Qq1 (by omega),Qq1 (by omega)] at A;exact Qm0 A
   simp (disch:=omega) only [ar];have u:((i:Int)+k).toNat=i+k:=by omega
   rw [u];refine ⟨⟨by omega,by omega⟩,((d[i+k]'(by omega):Nat):Int),by rw [Qy2,Qk8];exact fC,⟨by omega,by omega⟩,by simp;omega,by omega,?_⟩;have a0:xs[i]*ys[k]<=4294967295*4294967295:=Qm7 (by omega) (by omega);have MI:(xs[i]:Int)*(ys[k]:Int)=((xs[i]*ys[k]:Nat):Int):=by simp
   obtain ⟨t,ht⟩:∃t:Nat,t=I+xs[i]*ys[k]+d[i+k]'(by omega):=⟨_,rfl⟩;rw [Qz1] at hw;have f:=Ce hw ht
   have J:u64.wrap (u64.wrap (u64.wrap (u64.wrap (xs[i]:Int)*u64.wrap (ys[k]:Int))+u64.wrap ((d[i+k]'(by omega):Nat):Int))+(I:Int))=(t:Int):=by
    clear f;generalize xs[i]*ys[k]=pq at *;rw [aM (x:=(xs[i]:Int)) (by omega),aM (x:=(ys[k]:Int)) (by omega),MI,aM (x:=((pq:Nat):Int)) (by omega)];simp (disch:=omega) only [aM];omega
   rw [J,hU,ll];refine ⟨(_,_,_),?_,by (try dsimp only);and_intros<;>first|exact True.intro|rfl,?_⟩
   ·(try dsimp only);omega
   ·(try dsimp only)
    have H:((k:Int)+1).toNat=k+1:=by omega
    refine ⟨by omega,by omega,by omega,by omega,d.set (i+k) (t%4294967296),?_,by simpa using G,s.set _ _ (by omega),?_,?_⟩
    ·rw [←bw];simp
    ·rw [H,Qb3 (by omega)];have:=congrArg (List.drop 1) j;simpa [Qm6,Qf2,Qv1,Qg6] using this
    ·rw [H,show i+(k+1)=i+k+1 from by omega,aL _ _ _,az es (i+k),az ys k,←P,Qk0];have K:((t:Int) / 4294967296).toNat=t / 4294967296:=by omega
     rw [K,Qz1,f]
  ·have g:k=m:=by simp at g;omega
   subst g;simp (disch:=omega) only [ar];have u:((i:Int)+k).toNat=i+k:=by omega
   rw [u];refine ⟨⟨by omega,by omega⟩,by simp;omega,(_,_),?_,by (try dsimp only);and_intros<;>first|exact True.intro|rfl,?_⟩
   ·(try dsimp only);omega
   ·(try dsimp only)
    have Q:((i:Int)+1).toNat=i+1:=by omega
    refine ⟨by omega,by omega,d.set (i+k) I,?_,by simpa using G,s.set _ _ (by omega),?_⟩
    ·rw [←bw,pG (by omega)];simp
    ·rw [Q,show i+1+k=i+k+1 from by omega,aL _ _ _,hw,D,az xs i,aq (ds:=ys)];grind
 ·have v:i=n:=by simp at v;omega
  subst v;intro V6 W bk R;refine (cO (RD.bB R o (n:=i+m) (c:=i+m) (by omega) (Qq3 _))).mono ?_;rintro r V7 l7 ⟨k,rfl,g⟩;refine ⟨_,_,_,rfl,fun _ V8 l8=>⟨_,_,_,rfl,?_⟩⟩;rw [aT o] at g;rw [aq,aq] at D;rw [D] at g;exact g.le l8
theorem kH {V:View}{p:OA}{n c:Nat}{ds:List Nat}(h:RD V p n c ds)(hm:ds.length<=1099511627776:=by omega) :
  aa prog 181 #[.slice p n c] V fun r V'=>r=.tuple #[.int .u64 ((if n<=2 then val ds else 0:Nat):Int),.bool (decide (n<=2))]:=by
 have u:=h.len;refine Dg p n c V _ ⟨fun e k l=>?_,fun e=>⟨fun f=>?_,fun f=>⟨fun d=>?_,fun d k l=>?_⟩⟩⟩
 ·have e:n=0:=by simp at e;omega
  subst e;have:ds=[]:=Qw4.1 (by omega);subst this;rfl
 ·have f:n=1:=by simp at f;omega
  subst f;obtain ⟨a,rfl⟩:=kR (ds:=ds);have o:=h.ew.get (i:=0) (by simp);refine Ct h (by simp) fun k l=>?_;simp only [Qs2] at o ⊢;have m:u64.wrap (a:Int)=a:=aM (by omega);rw [m,if_pos (by omega),decide_eq_true (by omega)];simp
 ·have d:n=2:=by simp at d;omega
  subst d;obtain ⟨a,b,rfl⟩:=Eu (ds:=ds);have g:=h.ew.get (i:=0) (by simp);have j:=h.ew.get (i:=1) (by simp);refine KI h 1 (by simp) ⟨by omega,Ct h (by simp) fun k l=>?_⟩;simp only [Qs2,List.getElem_cons_succ] at g j ⊢;have m:u64.wrap (a:Int)=a:=aM (by omega);have q:u64.wrap (b:Int)=b:=aM (by omega);have s:((2:Int)^32)=4294967296:=by decide
  have t:u64.wrap ((b:Int)*4294967296)=(b:Int)*4294967296:=aM (by omega);rw [m,q,s,t,Cj _ _ j g,if_pos (by omega),decide_eq_true (by omega)];simp only [bg,dL];congr 4;omega
 ·have d:¬n<=2:=by simp at e f d;omega
  rw [if_neg d,decide_eq_false d];rfl
theorem Gy (b:Nat):0 ||| b=b:=Nat.zero_or b
theorem kG {V:View}{p:OA}{n c:Nat}{ds:List Nat}(hx:RD V p n c ds)(hm:ds.length<=1099511627776)(k:Nat)(hk:k<=35184372088832:=by omega) :
  aa prog 228 #[.slice p n c,.int .i64 (k:Int)] V fun r V'=>∃p' n' c',r=.slice p' n' c'/\RN V' p' n' c' (val ds*2^k):=by
 have hl:=hx.len;have y:(k:Int).tdiv 32=((k / 32:Nat):Int):=by rw [Qj0 (by omega)];omega
 have A:(k:Int).tmod 32=((k%32:Nat):Int):=by rw [Qz7 (by omega)];omega
 have vc:=C6 p n c k V
 have g:val ds*2^k=4294967296^(k / 32)*val ds*2^(k%32):=by
  have:2^k=4294967296^(k / 32)*2^(k%32):=by
   rw [show (4294967296:Nat)=2^32 from rfl,←Qt8,←Qz1,Qd2]
  rw [this];grind
 rw [g];have C:k / 32<=1099511627776:=by omega
 have o:k%32<32:=Qb2 _ (by omega);rw [y,A] at vc;generalize k / 32=w at *;generalize k%32=r at *;clear y A g;have D:i64.wrap (w:Int)=(w:Int):=ar (by omega);have E:i64.wrap ((w:Int)+n)=((w+n:Nat):Int):=by rw [ar (by omega)];omega
 have F:i64.wrap (((w+n:Nat):Int)+1)=((w+n+1:Nat):Int):=by rw [ar (by omega)];omega
 have G:u64.wrap (r:Int)=(r:Int):=aM (by omega)
 have h:(min r IntKind.u64.bits)=r:=by
  show min _ 64=r;omega
 have H:((2:Int)^r)=((2^r:Nat):Int):=by simp
 simp only [D,E,F,G,Qq0,h,H,cE] at vc
 refine vc _ ⟨by omega,by omega,by omega,by omega,by omega,fun z V'=>0<=z.1/\z.1<=n/\∃es:List Nat,z.2=aE es/\es.length=w+n+1/\bP es/\(∀c,es[z.1.toNat+w]?=some c->c<2^r)/\(∀j c,z.1.toNat+w<j->es[j]?=some c->c=0) /\
   val (es.take (z.1.toNat+w+1))=4294967296^w*val (ds.take z.1.toNat)*2^r,fun z=>n-z.1.toNat,
   ⟨(0,aE (List.replicate (w+n+1) 0)),by (try dsimp only);and_intros<;>first|exact True.intro|rfl,by (try dsimp only);omega,by (try dsimp only);omega,_,rfl,by simp,bP.rep _,?_,?_,?_⟩,?_⟩
 ·intro c a;rw [Qr3] at a;split at a
  ·cases a;exact Qz8 r
  ·cases a
 ·intro j c _ a;rw [Qr3] at a;split at a
  ·cases a;rfl
  ·cases a
 ·simp [Qr0,tM]
 rintro ⟨i,vs⟩ V4 I ⟨l,q,es,rfl,s,d,a,m,e⟩;dsimp only at l q a m e ⊢;obtain ⟨i,rfl⟩:=Qw0 l;simp only [Qq0] at a m e;refine ⟨by trivial,fun f=>?_,fun f=>?_⟩
 ·have f:i<n:=by simpa using f
  have J:i64.wrap ((w:Int)+i)=((i+w:Nat):Int):=by rw [ar (by omega)];omega
  have K:i64.wrap (((i+w:Nat):Int)+1)=((i+w+1:Nat):Int):=by rw [ar (by omega)];omega
  have L:i64.wrap ((i:Int)+1)=((i+1:Nat):Int):=by rw [ar (by omega)];omega
  simp only [J,K,L,Qq0,Qk8,Qy2];refine KI (hx.le I) i (by omega) ?_;have M:=hx.ew.get (i:=i) (by omega);have t:=a (es[i+w]'(by omega)) (Qq1 _);have N:=m (i+w+1) (es[i+w+1]'(by omega)) (by omega) (Qq1 _);obtain ⟨O,g2,P,g4⟩:=CD M o t;have hmul:((ds[i]:Nat):Int)*((2^r:Nat):Int)=((ds[i]*2^r:Nat):Int):=by simp
  have Q:u64.wrap ((ds[i]:Nat):Int)=((ds[i]:Nat):Int):=aM (by omega);have R:u64.wrap ((ds[i]*2^r:Nat):Int)=((ds[i]*2^r:Nat):Int):=aM (by omega);have S:u32.wrap ((ds[i]*2^r:Nat):Int)=((ds[i]*2^r%4294967296:Nat):Int):=by rw [hU];omega
  have T:u32.wrap (((ds[i]*2^r:Nat):Int).fdiv (2^32))=((ds[i]*2^r / 4294967296:Nat):Int):=by rw [ll,hU];omega
  simp only [Q,hmul,R,S,T];have u:ds[i]*2^r / 4294967296<4294967296:=by omega
  have U:=Qg5 (ds[i]*2^r) 4294967296;have v:val (List.take (i+1) ds)=val (List.take i ds)+4294967296^i*ds[i]:=az _ _;have W:val (es.take (i+w+1))=val (es.take (i+w))+4294967296^(i+w)*es[i+w]'(by omega):=az _ _;have x:ds[i]*2^r%4294967296<4294967296:=Qb2 _ (by omega);generalize ds[i]*2^r%4294967296=lo at *;generalize ds[i]*2^r / 4294967296=hi at *;refine ⟨by omega,by omega,⟨by omega,by omega⟩,((es[i+w]'(by omega):Nat):Int),fC,⟨by omega,by omega⟩,by simp;omega,by omega,⟨by omega,by omega⟩,((es[i+w+1]'(by omega):Nat):Int),?_,by omega,⟨by omega,by omega⟩,by simp;omega,?_⟩
  ·rw [Qg0 (by omega)];exact fC
  have X:es[i+w]'(by omega)<4294967296:=d.get (by omega);rw [Ea _ _ X x,O,N,Ea _ _ (by omega) u,Gy];refine ⟨(((i+1:Nat):Int),aE ((es.set (i+w) (es[i+w]'(by omega)+lo)).set (i+w+1) hi)),?_,?_,?_⟩
  ·(try dsimp only);omega
  ·(try dsimp only);and_intros<;>first|exact True.intro|rfl|rw [←bw,←bw]
  ·(try dsimp only)
   refine ⟨by omega,by omega,_,rfl,by simpa using s,(d.set _ _ (by omega)).set _ _ (by omega),?_,?_,?_⟩
   ·intro c b;simp only [Qq0] at b;rw [show i+1+w=i+w+1 from by omega,Qs0 (by simp;omega)] at b;cases b;exact P
   ·intro j c Y b;simp only [Qq0] at Y;rw [Qg0 (by omega),Qg0 (by omega)] at b;exact m j c (by omega) b
   ·simp only [Qq0];rw [show i+1+w+1=i+w+1+1 from by omega,aL _ _ _ (by simp;omega),aL _ _ _,v];rw [W] at e;have Z:4294967296^(i+w+1)*hi=4294967296^(i+w)*(4294967296*hi):=by rw [Qk0];grind
    rw [Z,Qv0,←Qv1,e,Qv1,←Qv0,U,Qz1];grind
 ·have f:i=n:=by simp at f;omega
  subst f;intro V5 l5 bk hb;refine (cO (RD.bB hb d (n:=w+i+1) (c:=w+i+1) (by omega) (Qq3 _))).mono ?_;rintro r' V6 l6 ⟨k',rfl,B⟩;refine ⟨_,_,_,rfl,fun _ V7 l7=>⟨_,_,_,rfl,?_⟩⟩;rw [aq,aq] at e;rw [aT d,e] at B;exact B.le l7
theorem gU (a:Addr)(m n:Nat):(a.add m).add n=a.add (m+n):=by
 unfold Addr.add;by_cases b:m=0
 ·subst b;simp
 ·by_cases c:n=0
  ·subst c;simp [b]
  ·rw [if_neg b,if_neg c,if_neg (by omega)];simp only [Qv1]
theorem L7 {V:View}{p:OA}{n c:Nat}{ds:List Nat}(h:RD V p n c ds){k:Nat}(hk:k<n):RD V (pC p c k 1) (n-k) (c-k) (ds.drop k):=by
 have g:=h.len;have j:=h.cap;have e:pC p c k 1=ah p k:=by unfold pC;rw [if_neg (by omega),Qk8]
 rw [e];refine ⟨by simp;omega,by omega,fun i v b=>?_,h.ew.drop k,fun l=>?_⟩
 ·rw [GX,Qj5] at b;obtain ⟨d,f,a⟩:=h.sl _ _ b;refine ⟨d.add k,by rw [f];rfl,?_⟩;rw [gU];exact a
 ·have:p.isNone=true:=by cases p<;>simp_all [ah]
  have:=h.Ku this;omega
theorem Bz {V:View}{p:OA}{n c:Nat}{ds:List Nat}(hd:RD V p n c ds)(hm:ds.length<=1099511627776)(k:Nat)(hk:k<=35184372088832:=by omega) :
  aa prog 229 #[.slice p n c,.int .i64 (k:Int)] V fun r V'=>∃p' n' c',r=.slice p' n' c'/\RN V' p' n' c' (val ds / 2^k):=by
 have U:=hd.len;have F:(k:Int).tdiv 32=((k / 32:Nat):Int):=by rw [Qj0 (by omega)];omega
 have v:(k:Int).tmod 32=((k%32:Nat):Int):=by rw [Qz7 (by omega)];omega
 have vc:=AU p n c k V
 have o:val ds / 2^k=val ds / 4294967296^(k / 32) / 2^(k%32):=by
  rw [Nat.div_div_eq_div_mul,show (4294967296:Nat)=2^32 from rfl,←Qt8,←Qz1,Qd2]
 rw [o];have J:k / 32<=1099511627776:=by omega
 have y:k%32<32:=Qb2 _ (by omega);rw [F,v] at vc;generalize k / 32=w at *;generalize k%32=r at *;clear F v o;have K:i64.wrap (w:Int)=(w:Int):=ar (by omega);have L:u64.wrap (r:Int)=(r:Int):=aM (by omega)
 have q:(min r IntKind.u64.bits)=r:=by
  show min _ 64=r;omega
 simp only [K,L,Qq0,q,cE] at vc;refine vc _ ⟨by omega,fun h W X=>?_,fun h=>?_⟩
 ·have h:n<=w:=by simp at h;omega
  have a:=fE hd.ew;have:4294967296^ds.length<=4294967296^w:=Qx3 (by omega) (by omega);rw [Qv3 (Qx7 a this),Wy2];exact ⟨_,_,_,rfl,RD.nil⟩
 ·have h:w<n:=by simp at h;omega
  clear vc
  have s:val ds / 4294967296^w=val (ds.drop w):=by
   have e:val ds=val (ds.take w++ds.drop w):=by rw [Qj4]
   have a:=fE (hd.ew.take w);rw [cR] at e;rw [Qq5,Qy8 (by omega)] at e a;rw [e,Qf9 _ _ (Qr1 (by omega)),Qv3 a,Qy2]
  rw [s];have j:=L7 hd h;have M:=j.len;clear s;generalize pC p c w 1=sp at *;generalize ds.drop w=xs at *;generalize hN:n-w=N at *
  refine ⟨by omega,by omega,⟨by omega,by omega⟩,by omega,by omega,by omega,fun z V'=>0<=z.1/\z.1<=N/\∃es:List Nat,z.2=aE es/\es.length=N/\bP es /\
   val (es.take z.1.toNat)+4294967296^z.1.toNat*(val (xs.drop z.1.toNat) / 2^r)=val xs / 2^r,fun z=>N-z.1.toNat,
   ⟨(0,aE (List.replicate N 0)),by (try dsimp only);and_intros<;>first|exact True.intro|rfl,by (try dsimp only);omega,by (try dsimp only);omega,_,rfl,by simp,bP.rep _,by simp⟩,?_⟩
  rintro ⟨i,Z⟩ V4 G ⟨t,A,es,rfl,B,f,b⟩;dsimp only at t A b ⊢;obtain ⟨i,rfl⟩:=Qw0 t;simp only [Qq0] at b;refine ⟨by trivial,fun m=>?_,fun m=>?_⟩
  ·have m:i<N:=by simpa using m
   have O:i64.wrap ((i:Int)+1)=((i+1:Nat):Int):=by rw [ar (by omega)];omega
   simp only [O,Qq0,Qk8,Qy2];refine KI (j.le G) i (by omega) ?_;have H:=j.ew.get (i:=i) (by omega);refine ⟨fun z V'=>z=((xs[i]+4294967296*(xs[i+1]?).getD 0:Nat):Int),⟨fun d=>?_,fun d=>?_⟩,?_⟩
   ·have d:i+1<N:=by simp at d;omega
    have C:=j.ew.get (i:=i+1) (by omega)
    have E:aV .or .u64 (u64.wrap ((xs[i]:Nat):Int)) (u64.wrap (u64.wrap ((xs[i+1]:Nat):Int)*2^32))=((xs[i]+4294967296*(xs[i+1]?).getD 0:Nat):Int):=by
     have v:((2:Int)^32)=4294967296:=by decide
     rw [v,aM (by omega),aM (x:=((xs[i+1]:Nat):Int)) (by omega),aM (by omega),IH _ _ C H,Qq1 (by omega),Qc5];omega
    refine KI (j.le G) (i+1) (by omega) ⟨by omega,((xs[i]+4294967296*(xs[i+1]?).getD 0:Nat):Int),?_,rfl⟩
    (try dsimp only);and_intros<;>first|exact True.intro|exact E|rfl
   ·have d:N<=i+1:=by simp at d;omega
    have E:u64.wrap ((xs[i]:Nat):Int)=((xs[i]+4294967296*(xs[i+1]?).getD 0:Nat):Int):=by
     rw [aM (by omega),Qk6 (by omega)];simp
    refine ⟨((xs[i]+4294967296*(xs[i+1]?).getD 0:Nat):Int),?_,rfl⟩
    (try dsimp only);and_intros<;>first|exact True.intro|exact E|rfl
   rintro _ P Q rfl;have u:=CE (Y:=val (xs.drop (i+1))) H y;rw [pH j.ew] at u
   have g:val (xs.drop i)=xs[i]+4294967296*val (xs.drop (i+1)):=by
    rw [Qw1 (by omega),bg]
   rw [g,u] at b;rw [fq,hU];obtain ⟨D,I⟩:∃D,D=(xs[i]+4294967296*(xs[i+1]?).getD 0) / 2^r%4294967296:=⟨_,rfl⟩;have R:(((xs[i]+4294967296*(xs[i+1]?).getD 0) / 2^r:Nat):Int)%4294967296=(D:Int):=by rw [I];omega
   rw [R];rw [←I] at b;refine ⟨by trivial,by omega,⟨by omega,by omega⟩,by simp;omega,(((i+1:Nat):Int),aE (es.set i D)),?_,?_,?_⟩
   ·(try dsimp only);omega
   ·(try dsimp only);and_intros<;>first|exact True.intro|rfl|rw [←bw]
   ·(try dsimp only)
    refine ⟨by omega,by omega,_,rfl,by simpa using B,f.set _ _ (by omega),?_⟩;simp only [Qq0];rw [aL _ _ _,←b,Qk0,Qv0,Qv1,Qk3]
  ·have m:i=N:=by simp at m;omega
   subst m;intro P Q bk S;refine (cO (RD.bB S f (n:=i) (c:=i) (by omega) (Qq3 _))).mono ?_;rintro r' V6 l6 ⟨k',rfl,d⟩;refine ⟨_,_,_,rfl,fun _ V7 T=>⟨_,_,_,rfl,?_⟩⟩;rw [aq,Qx1 (l:=xs) (i:=i) (by omega)] at b
   have b:val es=val xs / 2^r:=by
    rw [←b,dL,Wy2,Qv2,Qz2]
   rw [aT f,b] at d;exact d.le T
end Go.Proofs.Tryz
namespace Go.Big
theorem rY {ds:List Nat}(hd:bP ds)(w:Nat)(hw:w<=ds.length:=by omega):val ds / 4294967296^w=val (ds.drop w):=by
 have e:val ds=val (ds.take w++ds.drop w):=by rw [Qj4]
 have a:=fE (hd.take w);rw [cR] at e;rw [Qq5,Qy8 (by omega)] at e a;rw [e,Qf9 _ _ (Qr1 (by omega)),Qv3 a,Qy2]
theorem Pc {R n:Nat}(h:(ai R).length=n+2):R / 4294967296^n=(ai R)[n+1]'(by omega)*4294967296+(ai R)[n]'(by omega):=by
 have:=rY (aD R) n;rw [af] at this;rw [this,Qw1 (by omega),Qw1 (i:=n+1) (by omega),Qx1 (by omega)];simp only [bg,dL];omega
theorem Lz {R n:Nat}(h:(ai R).length=n+1):R / 4294967296^n=(ai R)[n]'(by omega):=by
 have:=rY (aD R) n;rw [af] at this;rw [this,Qw1 (by omega),Qx1 (by omega)];simp only [bg,dL];omega
theorem Pb {R n:Nat}(h:(ai R).length<=n):R / 4294967296^n=0:=Qv3 (aG.1 h)
theorem Et {V n:Nat}(h:(ai V).length=n+1):(ai V)[n]'(by omega)*4294967296^n<=V:=by
 have:=Lz h;rw [←this];exact Nat.div_mul_le_self _ _
theorem HV {R V top P W:Nat}(hV:top*P<=V)(ht:0<top)(hP:0<P)(hW:0<W):R / (V*W)<=R / (P*W) / top:=by
 rw [Qh9 ht,Qh9 (Wx1 hP hW)];have a:R / (V*W)*(V*W)<=R:=Nat.div_mul_le_self _ _;have b:R / (V*W)*(top*P*W)<=R / (V*W)*(V*W):=Qy6 _ (Qq7 _ hV)
 have c:R / (V*W)*top*(P*W)=R / (V*W)*(top*P*W):=by
  generalize R / (V*W)=q;rw [Qk3 q top,←Qk3 top P W]
 omega
theorem Gv {A V W D R q R':Nat}(h:A=V*(W*4294967296*D)+R)(hq:R=V*q*W+R'):A=V*(W*(q+4294967296*D))+R':=by
 subst hq;rw [h];grind
theorem Ih {x y s Q R:Nat}(h:x*2^s=y*2^s*Q+R)(hR:R<y*2^s):Q=x / y/\R / 2^s=x%y:=by
 have c:=Qz8 s
 have f:0<y:=by
  rcases Qx8 y with e|e
  ·subst e;simp at hR
  ·exact e
 have g:y*2^s*Q=(y*Q)*2^s:=by grind
 rw [g] at h
 have i:y*Q<=x:=by
  rcases Qy9 x (y*Q) with a|a
  ·have:(x+1)*2^s<=y*Q*2^s:=Qq7 _ a;rw [Qz6] at this;omega
  ·exact a
 obtain ⟨d,rfl⟩:=Nat.exists_eq_add_of_le i;rw [Qz6] at h;have j:R=d*2^s:=by omega
 subst j;have b:d<y:=Nat.lt_of_mul_lt_mul_right hR;rw [Qf3 _ c];constructor
 ·rw [Wy0 f,Qv3 b,Qz2]
 ·rw [Wy1,Qx9 b]
theorem LJ (j:Nat):2^(32*j)=4294967296^j:=by rw [Qt8]
theorem DU {R V W g:Nat}(NJ:0<V*W)(h:V*g*W<=R)(hq:R / (V*W)<=g):g=R / (V*W):=by
 have:g<=R / (V*W):=by
  rw [Qh9 NJ];have:g*(V*W)=V*g*W:=by grind
  omega
 omega
theorem HW {R V W g:Nat}(NJ:0<V*W)(h:R<V*g*W):R / (V*W)<g:=by
 rw [Qv7 NJ];have:g*(V*W)=V*g*W:=by grind
 omega
theorem El {R V W:Nat}:R=V*(R / (V*W))*W+R%(V*W):=by
 have:=Qd2 R (V*W)
 have e:V*(R / (V*W))*W=V*W*(R / (V*W)):=by
  generalize R / (V*W)=q;grind
 omega
theorem gZ {a b:Nat}:(ai (a*b)).length<=(ai a).length+(ai b).length:=by
 rw [aG,Qz1];have c:a<4294967296^(ai a).length:=aG.1 (Qq3 _);have d:b<4294967296^(ai b).length:=aG.1 (Qq3 _);exact Qp7 c d
theorem z_ (j:Nat):(ai (4294967296^j)).length<=j+1:=by
 rw [aG];exact Nat.pow_lt_pow_right (by omega) (by omega)
end Go.Big
namespace Go.Proofs.Tryz
open Go.Eng Go.Big
theorem XZ {V:View}{p:OA}{n c:Nat}{ds:List Nat}(h:RD V p n c ds){i:Int}{K:Int->Prop}(j d:Nat)(hj:i=j)(hn:ds[j]?=some d)
  (hK:K (d:Int)):(p.isSome=true)/\(0<=i/\i<(n:Int))/\∃x:Int,(∃a,ah p (i.toNat*1)=some a/\V.at a (.int .u32 x))/\K x:=by
 have b:j<ds.length:=by
  rcases Qy9 j ds.length with h|h
  ·exact h
  ·rw [Qk6 h] at hn;cases hn
 refine h.rd j hj b ?_;rw [Qq1 b] at hn;cases hn;exact hK
theorem GV {W n:Nat}(h:(ai W).length=n+1:=by omega):∃top,(ai W)[n]?=some top/\top≠0/\top<4294967296/\top*4294967296^n<=W:=by
 refine ⟨(ai W)[n]'(by omega),Qq1 _,?_,(aD W).get _,Et h⟩;have:=(iN W).last (by omega);simpa [h] using this
structure yl (A V L:Nat) (R:Nat) (j:Nat) (es:List Nat):Prop where
 len:es.length=L
 ew:bP es
 lt:R<V*4294967296^j
 eq:A=V*(4294967296^j*val (es.drop j))+R
theorem yl.step {A V L R j:Nat}{es:List Nat}(h:yl A V L R (j+1) es)(hj:j<L)(hV:0<V) :
  R / (V*4294967296^j)<4294967296/\yl A V L (R-V*(R / (V*4294967296^j))*4294967296^j) j (es.set j (R / (V*4294967296^j))):=by
 have c:0<4294967296^j:=Qr1 (by omega);have a:0<V*4294967296^j:=Wx1 hV c
 have b:R / (V*4294967296^j)<4294967296:=by
  rw [Qv7 a];have:=h.lt;rw [Qk0] at this
  have e:4294967296*(V*4294967296^j)=V*(4294967296^j*4294967296):=by
   generalize 4294967296^j=w;grind
  omega
 have d:=El (R:=R) (V:=V) (W:=4294967296^j);have hm:=Qb2 R a;have he:R-V*(R / (V*4294967296^j))*4294967296^j=R%(V*4294967296^j):=by omega
 refine ⟨b,⟨by simpa using h.len,h.ew.set _ _ b,by rw [he];exact hm,?_⟩⟩;have f:=h.len;rw [Qw1 (by simp;omega),Qf4,Qb3 (by omega),bg,he];exact Gv (by have:=h.eq;rwa [Qk0] at this) d
theorem I9 {R V j:Nat}(h:R<V*4294967296^(j+1)):(ai R).length<=(ai V).length+j+1:=by
 have a:V*4294967296^(j+1)<=4294967296^(ai V).length*4294967296^(j+1):=Qq7 _ (Qh8 (aG.1 (Qq3 _)));rw [←Qz1] at a;have:=aG.2 (Qx7 h a);omega
theorem Kq {R n:Nat}(h:(ai R).length<=n+2):R / 4294967296^n<18446744073709551616:=by
 rw [Qv7 (Qr1 (by omega))];have:=aG.1 h;rw [Qk0,Qk0] at this
 have e:4294967296^n*4294967296*4294967296=18446744073709551616*4294967296^n:=by
  generalize 4294967296^n=w;omega
 omega
theorem DM {V:View}{p q:OA}{n c m e:Nat}{x y:Nat}(hx:RN V p n c x)(hy:RN V q m e y)(hm:(ai x).length<=274877906944)(hy0:0<y)(hle:(ai y).length<=(ai x).length) :
  aa prog 187 #[.slice p n c,.slice q m e] V fun r V'=>∃p1 n1 c1 p2 n2 c2,r=.tuple #[.slice p1 n1 c1,.slice p2 n2 c2]/\RN V' p1 n1 c1 (x / y)/\RN V' p2 n2 c2 (x%y):=by
 have a2:=hx.len;have yY:=hy.len
 have b4:0<m:=by
  rcases Qx8 m with h|h
  ·have:=bz.1 (Qw4.1 (yY▸h));omega
  ·exact h
 have vc:=De p n c q m e V;have w1:i64.wrap ((m:Int)-1)=((m-1:Nat):Int):=by rw [ar (by omega)];omega
 have w2:i64.wrap ((n:Int)-m)=((n-m:Nat):Int):=by rw [ar (by omega)];omega
 have w3:i64.wrap (((n-m:Nat):Int)+1)=((n-m+1:Nat):Int):=by rw [ar (by omega)];omega
 have w4:i64.wrap (((n-m+1:Nat):Int)-1)=((n-m:Nat):Int):=by rw [ar (by omega)];omega
 simp only [w1,w2,w3,Qq0,w4,cE] at vc;obtain ⟨L,hL⟩:∃L,L=n-m+1:=⟨_,rfl⟩;rw [←hL] at vc;refine vc _ ?_;clear vc;refine hy.rd (m-1) rfl (by omega) fun V1 O=>(fL _ ((aD y).get (by omega))).mono ?_;rintro r V2 P rfl;have a3:bf ((ai y)[m-1]'(by omega))<=32:=eh.2 (by have:=(aD y).get (i:=m-1) (by omega);omega);obtain ⟨s,hs⟩:∃s:Nat,(32:Int)-(bf ((ai y)[m-1]'(by omega)):Int)=s:=⟨32-bf ((ai y)[m-1]'(by omega)),by omega⟩;have Kf:s<=32:=by omega
 rw [hs];clear hs a3;refine ⟨_,rfl,fun V3 l3=>(kG (hy.le (O.trans (P.trans l3))) (by omega) s).mono ?_⟩;rintro r V4 l4 ⟨vp,d,vc,rfl,F⟩;rw [af] at F;refine ⟨_,_,_,rfl,fun V5 l5=>(kG (hx.le (O.trans (P.trans (l3.trans (l4.trans l5))))) (by omega) s).mono ?_⟩;rintro r V6 l6 ⟨rp,N,rc,rfl,hr⟩;rw [af] at hr
 replace F:=F.le (l5.trans l6)
 have a4:=F.len;have S:=Qz8 s;have b5:2^s<=4294967296:=Qx3 (n:=2) (by omega) Kf;have UL:0<y*2^s:=Wx1 hy0 S;have b6:(ai (2^s)).length<=2:=aG.2 (by omega);have b7:d<=m+2:=by have:=gZ (a:=y) (b:=2^s);omega
 have Ze:0<d:=by
  rcases Qx8 d with h|h
  ·have:=bz.1 (Qw4.1 (a4▸h));omega
  ·exact h
 have G:yl (x*2^s) (y*2^s) L (x*2^s) L (List.replicate L 0):=by
  refine ⟨by simp,bP.rep _,?_,by simp⟩;have h1:x<4294967296^n:=by rw [a2];exact aG.1 (Qq3 _)
  have h2:4294967296^(m-1)<=y:=by rw [←rH];omega
  have v:4294967296^(m-1)*4294967296^L<=y*4294967296^L:=Qq7 _ h2;rw [←Qz1,show m-1+L=n from by omega] at v;have B:x*2^s<y*4294967296^L*2^s:=Qc0 (by omega) S
  have C:y*4294967296^L*2^s=y*2^s*4294967296^L:=by
   generalize 4294967296^L=w;grind
  omega
 have E:∀{Q R:Nat},x*2^s=y*2^s*Q+R->R<y*2^s->Q=x / y/\R / 2^s=x%y:=fun h1 h2=>Ih h1 h2;generalize x*2^s=A at *;generalize y*2^s=W at *;have w5:i64.wrap ((d:Int)-1)=((d-1:Nat):Int):=by rw [ar (by omega)];omega
 simp only [w5,Qq0];refine ⟨_,_,_,rfl,?_⟩;obtain ⟨top,Xo,UU,UW,OV⟩:=GV (W:=W) (n:=d-1);refine XZ F (d-1) top rfl Xo ?_;have w6:u64.wrap (top:Int)=top:=aM (by omega);simp only [w6]
 refine ⟨by omega,by omega,by omega,fun z V'=>∃R:Nat,RN V' z.1 z.2.1 z.2.2.1 R/\-1<=z.2.2.2.1/\z.2.2.2.1<L/\∃es:List Nat,z.2.2.2.2=aE es/\yl A W L R (z.2.2.2.1+1).toNat es,fun z=>(z.2.2.2.1+1).toNat,
  ⟨(rp,N,rc,((n-m:Nat):Int),aE (List.replicate L 0)),by (try dsimp only);and_intros<;>first|exact True.intro|rfl,A,hr,by (try dsimp only);omega,by (try dsimp only);omega,_,rfl,?_⟩,?_⟩
 ·(try dsimp only)
  rw [show (((n-m:Nat):Int)+1).toNat=L from by omega];exact G
 rintro ⟨rp,N,rc,j,vs⟩ V7 l7 ⟨R,H,a5,a6,es,rfl,o⟩;dsimp only at H a5 a6 o ⊢;have b8:=H.len;refine ⟨by trivial,fun v=>?_,fun v=>?_⟩
 ·have v:0<=j:=by simpa using v
  obtain ⟨j,rfl⟩:=Qw0 v;have o:yl A W L R (j+1) es:=o;have Xc:j<L:=by omega
  have T:=I9 o.lt;obtain ⟨hq,U⟩:=o.step Xc UL;have w7:i64.wrap ((d:Int)+j)=((d-1+j+1:Nat):Int):=by rw [ar (by omega)];omega
  have w8:i64.wrap (((d-1+j+1:Nat):Int)-1)=((d-1+j:Nat):Int):=by rw [ar (by omega)];omega
  have w9:i64.wrap ((32:Int)*j)=((32*j:Nat):Int):=by rw [ar (by omega)];omega
  have Ts:i64.wrap ((j:Int)-1)=(j:Int)-1:=ar (by omega);simp only [w7,w8,w9,Ts,Qq0];have T:(ai R).length<=d-1+j+2:=by omega
  have a7:=Kq T;have hP:0<4294967296^(d-1):=Qr1 (by omega);have hW:0<4294967296^j:=Qr1 (by omega);have hg:=HV (R:=R) OV (by omega) hP hW;rw [←Qz1] at hg;have P:=@Pc R (d-1+j);have O:=@Lz R (d-1+j);have l0:=@Pb R (d-1+j);have l:∀i (hi:i<(ai R).length),(ai R)[i]<4294967296:=fun i hi=>(aD R).get hi;generalize R / 4294967296^(d-1+j)=lead at *;refine ⟨fun z V'=>z=(lead:Int),⟨fun B=>?_,fun B=>?_⟩,?_⟩
  ·have B:d-1+j+1<N:=by simp at B;omega
   refine (H.rd (d-1+j+1) rfl (by omega) ⟨by omega,H.rd (d-1+j) rfl (by omega) ⟨(lead:Int),?_,rfl⟩⟩)
   have X:aV .or .u64 (u64.wrap (u64.wrap (((ai R)[d-1+j+1]'(by omega):Nat):Int)*2^32)) (u64.wrap (((ai R)[d-1+j]'(by omega):Nat):Int))=(lead:Int):=by
    have e3:((2:Int)^32)=4294967296:=by decide
    have g1:=l (d-1+j+1) (by omega);have Y:=l (d-1+j) (by omega);have:=P (by omega);rw [e3,aM (x:=(((ai R)[d-1+j+1]'(by omega):Nat):Int)) (by omega),aM (x:=(((ai R)[d-1+j]'(by omega):Nat):Int)) (by omega),aM (by omega),Cj _ _ g1 Y,this];omega
   (try dsimp only);and_intros<;>first|exact True.intro|exact X|rfl
  ·have B:N<=d-1+j+1:=by simp at B;omega
   refine ⟨fun z V'=>z=(lead:Int),⟨fun C=>?_,fun C=>?_⟩,?_⟩
   ·have C:d-1+j<N:=by simp at C;omega
    refine H.rd (d-1+j) rfl (by omega) ⟨(lead:Int),?_,rfl⟩
    have X:u64.wrap (((ai R)[d-1+j]'(by omega):Nat):Int)=(lead:Int):=by
     have Y:=l (d-1+j) (by omega);rw [aM (by omega),O (by omega)]
    (try dsimp only);and_intros<;>first|exact True.intro|exact X|rfl
   ·have C:N<=d-1+j:=by simp at C;omega
    have X:(0:Int)=(lead:Int):=by rw [l0 (by omega)];rfl
    refine ⟨(lead:Int),?_,rfl⟩
    (try dsimp only);and_intros<;>first|exact True.intro|exact X|rfl
   ·rintro _ V8 l8 rfl;refine ⟨by trivial,(lead:Int),?_,rfl⟩
    (try dsimp only);and_intros<;>first|exact True.intro|rfl
  rintro _ V9 Z rfl;clear P O l0 l;have Ov:(lead:Int).tdiv (top:Int)=((lead / top:Nat):Int):=by rw [Qj0 (by omega)];omega
  have a8:lead / top<=lead:=Qc1 _ _;rw [Ov];generalize lead / top=lt at *
  obtain ⟨D,a0,Mv,Rz⟩:∃D:Nat,bN (u64.wrap (lt:Int)) 4294967295=(D:Int)/\D<4294967296/\R / (W*4294967296^j)<=D:=by
   rw [aM (by omega)];unfold bN;split
   ·exact ⟨4294967295,rfl,by omega,by omega⟩
   ·exact ⟨lt,rfl,by omega,hg⟩
  rw [a0];clear a0 Ov a8 hg a7;have UM:0<W*4294967296^j:=Wx1 UL hW;have u:∀g:Nat,g<4294967296->(ai g).length<=1:=fun g hg=>aG.2 (by omega);refine ⟨by trivial,by omega,fun fK t=>(cP D).mono ?_⟩;rintro r eO bA ⟨gp,gn,gc,rfl,a9⟩;refine ⟨_,_,_,rfl,fun gW I=>(ch (F.le (l7.trans (Z.trans (t.trans (bA.trans I))))) (a9.le I) (by have:=u D Mv;omega)).mono ?_⟩;rintro r lx cD ⟨pp,pn,pc,rfl,NG⟩;rw [af,af] at NG;have J:=fun g=>gZ (a:=W) (b:=g);refine ⟨_,_,_,rfl,fun mr eB=>(kG (NG.le eB) (by have:=u D Mv;have:=J D;omega) (32*j)).mono ?_⟩;rintro r mV dw ⟨tp,tn,tc,rfl,UF⟩;rw [af,LJ] at UF;have Oz:=H.le (Z.trans (t.trans (bA.trans (I.trans (cD.trans (eB.trans dw))))));have R6:=F.le (l7.trans (Z.trans (t.trans (bA.trans (I.trans (cD.trans (eB.trans dw)))))))
  refine ⟨_,_,_,rfl,fun z V'=>∃g:Nat,z.1=g/\g<4294967296/\R / (W*4294967296^j)<=g/\RN V' z.2.1 z.2.2.1 z.2.2.2 (W*g*4294967296^j),fun z=>z.1.toNat,
   ⟨((D:Int),tp,tn,tc),by (try dsimp only);and_intros<;>first|exact True.intro|rfl,D,rfl,Mv,Rz,UF⟩,?_⟩
  rintro ⟨_,tp,tn,tc⟩ rz dY ⟨g,rfl,b0,Xa,ht⟩;dsimp only at ht ⊢
  have b1:(ai (W*g*4294967296^j)).length<=1099511627776:=by
   have h1:=gZ (a:=W*g) (b:=4294967296^j);have h2:=z_ j;have v:=J g;have B:=u g b0;omega
  refine ⟨by trivial,fun pR dR=>(ig (ht.le dR) (Oz.le (dY.trans dR)) b1).mono ?_⟩;rintro r wS hJ rfl;refine ⟨_,rfl,fun f=>?_,fun f=>?_⟩
  ·have f:R<W*g*4294967296^j:=by
    have f:0<jZ (W*g*4294967296^j) R:=by simpa using f
    unfold jZ at f;split at f
    ·omega
    ·split at f
     ·assumption
     ·omega
   have b2:=HW UM f;have b9:0<g:=Qn2 (Qq9 _) b2;have e1:u64.wrap ((g:Int)-1)=((g-1:Nat):Int):=by rw [aM (by omega)];omega
   simp only [e1];refine fun Dk iW=>(cP (g-1)).mono ?_;rintro r FQ pS ⟨gp,gn,gc,rfl,b3⟩;refine ⟨_,_,_,rfl,fun ET kq=>(ch (R6.le (dY.trans (dR.trans (hJ.trans (iW.trans (pS.trans kq)))))) (b3.le kq) (by have:=u (g-1) (by omega);omega)).mono ?_⟩;rintro r FR uU ⟨pp,pn,pc,rfl,a1⟩;rw [af,af] at a1;refine ⟨_,_,_,rfl,fun G3 mO=>(kG (a1.le mO) (by have:=u (g-1) (by omega);have:=J (g-1);omega) (32*j)).mono ?_⟩;rintro r Nv Kn ⟨tp,tn,tc,rfl,Qw⟩;rw [af,LJ] at Qw;refine ⟨_,_,_,rfl,(((g-1:Nat):Int),tp,tn,tc),?_,by (try dsimp only);and_intros<;>first|exact True.intro|rfl,g-1,rfl,by omega,by omega,Qw⟩
   (try dsimp only);omega
  ·have f:W*g*4294967296^j<=R:=by
    have f:¬0<jZ (W*g*4294967296^j) R:=by simpa using f
    unfold jZ at f;split at f
    ·omega
    ·split at f
     ·omega
     ·omega
   have K:=DU UM f Xa;rw [←K] at U;have c0:=o.len;refine ⟨⟨by omega,by omega⟩,by simp;omega,fun Nw Bb=>(nE (Oz.le (dY.trans (dR.trans (hJ.trans Bb)))) (ht.le (dR.trans (hJ.trans Bb))) (by omega) (aF f) (by rw [af,af];exact f)).mono ?_⟩;rintro r NY Gr ⟨np,nn,nc,rfl,Qx⟩;rw [af,af] at Qx;have e1:u32.wrap (g:Int)=(g:Int):=pG (by omega);have e2:(aE es).set (0+j*1) (.int .u32 (g:Int))=aE (es.set j g):=by rw [←bw];simp
   simp only [e1];refine ⟨_,_,_,rfl,(np,nn,nc,(j:Int)-1,aE (es.set j g)),?_,by (try dsimp only);and_intros<;>first|exact True.intro|rfl|exact e2|(rw [←bw];simp),R-W*g*4294967296^j,Qx,by (try dsimp only);omega,by (try dsimp only);omega,_,rfl,?_⟩
   ·(try dsimp only);omega
   ·(try dsimp only)
    rw [show ((j:Int)-1+1).toNat=j from by omega];exact U
 ·have v:j=-1:=by simp at v;omega
  subst v
  have RX:(ai R).length<=1099511627776:=by
   have f:=o.lt;have f:R<W:=by simpa using f
   have:=aF (Qh8 f);omega
  intro V8 l8 bk hb;refine (cO (RD.bB hb o.ew (n:=L) (c:=L) o.len.symm (Qq3 _)) (by have:=o.len;omega)).mono ?_;rintro r V9 Z ⟨k,rfl,B⟩;refine ⟨_,_,_,rfl,fun _ fK t=>(Bz (H.le (l8.trans (Z.trans t))) RX s).mono ?_⟩;rintro r eO bA ⟨p2,n2,c2,rfl,C⟩;rw [af] at C;refine ⟨_,_,_,rfl,fun gW I=>⟨_,_,_,_,_,_,rfl,?_,?_⟩⟩
  ·have f:=o.lt;have M:=o.eq;have f:R<W:=by simpa using f
   have M:A=W*val es+R:=by simpa using M
   obtain ⟨g1,Y⟩:=E M f;rw [aT o.ew,g1] at B;exact B.le (t.trans (bA.trans I))
  ·have f:=o.lt;have M:=o.eq;have f:R<W:=by simpa using f
   have M:A=W*val es+R:=by simpa using M
   obtain ⟨g1,Y⟩:=E M f;rw [Y] at C;exact C.le I
theorem pP {x:Nat}(h:(ai x).length<=2:=by omega):x<18446744073709551616:=by
 have:=aG.1 h;omega
theorem copied {V:View}{b n c:Nat}{ds:List Nat}{sp:List Value}{ty:TypeId}(hd:bP ds)(hn:n=ds.length)(hc:n<=c)(hb:V.bB b (.cells (aE ds++sp).toArray ty (0,0))):RD V (some ⟨b,0,none⟩) n c ds:=by
 refine ⟨hn,hc,fun i v a=>⟨_,rfl,?_⟩,hd,fun e=>nomatch e⟩;rw [add_zero'];refine fj hb ?_;rw [Qw8]
 ·exact a
 ·rcases Qy9 i (aE ds).length with e|e
  ·exact e
  ·rw [Qk6 e] at a;cases a
theorem dF {V:View}{p q:OA}{n c m e:Nat}{x y:Nat}(hx:RN V p n c x)(hy:RN V q m e y)(hm:(ai x).length<=274877906944)(hm':(ai y).length<=274877906944)(hy0:0<y) :
  aa prog 143 #[.slice p n c,.slice q m e] V fun r V'=>∃p1 n1 c1 p2 n2 c2,r=.tuple #[.slice p1 n1 c1,.slice p2 n2 c2]/\RN V' p1 n1 c1 (x / y)/\RN V' p2 n2 c2 (x%y):=by
 have j:=hx.len;have yY:=hy.len
 have a0:0<m:=by
  rcases Qx8 m with h|h
  ·have:=bz.1 (Qw4.1 (yY▸h));omega
  ·exact h
 refine xV p n c q m e V _ fun V1 u=>(kH (hx.le u)).mono ?_;rintro r V2 E rfl;rw [af];refine ⟨_,_,rfl,fun z V'=>True,⟨fun a=>?_,fun a=>⟨(),by (try dsimp only);and_intros<;>first|exact True.intro|rfl,trivial⟩⟩,?_⟩
 ·have a:n<=2:=by simpa using a
  refine fun V3 l3=>(kH (hy.le (u.trans (E.trans l3)))).mono ?_;rintro r V4 l4 rfl;rw [af];refine ⟨_,_,rfl,fun f=>?_,fun f=>⟨(),by (try dsimp only);and_intros<;>first|exact True.intro|rfl,trivial⟩⟩;have f:m<=2:=by simpa using f
  have a1:=pP (x:=x);have U0:=pP (x:=y);rw [if_pos a,if_pos f];have hq:x / y<=x:=Qc1 _ _;have hr:x%y<y:=Qb2 _ hy0;have F:((x:Nat):Int).tdiv (y:Int)=((x / y:Nat):Int):=by rw [Qj0 (by omega)];omega
  have G:((x:Nat):Int).tmod (y:Int)=((x%y:Nat):Int):=by rw [Qz7 (by omega)];omega
  rw [F,G];generalize x / y=qq at *;generalize x%y=rr at *;have H:u64.wrap (qq:Int)=qq:=aM (by omega);rw [H];refine ⟨by omega,by omega,fun V5 l5=>(cP qq).mono ?_⟩;rintro r V6 l6 ⟨p1,n1,c1,rfl,I⟩;refine ⟨_,_,_,rfl,fun V7 l7=>(cP rr).mono ?_⟩;rintro r V8 l8 ⟨p2,n2,c2,rfl,K⟩;exact ⟨_,_,_,rfl,fun V9 Y=>⟨_,_,_,_,_,_,rfl,I.le (l7.trans (l8.trans Y)),K.le Y⟩⟩
 rintro _ fK w _
 replace hx:=hx.le (u.trans (E.trans w))
 replace hy:=hy.le (u.trans (E.trans w))
 refine ⟨by trivial,fun eO B=>(ig (hx.le B) (hy.le B) (by omega)).mono ?_⟩;rintro r gW Z rfl
 replace hx:=hx.le (B.trans Z)
 replace hy:=hy.le (B.trans Z)
 refine ⟨_,rfl,fun a=>⟨aE (ai x),hx.sl,by simp [j],by omega,by omega,by simp,by simp [j],?_,?_⟩,fun a=>⟨fun f=>?_,fun f=>?_⟩⟩
 ·intro v g;simp only [aE,Qy5] at g;obtain ⟨d,-,rfl⟩:=g;rfl
 ·have a:x<y:=by simpa [fo] using a
  intro bk J sp c' f h2 V1 u b C;rw [Qv3 a,Qx9 a];refine ⟨_,_,_,_,_,_,rfl,RD.nil,?_⟩;simp only [Qy2,Qd0,Qc7,Qn3] at C f ⊢;exact copied (aD x) j f C
 ·have a:y<=x:=by simpa [←Wy8,fo] using a
  have f:m=1:=by simp at f;omega
  subst f;obtain ⟨d,D⟩:=kR (ds:=ai y);have L:d=y:=by have:=af y;rw [D] at this;simpa using this
  subst L;have M:d<4294967296:=by have:=aD d;rw [D] at this;exact (bP.cons.1 this).1
  try unfold RN at hy
  rw [D] at hy;have a2:0<n:=by have:=aF a;omega
  have w1:i64.wrap ((n:Int)-1)=(n:Int)-1:=ar (by omega);simp only [w1,Qq0,cE];have yV:=aD x;have O0:=af x;try unfold RN at hx
  clear D;rw [←O0];clear O0 a;generalize ai x=xs at *
  refine ⟨by omega,by omega,by omega,fun z V'=>0<=z.1/\z.1<d/\-1<=z.2.1/\z.2.1<n/\∃es:List Nat,z.2.2=aE es/\es.length=n/\bP es /\
   val (xs.drop (z.2.1+1).toNat)=d*val (es.drop (z.2.1+1).toNat)+z.1.toNat,fun z=>(z.2.1+1).toNat,
   ⟨(0,(n:Int)-1,aE (List.replicate n 0)),by (try dsimp only);and_intros<;>first|exact True.intro|rfl,by (try dsimp only);omega,by (try dsimp only);omega,by (try dsimp only);omega,by (try dsimp only);omega,_,rfl,by simp,bP.rep _,?_⟩,?_⟩
  ·(try dsimp only)
   rw [Qx1 (by omega),Qx1 (by simp)];rfl
  rintro ⟨rest,i,vs⟩ mr N ⟨A,O,P,Q,es,rfl,R,o,g⟩;dsimp only at A O P Q g ⊢;obtain ⟨rest,rfl⟩:=Qw0 A;refine ⟨by trivial,fun s=>?_,fun s=>?_⟩
  ·have s:0<=i:=by simpa using s
   obtain ⟨i,rfl⟩:=Qw0 s;have S:((i:Int)+1).toNat=i+1:=by omega
   rw [S] at g;simp only [Qq0] at g ⊢;have Ry:=yV.get (i:=i) (by omega);refine (hx.le N).rd i rfl (by omega) (Ct (hy.le N) (by simp) fun mV T=>(JP rest xs[i] d (by omega) Ry M).mono ?_);rintro r rz dY rfl
   have hq:(rest*4294967296+xs[i]) / d<4294967296:=by
    rw [Qv7 (by omega)];have:rest+1<=d:=by omega
    have:=Qq7 4294967296 this;rw [Qn7 4294967296 d];omega
   have hr:(rest*4294967296+xs[i])%d<d:=Qb2 _ (by omega);have G8:=Qd2 (rest*4294967296+xs[i]) d;generalize (rest*4294967296+xs[i]) / d=q at *;generalize (rest*4294967296+xs[i])%d=r at *;have w2:i64.wrap ((i:Int)-1)=(i:Int)-1:=ar (by omega);simp only [w2];refine ⟨_,_,rfl,⟨by omega,by omega⟩,by simp;omega,((r:Int),(i:Int)-1,aE (es.set i q)),?_,?_,?_⟩
   ·(try dsimp only);omega
   ·(try dsimp only);and_intros<;>first|exact True.intro|rfl|(rw [←bw];simp)
   ·(try dsimp only)
    refine ⟨by omega,by omega,by omega,by omega,_,rfl,by simpa using R,o.set _ _ (by omega),?_⟩;have U:((i:Int)-1+1).toNat=i:=by omega
    rw [U,Qw1 (by omega),Qw1 (l:=es.set i q) (by simp;omega),Qf4,Qb3 (by omega)];have h9:xs[i]+4294967296*val (List.drop (i+1) xs)=d*(q+4294967296*val (List.drop (i+1) es))+r:=vD g G8;rw [bg,bg,Qq0];exact h9
  ·have s:i=-1:=by simp at s;omega
   subst s;simp only [Qq0] at g;have g:val xs=d*val es+rest:=by simpa using g
   intro pR dR bk C;refine (cO (RD.bB C o (n:=n) (c:=n) (by omega) (Qq3 _))).mono ?_;rintro r wS hJ ⟨k,rfl,h4⟩;refine ⟨_,_,_,rfl,fun _ Dk iW W t=>?_⟩
   have t:Dk.bB W (.cells (aE [rest]).toArray 221 (0,0)):=by
    simpa [aE] using t
   refine (cO (RD.bB t (n:=1) (c:=1) (by simp [bP];omega) rfl (Qq3 _)) (by simp)).mono ?_;rintro r FQ pS ⟨k2,rfl,X⟩;refine ⟨_,_,_,rfl,fun _ ET kq=>⟨_,_,_,_,_,_,rfl,?_,?_⟩⟩
   ·have F:val xs / d=val es:=by rw [g,Wy0 (by omega),Qv3 (by omega),Qz2]
    rw [aT o] at h4;rw [F];exact h4.le (iW.trans (pS.trans kq))
   ·have G:val xs%d=rest:=by rw [g,Wy1,Qx9 (by omega)]
    rw [aT (by simp [bP];omega)] at X;have H:val [rest]=rest:=by simp
    rw [H] at X;rw [G];exact X.le kq
 ·have a:y<=x:=by simpa [←Wy8,fo] using a
  refine fun lx cD=>(DM (hx.le cD) (hy.le cD) hm hy0 (aF a)).mono ?_;rintro r mr N ⟨p1,n1,c1,p2,n2,c2,rfl,I,K⟩;exact ⟨_,_,_,_,_,_,rfl,fun mV T=>⟨_,_,_,_,_,_,rfl,I.le T,K.le T⟩⟩
end Go.Proofs.Tryz
