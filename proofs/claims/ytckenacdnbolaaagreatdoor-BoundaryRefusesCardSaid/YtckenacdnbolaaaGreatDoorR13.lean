import Derived.Test.YtckenacdnbolaaaGreatDoorR12
import Derived.Test.YtckenacdnbolaaaGreatDoorR11
import Derived.Test.YtckenacdnbolaaaGreatDoorR6
set_option linter.all false
open Go.IntKind (i64 u64 u32)
namespace Go.Big
variable{x y:Rat}
def dI (x y:Rat):Int:=(x-y).num.sign
def fC (x y:Rat):Rat:=mkRat (Nat.gcd (x.num.natAbs*y.den) (y.num.natAbs*x.den):Nat) (x.den*y.den)
theorem Il {q:Rat}:q.num<0↔q<0:=by
 have:=@Wx5 q;rw [←Rat.not_le,←this];omega
theorem Im {q:Rat}:0<q.num↔0<q:=by
 have b:=@Wx5 q;have c:=@Qv1 q;rw [Rat.lt_iff_le_and_ne,←b];constructor
 ·intro h;exact ⟨by omega,λe=>by rw [←e] at h;simp at h⟩
 ·rintro ⟨h,a⟩;have:q.num≠0:=λe=>a (c.1 e).symm;omega
theorem Fo:x<y↔dI x y=-1:=by
 unfold dI;rw [Ww3,Il,Rat.lt_iff_sub_pos x y,←Rat.neg_sub y x];constructor
 ·intro h;have:=Rat.neg_lt_neg h;simpa using this
 ·intro h;have:=Rat.neg_lt_neg h;rw [Rat.neg_neg] at this;simpa using this
theorem yD:y<x↔dI x y=1:=by
 unfold dI;rw [Int.sign_eq_one_iff_pos,Im,Rat.lt_iff_sub_pos y x]
theorem iC:x=y↔dI x y=0:=by
 unfold dI;rw [Qm1,Qv1];constructor
 ·intro h;subst h;exact Rat.sub_self
 ·intro h;have:=congrArg (·+ y) h;simpa [Rat.sub_add_cancel,Rat.zero_add] using this
end Go.Big
namespace Go.Proofs.Tryz
open Go.Eng Go.Big
open Go.Value renaming slice→hF,agg→dB,bool→qvQ,pointer→qvW,tuple→qvZ,int→qvK
variable{V:View}{v w:Value}{q x y:Rat}{c e k m n:Nat}{p:OA}{ds xs ys:List Nat}
theorem TB (hx:RR V v x)(hy:RR V w y)(hk:Sz k x)(hm:Sz m y)(hkm:k+m<1099511627776) :
  aa prog 195 #[v,w] V λr V'=>RR V' r (x-y):=by
 obtain ⟨h,i,j,rfl⟩:=hx.shape;obtain ⟨l,s1,s2,rfl⟩:=hy.shape;refine C8 V _ λo b=>(lL (hy.le b) hm).s ?_;rintro r V2 f c;obtain ⟨n,d,p,rfl⟩:=c.shape;refine ⟨_,_,_,rfl,λq e=>(E8 (hx.le (b.m (f.m e))) (c.le e) hk hm.neg hkm).s ?_⟩;rintro r s t a;rw [←Qr8] at a;obtain ⟨n,d,p,rfl⟩:=a.shape;exact ⟨_,_,_,rfl,λu g=>a.le g⟩
theorem lK (hx:RR V v x)(hy:RR V w y)(hk:Sz k x)(hm:Sz m y)(hkm:k+m<1099511627776:=by omega) :
  aa prog 130 #[v,w] V λr V'=>r=qvK .i64 (dI x y):=by
 obtain ⟨z,A,B,rfl⟩:=hx.shape;obtain ⟨C,s1,s2,rfl⟩:=hy.shape
 have gen:∀lB:ut,V.Le lB->aa prog 195 #[dB #[qvK .i64 z,qvK .i64 A,qvW B],dB #[qvK .i64 C,qvK .i64 s1,qvW s2]] lB λf D=>∃x9_:Int,∃x10_:Int,∃p11_:OA,f=dB #[qvK .i64 x9_,qvK .i64 x10_,qvW p11_]/\(∀lH:ut,D.Le lH->aa prog 196 #[dB #[qvK .i64 x9_,qvK .i64 x10_,qvW p11_]] lH λg E=>∃x12_:Int,g=qvK .i64 x12_/\(∀mE:ut,E.Le mE->Value.int .i64 x12_=qvK .i64 (dI x y))):=by
  intro l i;refine (TB (hx.le i) (hy.le i) hk hm hkm).s ?_;rintro r V2 O t;obtain ⟨n,d,p,rfl⟩:=t.shape;refine ⟨_,_,_,rfl,λP F=>(pC (t.le F) (hk.sub hm)).s ?_⟩;rintro r Q R rfl;exact ⟨_,rfl,λ_ _=>rfl⟩
 rcases hx with ⟨ex,G⟩|⟨a,b,p,n,c,H,I,J,ex,-,-,-,-,-,G⟩
 ·rcases hy with ⟨j,K⟩|⟨a,b,p,n,c,H,I,J,j,-,-,-,-,-,K⟩
  ·simp only [Value.agg.injEq,Qm2,Qk5,Value.int.injEq,Value.pointer.injEq,true_and,and_true] at ex j;obtain ⟨rfl,rfl,rfl⟩:=ex;obtain ⟨rfl,rfl,rfl⟩:=j
   have o:x.den=y.den->((x<y↔x.num<y.num)/\(y<x↔y.num<x.num)/\(x=y↔x.num=y.num)):=by
    intro e;have u:(0:Int)<y.den:=by have:=y.den_nz;omega
    refine ⟨?_,?_,λh=>by rw [h],λh=>Rat.ext h e⟩
    ·rw [Rat.lt_iff,e];exact ⟨λh=>Ww9 h (by omega),λh=>Ww4 h u⟩
    ·rw [Rat.lt_iff,e];exact ⟨λh=>Ww9 h (by omega),λh=>Ww4 h u⟩
   refine mB V _ ⟨λ_=>⟨λ_=>⟨λq=>?_,λ_=>gen⟩,(λh=>nomatch h)⟩,(λh=>nomatch h)⟩;have q:x.den=y.den:=by rw [beq_iff_eq] at q;omega
   have ⟨L,M,N⟩:=o q;refine ⟨λh l i=>?_,λh=>⟨λs l i=>?_,λs l i=>?_⟩⟩
   ·rw [Fo.1 (L.2 (by simpa using h))]
   ·rw [yD.1 (M.2 (by simpa using s))]
   ·rw [iC.1 (N.2 (by rw [decide_eq_false_iff_not] at h s;omega))]
  ·simp only [Value.agg.injEq,Qm2,Qk5,Value.int.injEq,Value.pointer.injEq,true_and,and_true] at ex j;obtain ⟨rfl,rfl,rfl⟩:=ex;obtain ⟨rfl,rfl,rfl⟩:=j;exact mB V _ ⟨λ_=>⟨(λh=>nomatch h),λ_=>gen⟩,(λh=>nomatch h)⟩
 ·simp only [Value.agg.injEq,Qm2,Qk5,Value.int.injEq,Value.pointer.injEq,true_and,and_true] at ex;obtain ⟨rfl,rfl,rfl⟩:=ex;exact mB V _ ⟨(λh=>nomatch h),λ_=>gen⟩
theorem vB (hx:RR V v x)(hy:RR V w y)(hk:Sz k x)(hm:Sz m y)(hkm:k+m<1099511627776:=by omega) :
  aa prog 95 #[v,w] V λr V'=>r=qvQ (decide (x=y)):=by
 obtain ⟨b,c,d,rfl⟩:=hx.shape;obtain ⟨e,s1,s2,rfl⟩:=hy.shape;refine xX V _ λf a=>(lK (hx.le a) (hy.le a) hk hm hkm).s ?_;rintro r V2 g rfl;refine ⟨_,rfl,λh i=>?_⟩;congr 1;rw [Qz5,beq_iff_eq,decide_eq_true_eq,iC]
theorem HK (hx:Sz k x)(hy:Sz m y):x.num.natAbs*y.den<2^(k+m)/\y.num.natAbs*x.den<2^(k+m)/\Nat.gcd (x.num.natAbs*y.den) (y.num.natAbs*x.den)<2^(k+m)/\x.den*y.den<2^(k+m):=by
 have a:x.num.natAbs*y.den<2^(k+m):=cu hx.1 hy.2;have b:y.num.natAbs*x.den<2^(k+m):=by rw [Wx0];exact cu hy.1 hx.2
 refine ⟨a,b,?_,cu hx.2 hy.2⟩;rcases Qy9 (x.num.natAbs*y.den) with e|e
 ·rw [e,Qs9];exact b
 ·exact Qn9 (Wq5 e (Qj5 _ _)) a
theorem lG (hx:Sz k x)(hy:Sz m y):Sz (k+m+1) (fC x y):=by
 obtain ⟨-,-,a,b⟩:=HK hx hy;have c:2^(k+m)<=2^(k+m+1):=Qx2 (by omega) (by omega);exact Go.Eng.Sz.mkRat (by rw [Qx6];omega) (by omega) (by omega)
theorem nJ (hx:RR V v x)(hy:RR V w y)(hk:Sz k x)(hm:Sz m y)(hkm:k+m<1099511627776:=by omega) :
  aa prog 94 #[v,w] V λr V'=>RR V' r (fC x y):=by
 obtain ⟨M,N,O,rfl⟩:=hx.shape;obtain ⟨P,s1,s2,rfl⟩:=hy.shape;have ⟨b1,b2,b3,b4⟩:=HK hk hm;have q1:=ag hk.1;have q2:=ag hk.2;have q3:=ag hm.1;have q4:=ag hm.2;have q5:=ag b1;have q6:=ag b2;have q7:=ag b3;have q8:=ag b4
 have gen:(∀V78:ut,V.Le V78->aa prog 150 #[dB #[qvK .i64 M,qvK .i64 N,qvW O]] V78 λj Q=>∃(p52_:OA)(n52_ ZQ:Nat),j=hF p52_ n52_ ZQ/\(∀V80:ut,Q.Le V80->aa prog 150 #[dB #[qvK .i64 P,qvK .i64 s1,qvW s2]] V80 λl R=>∃(p53_:OA)(n53_ ZR:Nat),l=hF p53_ n53_ ZR/\(∀V82:ut,R.Le V82->aa prog 149 #[hF p52_ n52_ ZQ,hF p53_ n53_ ZR] V82 λo S=>∃(RJ:OA)(Rd Px:Nat),o=hF RJ Rd Px/\(∀V84:ut,S.Le V84->aa prog 152 #[dB #[qvK .i64 M,qvK .i64 N,qvW O]] V84 λq T=>∃b55_:md,∃(p56_:OA)(n56_ ZT:Nat),q=dB #[qvQ b55_,hF p56_ n56_ ZT]/\(∀V86:ut,T.Le V86->aa prog 150 #[dB #[qvK .i64 P,qvK .i64 s1,qvW s2]] V86 λs U=>∃(RK:OA)(Re Py:Nat),s=hF RK Re Py/\(∀V88:ut,U.Le V88->aa prog 149 #[hF p56_ n56_ ZT,hF RK Re Py] V88 λt W=>∃(p58_:OA)(n58_ ZU:Nat),t=hF p58_ n58_ ZU/\(∀V90:ut,W.Le V90->aa prog 152 #[dB #[qvK .i64 P,qvK .i64 s1,qvW s2]] V90 λu X=>∃b59_:md,∃(RM:OA)(Rf Pz:Nat),u=dB #[qvQ b59_,hF RM Rf Pz]/\(∀V92:ut,X.Le V92->aa prog 150 #[dB #[qvK .i64 M,qvK .i64 N,qvW O]] V92 λz Y=>∃(p61_:OA)(n61_ ZW:Nat),z=hF p61_ n61_ ZW/\(∀V94:ut,Y.Le V94->aa prog 149 #[hF RM Rf Pz,hF p61_ n61_ ZW] V94 λA Z=>∃(RO:OA)(Rg PA:Nat),A=hF RO Rg PA/\(∀V96:ut,Z.Le V96->aa prog 151 #[hF p58_ n58_ ZU,hF RO Rg PA] V96 λB a0=>∃(p63_:OA)(n63_ ZX:Nat),B=hF p63_ n63_ ZX/\(∀V98:ut,a0.Le V98->aa prog 146 #[dB #[qvQ false,hF p63_ n63_ ZX],hF RJ Rd Px] V98 λC a1=>∃x64_:Int,∃x65_:Int,∃RU:OA,C=dB #[qvK .i64 x64_,qvK .i64 x65_,qvW RU]/\(∀Zv:ut,a1.Le Zv->RR Zv (dB #[qvK .i64 x64_,qvK .i64 x65_,qvW RU]) (fC x y))))))))))))):=by
  intro V1 i;refine (fS (hx.le i) hk).s ?_;rintro r V2 D ⟨p1,n1,c1,rfl,g1⟩;refine ⟨_,_,_,rfl,λV3 I=>(fS (hy.le (i.m (D.m I))) hm).s ?_⟩;rintro r V4 l4 ⟨p2,n2,c2,rfl,g2⟩;refine ⟨_,_,_,rfl,λV5 J=>(iV (g1.le (I.m (l4.m J))) (g2.le J)).s ?_⟩;rintro r V6 l6 ⟨p3,n3,c3,rfl,g3⟩;rw [af,af] at g3;have L6:=i.m (D.m (I.m (l4.m (J.m l6))));refine ⟨_,_,_,rfl,λV7 E=>(gT (hx.le (L6.m E)) hk).s ?_⟩;rintro r V8 l8 ⟨p4,n4,c4,rfl,g4⟩;refine qyQ ⟨rfl,λV9 K=>(fS (hy.le (L6.m (E.m (l8.m K)))) hm).s ?_⟩;rintro r fQ f ⟨p5,n5,c5,rfl,g5⟩;refine ⟨_,_,_,rfl,λfD L=>(iV (g4.le (K.m (f.m L))) (g5.le L)).s ?_⟩;rintro r gS bS ⟨p6,n6,c6,rfl,g6⟩;rw [af,af] at g6;have M5:=L6.m (E.m (l8.m (K.m (f.m (L.m bS)))));refine ⟨_,_,_,rfl,λj7 bU=>(gT (hy.le (M5.m bU)) hm).s ?_⟩;rintro r lB cz ⟨p7,n7,c7,rfl,g7⟩;refine qyQ ⟨rfl,λjI cE=>(fS (hx.le (M5.m (bU.m (cz.m cE)))) hk).s ?_⟩;rintro r lH cq ⟨p8,n8,c8,rfl,g8⟩;refine ⟨_,_,_,rfl,λlC b_=>(iV (g7.le (cE.m (cq.m b_))) (g8.le b_)).s ?_⟩;rintro r mE cj ⟨p9,n9,c9,rfl,g9⟩;rw [af,af] at g9;have F:=bU.m (cz.m (cE.m (cq.m (b_.m cj))));refine ⟨_,_,_,rfl,λpf du=>(DZ (g6.le (F.m du)) (g9.le du) (by omega)).s ?_⟩;rintro r vh fl ⟨O4,a4,a5,rfl,G⟩;rw [af,af] at G;refine ⟨_,_,_,rfl,λqB gi=>(ef false (G.le gi) (g3.le (E.m (l8.m (K.m (f.m (L.m (bS.m (F.m (du.m (fl.m gi)))))))))) (by omega)).s ?_⟩;rintro r tC gV g;rw [sF,af,af] at g;obtain ⟨n,d,p,rfl⟩:=g.shape;exact ⟨_,_,_,rfl,λrk ij=>g.le ij⟩
 rcases hx with ⟨ex,wx⟩|⟨a,b,p,n,c,p',n',c',ex,-,-,-,-,-,wx⟩
 ·rcases hy with ⟨H,wy⟩|⟨a,b,p,n,c,p',n',c',H,-,-,-,-,-,wy⟩
  ·simp only [Value.agg.injEq,Qm2,Qk5,Value.int.injEq,Value.pointer.injEq,true_and,and_true] at ex H;obtain ⟨rfl,rfl,rfl⟩:=ex;obtain ⟨rfl,rfl,rfl⟩:=H;obtain ⟨a2,a6⟩:=wx;obtain ⟨a3,a7⟩:=wy;refine qp V _ ⟨λ_=>⟨λ_=>⟨λh1=>⟨λ_ _=>True,⟨λh2 V1 i=>?_,λ_=>⟨(),by and_intros<;>rfl,trivial⟩⟩,λ_ V1 i _=>⟨by trivial,λV2 D=>gen V2 (i.m D)⟩⟩,λ_=>gen⟩,(λh=>nomatch h)⟩,(λh=>nomatch h)⟩;have h1:x.den=1:=by rw [beq_iff_eq] at h1;omega
   have h2:y.den=1:=by rw [beq_iff_eq] at h2;omega
   refine (kG _ (by omega)).s ?_;rintro r V2 D rfl;refine ⟨_,rfl,λV3 I=>(kG _ (by omega)).s ?_⟩;rintro r V4 l4 rfl;refine ⟨_,rfl,λV5 J=>(zH _ _ (by omega)).s ?_⟩;rintro r V6 l6 rfl;refine ⟨_,rfl,λV7 E=>.inl ?_⟩
   have e:fC x y=((Nat.gcd x.num.natAbs y.num.natAbs:Nat):Int):=by
    unfold fC;rw [h1,h2,Qk6,Qk6,Qk6];exact mkRat_one _
   have hl:Nat.gcd x.num.natAbs y.num.natAbs<4611686018427387904:=by
    rcases Qy9 x.num.natAbs with e|e
    ·rw [e,Qs9];exact a3
    ·exact Qn9 (Wq5 e (Qj5 _ _)) a2
   rw [e,au (by omega)];exact ⟨rfl,Ao (by rw [Qx6];exact hl)⟩
  ·simp only [Value.agg.injEq,Qm2,Qk5,Value.int.injEq,Value.pointer.injEq,true_and,and_true] at ex H;obtain ⟨rfl,rfl,rfl⟩:=ex;obtain ⟨rfl,rfl,rfl⟩:=H;exact qp V _ ⟨λ_=>⟨(λh=>nomatch h),λ_=>gen⟩,(λh=>nomatch h)⟩
 ·simp only [Value.agg.injEq,Qm2,Qk5,Value.int.injEq,Value.pointer.injEq,true_and,and_true] at ex;obtain ⟨rfl,rfl,rfl⟩:=ex;exact qp V _ ⟨(λh=>nomatch h),λ_=>gen⟩
def RA (V:View)(v:Value)(q:Rat):Prop:=∃p n c p' n' c',v=.agg #[.bool (decide (q.num<0)),.slice p n c,.slice p' n' c']/\RD V p n c (ah q.num.natAbs)/\RD V p' n' c' (ah q.den)
theorem RA.le {V V':ut}(h:RA V v q)(l:V.Le V'):RA V' v q:=by
 obtain ⟨p,n,c,a,b,d,e,f,g⟩:=h;exact ⟨p,n,c,a,b,d,e,f.le l,g.le l⟩
theorem E7 (h:RR V v q)(hs:Sz k q)(hk:k<=1099511627776):aa prog 161 #[v] V λr V'=>RA V' r q:=by
 have a:=h;obtain ⟨e,f,g,rfl⟩:=h.shape;refine C5 V _ λn b=>(gT (a.le b) hs hk).s ?_;rintro r V2 i ⟨o,p,s,rfl,j⟩;refine qyQ ⟨rfl,λt c=>(fS (a.le (b.m (i.m c))) hs hk).s ?_⟩;rintro r u l ⟨w,x,y,rfl,m⟩;exact ⟨_,_,_,rfl,λz d=>⟨_,_,_,_,_,_,rfl,j.le (c.m (l.m d)),m.le d⟩⟩
theorem tG (hx:RR V v x)(hy:RR V w y)(hk:Sz k x)(hm:Sz m y)(hkm:k+m<1099511627776:=by omega) :
  aa prog 237 #[v,w] V λr V'=>RR V' r (x*y):=by
 obtain ⟨U,W,X,rfl⟩:=hx.shape;obtain ⟨Y,s1,s2,rfl⟩:=hy.shape;have g:x*y=mkRat (x.num*y.num) (x.den*y.den):=Wk1 x y;have Z:(x.num*y.num).natAbs<2^(k+m):=by rw [Qv3,Qz8];exact Qt6 hk.1 hm.1
 have b2:x.den*y.den<2^(k+m):=by rw [Qz8];exact Qt6 hk.2 hm.2
 have q1:=ag hk.1;have q2:=ag hk.2;have q3:=ag hm.1;have q4:=ag hm.2;have q5:=ag Z;have q6:=ag b2;refine C6 V _ ⟨λhr=>⟨λ_ _=>True,⟨λhs=>?_,λ_=>⟨(),by (try dsimp only);and_intros<;>trivial,trivial⟩⟩,λ_ V8 l8 _=>⟨rfl,λV9 E=>?_⟩⟩,λ_ V9 h=>?_⟩
 ·rcases hx with ⟨ex,S⟩|⟨a,b,p,n,c,p',n',c',ex,-,-,-,-,-,S⟩
  ·rcases hy with ⟨s,T⟩|⟨a,b,p,n,c,p',n',c',s,-,-,-,-,-,T⟩
   ·simp only [Value.agg.injEq,Qm2,Qk5,Value.int.injEq,Value.pointer.injEq,true_and,and_true] at ex s;obtain ⟨rfl,rfl,rfl⟩:=ex;obtain ⟨rfl,rfl,rfl⟩:=s;obtain ⟨F,a0⟩:=S;obtain ⟨G,a1⟩:=T;have dx:=x.den_nz;have dy:=y.den_nz;have e1:i64.wrap ((x.den:Int)-1+1)=x.den:=by rw [au (by omega)];omega
    have e2:i64.wrap ((y.den:Int)-1+1)=y.den:=by rw [au (by omega)];omega
    rw [e1,e2];intro V1 l1;refine (iy _ _ F G).s ?_;rintro r V2 l2 ⟨z1,rfl,H⟩;refine ⟨_,_,rfl,λV3 l3=>(iy _ _ (by omega)).s ?_⟩;rintro r V4 l4 ⟨z2,rfl,I⟩;refine ⟨_,_,rfl,λt1=>⟨λt2 V5 l5=>?_,λ_=>⟨(),by (try dsimp only);and_intros<;>trivial,trivial⟩⟩,λ_=>⟨(),by (try dsimp only);and_intros<;>trivial,trivial⟩⟩;have t1:=of_decide_eq_true t1;have t2:=of_decide_eq_true t2;rw [H t1,I t2];have hd:((x.den:Int)*(y.den:Int))=((x.den*y.den:Nat):Int):=(Qn1 ..).symm;rw [hd] at t2 ⊢;refine (ru _ _ t1 (by rwa [Qx6] at t2) (Qb3 dx dy)).s ?_;rintro r V6 l6 J;rw [←g] at J;obtain ⟨n,d,p,rfl⟩:=J.shape;exact ⟨_,_,_,rfl,λV7 l7=>J.le l7⟩
   ·simp only [Value.agg.injEq,Qm2,Qk5,Value.int.injEq,Value.pointer.injEq,true_and,and_true] at s;obtain ⟨rfl,rfl,rfl⟩:=s;cases hs
  ·simp only [Value.agg.injEq,Qm2,Qk5,Value.int.injEq,Value.pointer.injEq,true_and,and_true] at ex;obtain ⟨rfl,rfl,rfl⟩:=ex;cases hr
 ·have h:=l8.m E;refine (gT (hx.le h) hk).s ?_;rintro r fQ f ⟨p1,n1,c1,rfl,K⟩;refine qyQ ⟨rfl,λfD i=>(gT (hy.le (h.m (f.m i))) hm).s ?_⟩;rintro r gS t ⟨p2,n2,c2,rfl,L⟩;refine qyQ ⟨rfl,λj7 j=>(jk _ _ (K.le (i.m (t.m j))) (L.le j)).s ?_⟩;rintro r lB M u;rw [aC,aC] at u;obtain ⟨p3,n3,c3,rfl,N⟩:=u;have z:=h.m (f.m (i.m (t.m (j.m M))));refine qyQ ⟨rfl,λjI l=>(fS (hx.le (z.m l)) hk).s ?_⟩;rintro r lH A ⟨p4,n4,c4,rfl,O⟩;refine ⟨_,_,_,rfl,λlC o=>(fS (hy.le (z.m (l.m (A.m o)))) hm).s ?_⟩;rintro r mE B ⟨p5,n5,c5,rfl,P⟩;refine ⟨_,_,_,rfl,λpf q=>(iV (O.le (o.m (B.m q))) (P.le q)).s ?_⟩;rintro r vh Q ⟨p6,n6,c6,rfl,C⟩;rw [af,af] at C;refine ⟨_,_,_,rfl,λqB D=>(ef _ (N.le (l.m (A.m (o.m (B.m (q.m (Q.m D))))))) (C.le D) (by omega)).s ?_⟩;rintro r tC gV e;rw [aC,af,←g] at e;obtain ⟨n,d,p,rfl⟩:=e.shape;exact ⟨_,_,_,rfl,λrk R=>e.le R⟩
 ·skip
  refine (gT (hx.le h) hk).s ?_;rintro r fQ f ⟨p1,n1,c1,rfl,K⟩;refine qyQ ⟨rfl,λfD i=>(gT (hy.le (h.m (f.m i))) hm).s ?_⟩;rintro r gS t ⟨p2,n2,c2,rfl,L⟩;refine qyQ ⟨rfl,λj7 j=>(jk _ _ (K.le (i.m (t.m j))) (L.le j)).s ?_⟩;rintro r lB M u;rw [aC,aC] at u;obtain ⟨p3,n3,c3,rfl,N⟩:=u;have z:=h.m (f.m (i.m (t.m (j.m M))));refine qyQ ⟨rfl,λjI l=>(fS (hx.le (z.m l)) hk).s ?_⟩;rintro r lH A ⟨p4,n4,c4,rfl,O⟩;refine ⟨_,_,_,rfl,λlC o=>(fS (hy.le (z.m (l.m (A.m o)))) hm).s ?_⟩;rintro r mE B ⟨p5,n5,c5,rfl,P⟩;refine ⟨_,_,_,rfl,λpf q=>(iV (O.le (o.m (B.m q))) (P.le q)).s ?_⟩;rintro r vh Q ⟨p6,n6,c6,rfl,C⟩;rw [af,af] at C;refine ⟨_,_,_,rfl,λqB D=>(ef _ (N.le (l.m (A.m (o.m (B.m (q.m (Q.m D))))))) (C.le D) (by omega)).s ?_⟩;rintro r tC gV e;rw [aC,af,←g] at e;obtain ⟨n,d,p,rfl⟩:=e.shape;exact ⟨_,_,_,rfl,λrk R=>e.le R⟩
theorem inv_neg (h:q.num<0):(q⁻¹).num=-(q.den:Int)/\(q⁻¹).den=q.num.natAbs:=by
 show (Rat.inv q).num=_/\(Rat.inv q).den=_;unfold Rat.inv;rw [dif_pos h];exact ⟨rfl,rfl⟩
theorem inv_pos {q:Rat}(h:0<q.num:=by omega):(q⁻¹).num=(q.den:Int)/\(q⁻¹).den=q.num.natAbs:=by
 show (Rat.inv q).num=_/\(Rat.inv q).den=_;unfold Rat.inv;rw [dif_neg (by omega),dif_pos h];exact ⟨rfl,rfl⟩
theorem inv_zero (h:q.num=0):q⁻¹=0:=by
 have:q=0:=Qv1.1 h;subst this;exact Rat.inv_zero
theorem fu (h:Sz k q):Sz k q⁻¹:=by
 rcases Qg5 q.num 0 with a|a|a
 ·have ⟨b,c⟩:=inv_neg a;refine ⟨?_,?_⟩
  ·rw [b,Qd5];exact h.2
  ·rw [c];exact h.1
 ·rw [inv_zero a];exact ⟨Qk4 _,Qn9 (Qr9 q.den_nz) h.2⟩
 ·have ⟨b,c⟩:=inv_pos a;exact ⟨by rw [b];exact h.2,by rw [c];exact h.1⟩
theorem TA (h:RR V v q)(hs:Sz k q)(hk:k<=1099511627776:=by omega):aa prog 269 #[v] V λr V'=>RR V' r q⁻¹:=by
 rcases h with ⟨rfl,hw⟩|⟨a,b,p,n,c,s,t,y,rfl,z,A,B,C,D,hw⟩
 ·obtain ⟨l,m⟩:=hw;have H:=q.den_nz;refine rP V _ ⟨(λd=>nomatch d),λ_=>⟨λg I J=>?_,λg=>⟨λj K L=>?_,λj M N=>?_⟩⟩⟩
  ·have g:=of_decide_eq_true g;have ⟨f,i⟩:=inv_neg g;refine .inl ⟨?_,?_⟩
   ·rw [f,i,au (x:=(q.den:Int)-1+1) (by omega),au (x:=0-q.num) (by omega),au (x:=0-((q.den:Int)-1+1)) (by omega),au (by omega)];congr 4
    ·omega
    ·congr 1;omega
   ·unfold Wd;rw [f,i,Qd5];exact ⟨m,l⟩
  ·have j:q.num=0:=by simpa using j
   rw [inv_zero j];exact .inl ⟨rfl,by decide,by decide⟩
  ·have g:¬q.num<0:=of_decide_eq_false g;have j:q.num≠0:=by simpa using j
   have ⟨f,i⟩:=inv_pos (q:=q);refine .inl ⟨?_,?_⟩
   ·rw [f,i,au (x:=(q.den:Int)-1+1) (by omega),au (by omega)];congr 4
    ·omega
    ·congr 1;omega
   ·unfold Wd;rw [f,i];exact ⟨m,l⟩
 ·obtain ⟨rfl,E⟩:=C.inv;have O:=ag hs.1;have P:=ag hs.2;refine rP V _ ⟨λ_=>⟨rfl,rfl,rfl,decide (q.num<0),⟨a.add 0,by simp [ae,Addr.add],z⟩,rfl,rfl,s,t,y,⟨a.add 2,rfl,B⟩,rfl,rfl,rfl,p,n,c,⟨a.add 1,by simp [ae,Addr.add],A⟩,λQ o=>(ef _ (D.le o) (E.le o) (by omega)).s ?_⟩,λd=>nomatch d⟩;rintro r V2 R h
  have e:mkRat (aA (decide (q.num<0)) (ah q.den)) (val (ah q.num.natAbs))=q⁻¹:=by
   rw [af]
   have F:aA (decide (q.num<0)) (ah q.den)=if q.num<0 then -(q.den:Int) else (q.den:Int):=by
    unfold aA;rw [af];by_cases g:q.num<0<;>simp [g]
   rw [F];rcases Qg5 q.num 0 with d|d|d
   ·have ⟨f,i⟩:=inv_neg d;rw [if_pos d,←f,←i,Qt1]
   ·rw [inv_zero d,d];simp
   ·have ⟨f,i⟩:=inv_pos d;rw [if_neg (by omega),←f,←i,Qt1]
  rw [e] at h;obtain ⟨u,v,w,rfl⟩:=h.shape;exact ⟨_,_,_,rfl,λS G=>h.le G⟩
theorem E9 (hx:RR V v x)(hy:RR V w y)(hk:Sz k x)(hm:Sz m y)(hkm:k+m<1099511627776:=by omega) :
  aa prog 234 #[v,w] V λr V'=>RR V' r (x*y⁻¹):=by
 have a:=hx;have b:=hy;obtain ⟨i,j,l,rfl⟩:=hx.shape;obtain ⟨n,s1,s2,rfl⟩:=hy.shape;refine C7 V _ λq e=>(TA (b.le e) hm).s ?_;rintro r V2 o f;have c:=f;obtain ⟨u,v,w,rfl⟩:=f.shape;refine ⟨_,_,_,rfl,λs g=>(tG (a.le (e.m (o.m g))) (c.le g) hk (fu hm) hkm).s ?_⟩;rintro r t z h;have d:=h;obtain ⟨u,v,w,rfl⟩:=h.shape;exact ⟨_,_,_,rfl,λA p=>d.le p⟩
theorem VH (a b:Nat)(ha:a<4294967296)(hb:b<4294967296):bW .and .u32 (a:Int) (b:Int)=((a &&& b:Nat):Int):=by
 have c:(BitVec.ofInt IntKind.u32.bits ((a:Nat):Int) &&& BitVec.ofInt IntKind.u32.bits ((b:Nat):Int)).toNat=a &&& b:=by
  show (BitVec.ofInt 32 ((a:Nat):Int) &&& BitVec.ofInt 32 ((b:Nat):Int)).toNat=_;rw [Qj4,Qj4,BitVec.toNat_and,Qv0,Qv0,Qy1 (by omega),Qy1 (by omega)]
 have d:a &&& b<2^32:=Qh7 a (by omega);rw [bW,kj,c];omega
theorem or32 (a b:Nat)(ha:a<4294967296)(hb:b<4294967296):bW .or .u32 (a:Int) (b:Int)=((a ||| b:Nat):Int):=by
 have c:(BitVec.ofInt IntKind.u32.bits ((a:Nat):Int) ||| BitVec.ofInt IntKind.u32.bits ((b:Nat):Int)).toNat=a ||| b:=by
  show (BitVec.ofInt 32 ((a:Nat):Int) ||| BitVec.ofInt 32 ((b:Nat):Int)).toNat=_;rw [Qj4,Qj4,Wz7,Qv0,Qv0,Qy1 (by omega),Qy1 (by omega)]
 have d:a ||| b<2^32:=Wy0 (by omega) (by omega);rw [bW,kj,c];omega
theorem SQ (a b:Nat)(ha:a<4294967296)(hb:b<4294967296):bW .xor .u32 (a:Int) (b:Int)=((a ^^^ b:Nat):Int):=by
 have c:(BitVec.ofInt IntKind.u32.bits ((a:Nat):Int) ^^^ BitVec.ofInt IntKind.u32.bits ((b:Nat):Int)).toNat=a ^^^ b:=by
  show (BitVec.ofInt 32 ((a:Nat):Int) ^^^ BitVec.ofInt 32 ((b:Nat):Int)).toNat=_;rw [Qj4,Qj4,BitVec.toNat_xor,Qv0,Qv0,Qy1 (by omega),Qy1 (by omega)]
 have d:a ^^^ b<2^32:=Qc7 (by omega) (by omega);rw [bW,kj,c];omega
theorem top32 (h:n<4294967296):n / 2147483648=if n.testBit 31 then 1 else 0:=by
 rw [Qg0];have:(2:Nat)^31=2147483648:=by decide
 rw [this];split
 ·rename_i a;simp at a;omega
 ·rename_i a;simp at a;omega
theorem LV {n:Nat}(h:n<4294967296:=by omega):n.testBit 31=decide (2147483648<=n):=by
 rw [Qg0];have:(2:Nat)^31=2147483648:=by decide
 rw [this];congr 1;simp;omega
theorem Pu (x y c:Nat)(hx:x<4294967296)(hy:y<4294967296)(hc:c<=1){d:Nat}(hd:(d:Int)=((x:Int)-y-c)%4294967296) :
  (((4294967295 ^^^ x) &&& y) ||| ((4294967295 ^^^ (x ^^^ y)) &&& d)) / 2147483648=if x<y+c then 1 else 0:=by
 have k:(4294967295 ^^^ x)<2^32:=Qc7 (by omega) (by omega);have b:x ^^^ y<2^32:=Qc7 (by omega) (by omega);have l:(4294967295 ^^^ (x ^^^ y))<2^32:=Qc7 (by omega) b;have e:(4294967295 ^^^ x) &&& y<2^32:=Qh7 _ (by omega);have f:(4294967295 ^^^ (x ^^^ y)) &&& d<2^32:=Qh7 _ (by omega);have g:=Wy0 e f;rw [top32 g];have a:d<4294967296:=by omega
 rw [Nat.testBit_or,Nat.testBit_and,Nat.testBit_and,Wk2,Wk2,Wk2,LV hx,LV hy,LV a,LV (n:=4294967295)];by_cases h:2147483648<=x<;>by_cases i:2147483648<=y<;>by_cases j:2147483648<=d<;>simp [h,i,j]<;>omega
theorem TD (x y c:Nat)(hx:x<4294967296)(hy:y<4294967296)(hc:c<=1:=by omega) :
  aa prog 251 #[qvK .u32 (x:Int),qvK .u32 (y:Int),qvK .u32 (c:Int)] V λr V'=>∃d b:Nat,r=qvZ #[qvK .u32 (d:Int),qvK .u32 (b:Int)]/\d<4294967296/\b<=1/\d+(y+c)=x+4294967296*b:=by
 refine tw V _ ⟨by omega,λn o=>?_⟩;obtain ⟨d,g⟩:∃d:Nat,(d:Int)=((x:Int)-y-c)%4294967296:=⟨(((x:Int)-y-c)%4294967296).toNat,by omega⟩;have a:d<4294967296:=by omega
 have h:u32.wrap (u32.wrap ((x:Int)-y)-c)=(d:Int):=by rw [kj,kj];omega
 have i:IntKind.u32.max=((4294967295:Nat):Int):=rfl;have j:(4294967295 ^^^ x)<2^32:=Qc7 (by omega) (by omega);have f:x ^^^ y<2^32:=Qc7 (by omega) (by omega);have k:(4294967295 ^^^ (x ^^^ y))<2^32:=Qc7 (by omega) f;have l:(4294967295 ^^^ x) &&& y<2^32:=Qh7 _ (by omega);have m:(4294967295 ^^^ (x ^^^ y)) &&& d<2^32:=Qh7 _ (by omega);rw [h,i,SQ _ _ (by omega) hx,VH _ _ j hy,SQ _ _ hx hy,SQ _ _ (by omega) f,VH _ _ k a,or32 _ _ l m,kN];have e:(2:Nat)^31=2147483648:=by decide
 rw [e,Pu x y c hx hy hc g];refine ⟨d,_,rfl,a,?_,?_⟩
 ·split<;>omega
 ·split<;>omega
theorem Tx (hi lo y:Nat)(hh:hi<y)(hl:lo<4294967296)(hy:y<4294967296) :
  aa prog 167 #[qvK .u32 (hi:Int),qvK .u32 (lo:Int),qvK .u32 (y:Int)] V λr V'=>r=qvZ #[qvK .u32 (((hi*4294967296+lo) / y:Nat):Int),qvK .u32 (((hi*4294967296+lo)%y:Nat):Int)]:=by
 have key:∀b:ut,Value.tuple #[qvK .u32 (u32.wrap (u64.wrap ((bW .or .u64 (u64.wrap ((u64.wrap (hi:Int))*2^32)) (u64.wrap (lo:Int))).tdiv (u64.wrap (y:Int))))),qvK .u32 (u32.wrap ((bW .or .u64 (u64.wrap ((u64.wrap (hi:Int))*2^32)) (u64.wrap (lo:Int))).tmod (u64.wrap (y:Int))))]=qvZ #[qvK .u32 (((hi*4294967296+lo) / y:Nat):Int),qvK .u32 (((hi*4294967296+lo)%y:Nat):Int)]:=by
  intro _;have c:((2:Int)^32)=4294967296:=by decide
  have d:u64.wrap (hi:Int)=hi:=bj (by omega);have e:u64.wrap (lo:Int)=lo:=bj (by omega);have a:u64.wrap (y:Int)=y:=bj (by omega);have f:u64.wrap ((hi:Int)*4294967296)=(hi:Int)*4294967296:=bj (by omega);rw [d,c,f,e,a,Is _ _ (by omega) hl];have g:(hi:Int)*4294967296+lo=((hi*4294967296+lo:Nat):Int):=by omega
  rw [g,←Int.ofNat_tdiv,←Wk7]
  have m:(hi*4294967296+lo) / y<4294967296:=by
   rw [Qb0 (by omega)];have:(hi+1)*4294967296<=y*4294967296:=Qw0 _ hh;omega
  have n:(hi*4294967296+lo)%y<y:=Qj8 _ (by omega);generalize (hi*4294967296+lo) / y=q at *;generalize (hi*4294967296+lo)%y=r at *;have i:u64.wrap (q:Int)=q:=bj (by omega);have j:u32.wrap (q:Int)=q:=uO (by omega);have k:u32.wrap (r:Int)=r:=uO (by omega);rw [i,j,k]
 have a:u64.wrap (y:Int)=y:=bj (by omega);refine tv V _ ⟨λ_=>⟨λh=>?_,λ_=>⟨by omega,by rw [a];omega,by rw [a];omega,λb l=>key b⟩⟩,λ_=>⟨by omega,by rw [a];omega,by rw [a];omega,λb l=>key b⟩⟩;simp at h;omega
theorem er (h:RD V p n c ds)(hm:ds.length<=4611686018427387904:=by omega) :
  aa prog 142 #[hF p n c] V λr V'=>∃k,r=hF p k c/\RD V' p k c (cZ ds):=by
 have j:=h.len;have l:=h.cap;refine Jx V _ ?_;refine ⟨λz V'=>0<=z/\z<=n/\cZ (ds.take z.toNat)=cZ ds,λz=>z.toNat,⟨n,by (try dsimp only);and_intros<;>first|exact True.intro|rfl,by (try dsimp only);omega,by (try dsimp only);omega,?_⟩,?_⟩
 ·simp [j]
 ·rintro k o e ⟨f,m,d⟩;obtain ⟨k,rfl⟩:=Qw2 f;dsimp only at m d ⊢;simp only [Qq0] at d;refine ⟨rfl,λa=>?_,λa=>?_⟩
  ·have a:0<k:=by simpa using a
   have w:i64.wrap ((k:Int)-1)=((k-1:Nat):Int):=by rw [au (by omega)];omega
   simp only [w];have g:ds.take k=ds.take (k-1)++[ds[k-1]]:=by rw [←Qy7 (by omega),Qn8 a]
   refine (h.le e).rd (k-1) rfl (by omega) ⟨λb=>?_,λb=>?_⟩
   ·have b:ds[k-1]=0:=by simpa using b
    refine ⟨_,?_,by (try dsimp only);and_intros<;>first|exact True.intro|rfl,?_,?_,?_⟩
    ·(try dsimp only);omega
    ·(try dsimp only);omega
    ·(try dsimp only);omega
    ·(try dsimp only)
     rw [←d,g,b,jU];rfl
   ·have b:ds[k-1]≠0:=by simpa using b
    refine ⟨⟨by omega,by omega⟩,λV2 i=>⟨k,rfl,?_⟩⟩;rw [←d,g,th _ _ b,←g];exact ((h.le e).le i).take (by omega)
  ·have a:k=0:=by simpa using a
   subst a;refine ⟨⟨by omega,by omega⟩,λV2 i=>⟨0,rfl,?_⟩⟩;rw [←d];exact ((h.le e).le i).take (by omega)
theorem fI (u:Nat)(h1:u<18446744073709551616:=by omega) :
  aa prog 120 #[qvK .u64 (u:Int)] V λr V'=>∃q k c',r=hF q k c'/\RN V' q k c' u:=by
 refine Jy V _ ⟨by omega,λe h f a=>?_⟩;rw [uH,kj,uO (by omega)] at a
 have a:e.a_ f (.cells (aK [u%4294967296,u / 4294967296]).toArray 216 (0,0)):=by
  simpa [aK] using a
 have d:cK [u%4294967296,u / 4294967296]:=by simp [cK];omega
 refine (er (RD.a_ a d (n:=2) (c:=2) rfl (Qq2 _)) (by simp)).s ?_;rintro r V2 i ⟨k,rfl,b⟩;refine ⟨_,_,_,rfl,λ_ j g=>⟨_,_,_,rfl,?_⟩⟩;rw [aY d] at b;have:val [u%4294967296,u / 4294967296]=u:=by simp;omega
 rw [this] at b;exact b.le g
theorem mL :
  aa prog 60 #[] V λr V'=>∃q k c',r=hF q k c'/\RN V' q k c' 1:=by
 refine Lz V _ λb e c a=>⟨_,_,_,rfl,?_⟩;have d:ah 1=[1]:=TS (by omega);unfold RN;rw [d]
 have a:b.a_ c (.cells (aK [1]).toArray 216 (0,0)):=by
  simpa [aK] using a
 exact RD.a_ a (by simp [cK]) rfl (Qq2 _)
def OD (x:Int):Int:=if 0<x then 1 else if x<0 then -1 else 0
theorem Kf (x:Int) :
  aa prog 122 #[qvK .i64 x] V λr V'=>r=qvK .i64 (OD x):=by
 refine JA V _ ⟨λh b c=>?_,λh=>⟨λa b c=>?_,λa b c=>?_⟩⟩
 ·have h:0<x:=by simpa using h
  rw [OD,if_pos h]
 ·have h:x<0:=by simpa using a
  rw [OD,if_neg (by omega),if_pos h]
 ·have h:¬0<x:=by simpa using h
  have a:¬x<0:=by simpa using a
  rw [OD,if_neg h,if_neg a]
theorem iW {q:OA}{x y:Nat}(ha:RN V p n c x)(hb:RN V q m e y)(hm:(ah x).length<=1099511627776)(hn:(ah y).length<=1099511627776:=by omega) :
  aa prog 59 #[hF p n c,hF q m e] V λr V'=>r=qvK .i64 (mi x y):=by
 have v:=ha.len;have A:=hb.len;refine Lu V _ ⟨λg D E=>?_,λg=>?_⟩
 ·have w:i64.wrap ((n:Int)-m)=(n:Int)-m:=au (by omega);simp only [w];refine (Kf _).s ?_;rintro r V2 F rfl;refine ⟨_,rfl,λG H=>?_⟩;have g:n≠m:=by simp at g;omega
  congr 1;rcases Qz2 n m with h|h
  ·have:=mZ (a:=x) (b:=y);rw [mi,if_pos this,OD,if_neg (by omega),if_pos (by omega)]
  ·have:=mZ (a:=y) (b:=x);rw [mi,if_neg (by omega),if_pos this,OD,if_pos (by omega)]
 ·have g:n=m:=by simp at g;omega
  subst g;have w:i64.wrap ((n:Int)-1)=(n:Int)-1:=au (by omega);simp only [w];refine ⟨λz V'=>-1<=z/\z<n/\(ah x).drop (z+1).toNat=(ah y).drop (z+1).toNat,λz=>(z+1).toNat,⟨_,by (try dsimp only);and_intros<;>first|exact True.intro|rfl,by (try dsimp only);omega,by (try dsimp only);omega,?_⟩,?_⟩
  ·(try dsimp only)
   rw [Qx7 (by omega),Qx7 (by omega)]
  ·rintro i I j ⟨k,o,s⟩;dsimp only at k o s ⊢;refine ⟨by trivial,λd=>?_,λd J K=>?_⟩
   ·have d:0<=i:=by simpa using d
    obtain ⟨i,rfl⟩:=Qw2 d;have w:i64.wrap ((i:Int)-1)=(i:Int)-1:=au (by omega);simp only [w];have f:(ah x).drop (i+1)=(ah y).drop (i+1):=s;refine (ha.le j).rd i rfl (by omega) ((hb.le j).rd i rfl (by omega) ⟨λt B C=>?_,λt=>?_⟩)
    ·have:=lY (aL y) (by omega) (by omega) f.symm (by simpa using t);rw [af,af] at this;rw [mi,if_neg (by omega),if_pos this]
    ·refine (ha.le j).rd i rfl (by omega) ((hb.le j).rd i rfl (by omega) ⟨λu B C=>?_,λu=>?_⟩)
     ·have:=lY (aL x) (by omega) (by omega) f (by simpa using u);rw [af,af] at this;rw [mi,if_pos this]
     ·refine ⟨_,?_,by (try dsimp only);and_intros<;>first|exact True.intro|rfl,?_,?_,?_⟩
      ·(try dsimp only);omega
      ·(try dsimp only);omega
      ·(try dsimp only);omega
      ·(try dsimp only)
       have:((i:Int)-1+1).toNat=i:=by omega
       rw [this,Qw4 (by omega),Qw4 (l:=ah y) (by omega),f];congr 1;simp at t u;omega
   ·have d:i=-1:=by simp at d;omega
    subst d;have:ah x=ah y:=by simpa using s
    have:=tS this;subst this;simp [mi]
theorem QV (a b:Nat):bZ (a:Int) (b:Int)=((max a b:Nat):Int):=by
 unfold bZ;split<;>omega
theorem Nw {q:OA}(hx:RD V p n c xs)(hy:RD V q m e ys)(hm:xs.length<=1099511627776)(hn:ys.length<=1099511627776) :
  aa prog 207 #[hF p n c,hF q m e] V λr V'=>∃p' n' c',r=hF p' n' c'/\RN V' p' n' c' (val xs+val ys):=by
 have H:=hx.len;have O:=hy.len;have vc:=LC p n c q m e V;have w:i64.wrap (((max n m:Nat):Int)+1)=((max n m+1:Nat):Int):=by rw [au (by omega)];omega
 simp only [QV,w,Qq0] at vc;obtain ⟨k,I⟩:∃k,k=max n m:=⟨_,rfl⟩;rw [←I] at vc
 refine vc _ ⟨by omega,by omega,by omega,λz V'=>0<=z.1/\z.1<=1/\0<=z.2.1/\z.2.1<=k/\∃es:pz Nat,z.2.2=aK es/\es.length=k+1/\cK es /\
   val (es.take z.2.1.toNat)+4294967296^z.2.1.toNat*z.1.toNat=val (xs.take z.2.1.toNat)+val (ys.take z.2.1.toNat),λz=>k-z.2.1.toNat,⟨(0,0,aK (List.replicate (k+1) 0)),by (try dsimp only);and_intros<;>first|exact True.intro|rfl|exact dW _,by (try dsimp only);omega,by (try dsimp only);omega,by (try dsimp only);omega,by (try dsimp only);omega,_,rfl,by simp,cK.rep _,by simp⟩,?_⟩
 rintro ⟨b,i,P⟩ V2 D ⟨f,o,g,s,es,rfl,t,h,l⟩;dsimp only at f o g s l ⊢;obtain ⟨i,rfl⟩:=Qw2 g;obtain ⟨b,rfl⟩:=Qw2 f;simp only [Qq0] at l;refine ⟨by trivial,λd=>?_,λd=>?_⟩
 ·have d:i<k:=by simpa using d
  refine ⟨λz V'=>∃x:Nat,z=x/\x<4294967296/\val (xs.take (i+1))=val (xs.take i)+4294967296^i*x,⟨λa=>?_,λa=>?_⟩,?_⟩
  ·have a:i<n:=by simpa using a
   refine (hx.le D).rd i rfl (by omega) ?_;exact ⟨_,by (try dsimp only);and_intros<;>first|exact True.intro|rfl,xs[i],rfl,hx.fy.get (by omega),ay _ _⟩
  ·have a:n<=i:=by simpa using a
   exact ⟨_,by (try dsimp only);and_intros<;>first|exact True.intro|rfl,0,rfl,by omega,by rw [ao,ao];simp⟩
  rintro _ J E ⟨x,rfl,u,v⟩;refine ⟨by trivial,λz V'=>∃y:Nat,z=y/\y<4294967296/\val (ys.take (i+1))=val (ys.take i)+4294967296^i*y,⟨λa=>?_,λa=>?_⟩,?_⟩
  ·have a:i<m:=by simpa using a
   refine ((hy.le D).le E).rd i rfl (by omega) ?_;exact ⟨_,by (try dsimp only);and_intros<;>first|exact True.intro|rfl,ys[i],rfl,hy.fy.get (by omega),ay _ _⟩
  ·have a:m<=i:=by simpa using a
   exact ⟨_,by (try dsimp only);and_intros<;>first|exact True.intro|rfl,0,rfl,by omega,by rw [ao,ao];simp⟩
  rintro _ K L ⟨y,rfl,A,B⟩;refine ⟨by trivial,λM F=>(Tw x y b u A).s ?_⟩;rintro r Q R rfl;have w:i64.wrap ((i:Int)+1)=((i+1:Nat):Int):=by rw [au (by omega)];omega
  simp only [w,Qq0];refine ⟨_,_,rfl,⟨by omega,by omega⟩,by simp;omega,(((x+y+b) / 4294967296:Nat),((i+1:Nat):Int),aK (es.set i ((x+y+b)%4294967296))),?_,by (try dsimp only);and_intros<;>first|exact True.intro|rfl|(rw [←bQ];simp),?_⟩
  ·(try dsimp only);omega
  ·(try dsimp only)
   refine ⟨by omega,by omega,by omega,by omega,_,rfl,by simpa using t,h.set _ _ (by omega),?_⟩;simp only [Qq0];rw [aS _ _ _,Qk8,v,B];exact zu l
 ·have d:i=k:=by simp at d;omega
  subst d;refine ⟨⟨by omega,by omega⟩,by simp;omega,λJ E S C=>?_⟩;have G:(aK es).set (0+((i:Int).toNat)*1) (qvK .u32 (b:Int))=aK (es.set i b):=by rw [←bQ];simp
  simp only [Qq0] at G;try simp only [Qq0] at C
  rw [G] at C;have j:=h.set i b (by omega);refine (er (RD.a_ C j (n:=i+1) (c:=i+1) (by simp;omega) (Qq2 _)) (by simp;omega)).s ?_;rintro r K L ⟨k,rfl,a⟩;refine ⟨_,_,_,rfl,λ_ M F=>⟨_,_,_,rfl,?_⟩⟩;rw [aY j] at a
  have N:val (es.set i b)=val xs+val ys:=by
   have:=aS es i b;rw [ao (by simp;omega)] at this;rw [this,l,ao,ao]
  rw [N] at a;exact a.le F
theorem Lb {E A B x y W d b:Nat}(h:E+B=A+W*c)(hv:d+(y+c)=x+4294967296*b) :
  E+W*d+(B+W*y)=A+W*x+W*4294967296*b:=by
 have:=congrArg (W*·) hv;simp only [Qb1,←Qb8] at this;omega
theorem rW {q:OA}(hx:RD V p n c xs)(hy:RD V q m e ys)(hm:xs.length<=1099511627776)(hl:ys.length<=xs.length)(hle:val ys<=val xs) :
  aa prog 208 #[hF p n c,hF q m e] V λr V'=>∃p' n' c',r=hF p' n' c'/\RN V' p' n' c' (val xs-val ys):=by
 have G:=hx.len;have N:=hy.len
 refine Js V _ ⟨by omega,by omega,by omega,λz V'=>0<=z.1/\z.1<=1/\0<=z.2.1/\z.2.1<=n/\∃es:pz Nat,z.2.2=aK es/\es.length=n/\cK es /\
   val (es.take z.2.1.toNat)+val (ys.take z.2.1.toNat)=val (xs.take z.2.1.toNat)+4294967296^z.2.1.toNat*z.1.toNat,λz=>n-z.2.1.toNat,
   ⟨(0,0,List.replicate n (qvK .u32 0)),by (try dsimp only);and_intros<;>first|exact True.intro|rfl,by (try dsimp only);omega,by (try dsimp only);omega,by (try dsimp only);omega,by (try dsimp only);omega,List.replicate n 0,dW n,by simp,cK.rep _,by simp⟩,?_⟩
 rintro ⟨l,i,O⟩ V2 C ⟨o,u,s,v,es,rfl,g,a,t⟩;dsimp only at o u s v t ⊢;obtain ⟨i,rfl⟩:=Qw2 s;obtain ⟨l,rfl⟩:=Qw2 o;simp only [Qq0] at t;refine ⟨by trivial,λj=>?_,λj=>?_⟩
 ·have j:i<n:=by simpa using j
  refine ⟨λz V'=>∃y:Nat,z=y/\y<4294967296/\val (ys.take (i+1))=val (ys.take i)+4294967296^i*y,⟨λf=>?_,λf=>?_⟩,?_⟩
  ·have f:i<m:=by simpa using f
   refine (hy.le C).rd i rfl (by omega) ?_;exact ⟨_,by (try dsimp only);and_intros<;>first|exact True.intro|rfl,ys[i],rfl,hy.fy.get (by omega),ay _ _⟩
  ·have f:m<=i:=by simpa using f
   exact ⟨_,by (try dsimp only);and_intros<;>first|exact True.intro|rfl,0,rfl,by omega,by rw [ao,ao];simp⟩
  rintro _ H D ⟨y,rfl,x,A⟩;refine ⟨by trivial,?_⟩;refine ((hx.le C).le D).rd i rfl (by omega) λI J=>(TD _ y l (hx.fy.get (by omega)) x).s ?_;rintro r K E ⟨d,b,rfl,P,F,B⟩;have w:i64.wrap ((i:Int)+1)=((i+1:Nat):Int):=by rw [au (by omega)];omega
  simp only [w,Qq0];refine ⟨_,_,rfl,⟨by omega,by omega⟩,by simp;omega,((b:Int),((i+1:Nat):Int),aK (es.set i d)),?_,by (try dsimp only);and_intros<;>first|exact True.intro|rfl|(rw [←bQ];simp),?_⟩
  ·(try dsimp only);omega
  ·(try dsimp only)
   refine ⟨by omega,by omega,by omega,by omega,_,rfl,by simpa using g,a.set _ _ (by omega),?_⟩;simp only [Qq0];rw [aS _ _ _,Qk8,ay xs i,A];exact Lb t B
 ·have j:i=n:=by simp at j;omega
  subst j;simp only [Qq0];intro H D Q F;refine (er (RD.a_ F a (n:=i) (c:=i) g.symm (Qq2 _))).s ?_;rintro r I J ⟨k,rfl,f⟩;refine ⟨_,_,_,rfl,λ_ K E=>⟨_,_,_,rfl,?_⟩⟩;rw [aY a] at f;rw [ao,ao,ao] at t;have L:=h_ a;rw [g] at L
  have M:l=0:=by
   rcases Qy9 l with h|h
   ·exact h
   ·have:4294967296^i*1<=4294967296^i*l:=Qz7 _ h;omega
  subst M;rw [show val es=val xs-val ys from by omega] at f;exact f.le E
theorem ID (h:RD V p n c ds){K:Int->Prop}(hn:0<ds.length)
  (hK:K ((ds[0]:Nat):Int)):(p.isSome=true)/\(0<=(0:Int)/\(0:Int)<(n:Int))/\∃x:Int,(∃a,ae p 0=some a/\V.at a (qvK .u32 x))/\K x:=by
 have:=h.rd (i:=0) (K:=K) 0 rfl hn hK;simpa using this
theorem UW (h:RD V p n c ds){K:Int->Prop}(j:Nat)(hn:j<ds.length)
  (hK:K ((ds[j]:Nat):Int)):(p.isSome=true)/\(0<=(j:Int)/\(j:Int)<(n:Int))/\∃x:Int,(∃a,ae p j=some a/\V.at a (qvK .u32 x))/\K x:=by
 have:=h.rd (i:=j) (K:=K) j rfl hn hK;simpa using this
theorem ou {ds:pz Nat}(h:ds.length=1:=by omega):∃a,ds=[a]:=by
 match ds,h with
 | [a],_=>exact ⟨a,rfl⟩
theorem Lh {ds:pz Nat}(h:ds.length=2:=by omega):∃a b,ds=[a,b]:=by
 match ds,h with
 | [a,b],_=>exact ⟨a,b,rfl⟩
theorem dm {q:OA}(hx:RD V p n c xs)(hy:RD V q m e ys)(hm:xs.length+ys.length<=1099511627776:=by omega) :
  aa prog 83 #[hF p n c,hF q m e] V λr V'=>∃p' n' c',r=hF p' n' c'/\RN V' p' n' c' (val xs*val ys):=by
 have Y:=hx.len;have Ep:=hy.len;have y:((n:Int)+m).toNat=n+m:=by omega
 have w:i64.wrap ((n:Int)+m)=(n:Int)+m:=au (by omega);have vc:=BP p n c q m e V;simp only [w,y,dW] at vc;refine (λtail=>vc _ ⟨λS=>⟨λA=>?_,λ_=>tail⟩,λ_=>tail⟩) ?_
 ·have S:n=1:=by simp at S;omega
  have A:m=1:=by simp at A;omega
  clear tail vc;obtain ⟨a,rfl⟩:=ou (ds:=xs);obtain ⟨b,rfl⟩:=ou (ds:=ys);have T:=hx.fy.get (i:=0) (by simp);have B:=hy.fy.get (i:=0) (by simp);refine ID hx (by simp) (ID hy (by simp) λV1 l1=>?_);simp only [Qs5] at T B ⊢;have Z:a*b<=4294967295*4294967295:=Qf8 (by omega) (by omega);have J:u64.wrap (a:Int)=a:=bj (by omega);have K:u64.wrap (b:Int)=b:=bj (by omega);have e3:(a:Int)*(b:Int)=((a*b:Nat):Int):=by simp
  have e4:u64.wrap ((a*b:Nat):Int)=((a*b:Nat):Int):=bj (by omega);rw [J,K,e3,e4];refine (fI (a*b)).s ?_;rintro r V2 l2 ⟨p',n',c',rfl,h⟩;refine ⟨_,_,_,rfl,λV3 l3=>⟨_,_,_,rfl,?_⟩⟩;simp only [bM,fZ,Qj7,Qj1];exact h.le l3
 refine ⟨by omega,by omega,by omega,λz V'=>0<=z.1/\z.1<=n/\∃es:pz Nat,z.2=aK es/\es.length=n+m/\cK es /\
  val (es.take (z.1.toNat+m))=val (xs.take z.1.toNat)*val ys,λz=>n-z.1.toNat,⟨(0,aK (List.replicate (n+m) 0)),by (try dsimp only);and_intros<;>first|exact True.intro|rfl,by (try dsimp only);omega,by (try dsimp only);omega,_,rfl,by simp,cK.rep _,by simp [yX,Qp9]⟩,?_⟩
 rintro ⟨i,vs⟩ V5 U ⟨C,L,es,rfl,M,o,D⟩;dsimp only at C L D ⊢;obtain ⟨i,rfl⟩:=Qw2 C;simp only [Qq0] at D;refine ⟨by trivial,λv=>?_,λv=>?_⟩
 ·have v:i<n:=by simpa using v
  refine (hx.le U).rd i rfl (by omega) ?_;have T:=hx.fy.get (i:=i) (by omega)
  refine ⟨λz V'=>0<=z.1/\z.1<=4294967295/\0<=z.2.1/\z.2.1<=m/\∃d:pz Nat,z.2.2=aK d/\d.length=n+m/\cK d/\d.drop (i+z.2.1.toNat)=es.drop (i+z.2.1.toNat) /\
   val (d.take (i+z.2.1.toNat))+4294967296^(i+z.2.1.toNat)*z.1.toNat=val (es.take (i+z.2.1.toNat))+4294967296^i*xs[i]*val (ys.take z.2.1.toNat),λz=>m-z.2.1.toNat,
   ⟨(0,0,aK es),by (try dsimp only);and_intros<;>first|exact True.intro|rfl,by (try dsimp only);omega,by (try dsimp only);omega,by (try dsimp only);omega,by (try dsimp only);omega,es,rfl,M,o,rfl,by simp⟩,?_⟩
  rintro ⟨I,k,vs⟩ V6 W ⟨E,N,F,O,d,rfl,G,s,j,hw⟩;dsimp only at E N F O j hw ⊢;obtain ⟨k,rfl⟩:=Qw2 F;obtain ⟨I,rfl⟩:=Qw2 E;simp only [Qq0] at j hw;refine ⟨by trivial,λg=>?_,λg=>?_⟩
  ·have g:k<m:=by simpa using g
   refine (hy.le (U.m W)).rd k rfl (by omega) ?_;have B:=hy.fy.get (i:=k) (by omega);have X:=s.get (i:=i+k) (by omega)
   have P:d[i+k]'(by omega)=es[i+k]'(by omega):=by
    have A:d[i+k]?=es[i+k]?:=by
     have:=congrArg (λl=>l[0]?) j;simpa [Qn7] using this
    rw [Qq1 (by omega),Qq1 (by omega)] at A;exact Qv6 A
   simp (disch:=omega) only [au];have u:((i:Int)+k).toNat=i+k:=by omega
   rw [u];refine ⟨⟨by omega,by omega⟩,((d[i+k]'(by omega):Nat):Int),by rw [Qz1,Qk6];exact iJ (by omega),⟨by omega,by omega⟩,by simp;omega,by omega,?_⟩;have a0:xs[i]*ys[k]<=4294967295*4294967295:=Qf8 (by omega) (by omega);have Ya:(xs[i]:Int)*(ys[k]:Int)=((xs[i]*ys[k]:Nat):Int):=by simp
   obtain ⟨t,ht⟩:∃t:Nat,t=I+xs[i]*ys[k]+d[i+k]'(by omega):=⟨_,rfl⟩;rw [Qz8] at hw;have f:=Ij hw ht
   have J:u64.wrap (u64.wrap (u64.wrap (u64.wrap (xs[i]:Int)*u64.wrap (ys[k]:Int))+u64.wrap ((d[i+k]'(by omega):Nat):Int))+(I:Int))=(t:Int):=by
    clear f;generalize xs[i]*ys[k]=pq at *;rw [bj (x:=(xs[i]:Int)) (by omega),bj (x:=(ys[k]:Int)) (by omega),Ya,bj (x:=((pq:Nat):Int)) (by omega)];simp (disch:=omega) only [bj];omega
   rw [J,kj,uH];refine ⟨(_,_,_),?_,by (try dsimp only);and_intros<;>first|exact True.intro|rfl,?_⟩
   ·(try dsimp only);omega
   ·(try dsimp only)
    have H:((k:Int)+1).toNat=k+1:=by omega
    refine ⟨by omega,by omega,by omega,by omega,d.set (i+k) (t%4294967296),?_,by simpa using G,s.set _ _ (by omega),?_,?_⟩
    ·rw [←bQ];simp
    ·rw [H,Qb2 (by omega)];have:=congrArg (List.drop 1) j;simpa [Qh5,Wx0,Qn5,Nat.add_left_comm] using this
    ·rw [H,show i+(k+1)=i+k+1 from by omega,aS _ _ _,ay es (i+k),ay ys k,←P,Qk8];have K:((t:Int) / 4294967296).toNat=t / 4294967296:=by omega
     rw [K,Qz8,f]
  ·have g:k=m:=by simp at g;omega
   subst g;simp (disch:=omega) only [au];have u:((i:Int)+k).toNat=i+k:=by omega
   rw [u];refine ⟨⟨by omega,by omega⟩,by simp;omega,(_,_),?_,by (try dsimp only);and_intros<;>first|exact True.intro|rfl,?_⟩
   ·(try dsimp only);omega
   ·(try dsimp only)
    have Q:((i:Int)+1).toNat=i+1:=by omega
    refine ⟨by omega,by omega,d.set (i+k) I,?_,by simpa using G,s.set _ _ (by omega),?_⟩
    ·rw [←bQ,uO (by omega)];simp
    ·rw [Q,show i+1+k=i+k+1 from by omega,aS _ _ _,hw,D,ay xs i,ao (ds:=ys)];grind
 ·have v:i=n:=by simp at v;omega
  subst v;intro V6 W bk R;refine (er (RD.a_ R o (n:=i+m) (c:=i+m) (by omega) (Qq2 _))).s ?_;rintro r V7 l7 ⟨k,rfl,g⟩;refine ⟨_,_,_,rfl,λ_ V8 l8=>⟨_,_,_,rfl,?_⟩⟩;rw [aY o] at g;rw [ao,ao] at D;rw [D] at g;exact g.le l8
theorem nT (h:RD V p n c ds)(hm:ds.length<=1099511627776:=by omega) :
  aa prog 119 #[hF p n c] V λr V'=>r=qvZ #[qvK .u64 ((if n<=2 then val ds else 0:Nat):Int),qvQ (decide (n<=2))]:=by
 have u:=h.len;refine JB V _ ⟨λe k l=>?_,λe=>⟨λf=>?_,λf=>⟨λd=>?_,λd k l=>?_⟩⟩⟩
 ·have e:n=0:=by simp at e;omega
  subst e;have:ds=[]:=Qw5.1 (by omega);subst this;rfl
 ·have f:n=1:=by simp at f;omega
  subst f;obtain ⟨a,rfl⟩:=ou (ds:=ds);have o:=h.fy.get (i:=0) (by simp);refine ID h (by simp) λk l=>?_;simp only [Qs5] at o ⊢;have m:u64.wrap (a:Int)=a:=bj (by omega);rw [m,if_pos (by omega),decide_eq_true (by omega)];simp
 ·have d:n=2:=by simp at d;omega
  subst d;obtain ⟨a,b,rfl⟩:=Lh (ds:=ds);have g:=h.fy.get (i:=0) (by simp);have j:=h.fy.get (i:=1) (by simp);refine UW h 1 (by simp) ⟨by omega,ID h (by simp) λk l=>?_⟩;simp only [Qs5,List.getElem_cons_succ] at g j ⊢;have m:u64.wrap (a:Int)=a:=bj (by omega);have q:u64.wrap (b:Int)=b:=bj (by omega);have s:((2:Int)^32)=4294967296:=by decide
  have t:u64.wrap ((b:Int)*4294967296)=(b:Int)*4294967296:=bj (by omega);rw [m,q,s,t,Is _ _ j g,if_pos (by omega),decide_eq_true (by omega)];simp only [bM,fZ];congr 4;omega
 ·have d:¬n<=2:=by simp at e f d;omega
  rw [if_neg d,decide_eq_false d];rfl
theorem Oj (b:Nat):0 ||| b=b:=Nat.zero_or b
theorem nR (hx:RD V p n c ds)(hm:ds.length<=1099511627776)(k:Nat)(hk:k<=35184372088832:=by omega) :
  aa prog 227 #[hF p n c,qvK .i64 (k:Int)] V λr V'=>∃p' n' c',r=hF p' n' c'/\RN V' p' n' c' (val ds*2^k):=by
 have hl:=hx.len;have B:(k:Int).tdiv 32=((k / 32:Nat):Int):=by rw [Qj2 (by omega)];omega
 have C:(k:Int).tmod 32=((k%32:Nat):Int):=by rw [Qk2 (by omega)];omega
 have vc:=Jr p n c k V
 have h:val ds*2^k=4294967296^(k / 32)*val ds*2^(k%32):=by
  have:2^k=4294967296^(k / 32)*2^(k%32):=by
   rw [show (4294967296:Nat)=2^32 from rfl,←Ww0,←Qz8,Qc3]
  rw [this];grind
 rw [h];have E:k / 32<=1099511627776:=by omega
 have q:k%32<32:=Qj8 _ (by omega);rw [B,C] at vc;generalize k / 32=w at *;generalize k%32=r at *;clear B C h;have F:i64.wrap (w:Int)=(w:Int):=au (by omega);have G:i64.wrap ((w:Int)+n)=((w+n:Nat):Int):=by rw [au (by omega)];omega
 have H:i64.wrap (((w+n:Nat):Int)+1)=((w+n+1:Nat):Int):=by rw [au (by omega)];omega
 have I:u64.wrap (r:Int)=(r:Int):=bj (by omega)
 have l:(min r IntKind.u64.bits)=r:=by
  show min _ 64=r;omega
 have J:((2:Int)^r)=((2^r:Nat):Int):=by simp
 simp only [F,G,H,I,Qq0,l,J,dW] at vc
 refine vc _ ⟨by omega,by omega,by omega,by omega,by omega,λz V'=>0<=z.1/\z.1<=n/\∃es:pz Nat,z.2=aK es/\es.length=w+n+1/\cK es/\(∀c,es[z.1.toNat+w]?=some c->c<2^r)/\(∀j c,z.1.toNat+w<j->es[j]?=some c->c=0) /\
   val (es.take (z.1.toNat+w+1))=4294967296^w*val (ds.take z.1.toNat)*2^r,λz=>n-z.1.toNat,
   ⟨(0,aK (List.replicate (w+n+1) 0)),by (try dsimp only);and_intros<;>first|exact True.intro|rfl,by (try dsimp only);omega,by (try dsimp only);omega,_,rfl,by simp,cK.rep _,?_,?_,?_⟩,?_⟩
 ·intro c a;rw [Qr6] at a;split at a
  ·cases a;exact Qk4 r
  ·cases a
 ·intro j c _ a;rw [Qr6] at a;split at a
  ·cases a;rfl
  ·cases a
 ·simp [Qp9,yX]
 rintro ⟨i,vs⟩ V4 K ⟨m,s,es,rfl,t,d,a,o,f⟩;dsimp only at m s a o f ⊢;obtain ⟨i,rfl⟩:=Qw2 m;simp only [Qq0] at a o f;refine ⟨by trivial,λg=>?_,λg=>?_⟩
 ·have g:i<n:=by simpa using g
  have L:i64.wrap ((w:Int)+i)=((i+w:Nat):Int):=by rw [au (by omega)];omega
  have M:i64.wrap (((i+w:Nat):Int)+1)=((i+w+1:Nat):Int):=by rw [au (by omega)];omega
  have N:i64.wrap ((i:Int)+1)=((i+1:Nat):Int):=by rw [au (by omega)];omega
  simp only [L,M,N,Qq0,Qk6,Qz1];refine UW (hx.le K) i (by omega) ?_;have O:=hx.fy.get (i:=i) (by omega);have u:=a (es[i+w]'(by omega)) (Qq1 _);have v:=o (i+w+1) (es[i+w+1]'(by omega)) (by omega) (Qq1 _);obtain ⟨P,g2,Q,g4⟩:=IV O q u;have hmul:((ds[i]:Nat):Int)*((2^r:Nat):Int)=((ds[i]*2^r:Nat):Int):=by simp
  have R:u64.wrap ((ds[i]:Nat):Int)=((ds[i]:Nat):Int):=bj (by omega);have S:u64.wrap ((ds[i]*2^r:Nat):Int)=((ds[i]*2^r:Nat):Int):=bj (by omega);have T:u32.wrap ((ds[i]*2^r:Nat):Int)=((ds[i]*2^r%4294967296:Nat):Int):=by rw [kj];omega
  have U:u32.wrap (((ds[i]*2^r:Nat):Int).fdiv (2^32))=((ds[i]*2^r / 4294967296:Nat):Int):=by rw [uH,kj];omega
  simp only [R,hmul,S,T,U];have x:ds[i]*2^r / 4294967296<4294967296:=by omega
  have W:=Qg4 (ds[i]*2^r) 4294967296;have y:val (List.take (i+1) ds)=val (List.take i ds)+4294967296^i*ds[i]:=ay _ _;have X:val (es.take (i+w+1))=val (es.take (i+w))+4294967296^(i+w)*es[i+w]'(by omega):=ay _ _;have A:ds[i]*2^r%4294967296<4294967296:=Qj8 _ (by omega);generalize ds[i]*2^r%4294967296=lo at *;generalize ds[i]*2^r / 4294967296=hi at *;refine ⟨by omega,by omega,⟨by omega,by omega⟩,((es[i+w]'(by omega):Nat):Int),iJ (by omega),⟨by omega,by omega⟩,by simp;omega,by omega,⟨by omega,by omega⟩,((es[i+w+1]'(by omega):Nat):Int),?_,by omega,⟨by omega,by omega⟩,by simp;omega,?_⟩
  ·rw [Qm6 (by omega)];exact iJ (by omega)
  have e:es[i+w]'(by omega)<4294967296:=d.get (by omega);rw [KO _ _ e A,P,v,KO _ _ (by omega) x,Oj];refine ⟨(((i+1:Nat):Int),aK ((es.set (i+w) (es[i+w]'(by omega)+lo)).set (i+w+1) hi)),?_,?_,?_⟩
  ·(try dsimp only);omega
  ·(try dsimp only);and_intros<;>first|exact True.intro|rfl|rw [←bQ,←bQ]
  ·(try dsimp only)
   refine ⟨by omega,by omega,_,rfl,by simpa using t,(d.set _ _ (by omega)).set _ _ (by omega),?_,?_,?_⟩
   ·intro c b;simp only [Qq0] at b;rw [show i+1+w=i+w+1 from by omega,Qs3 (by simp;omega)] at b;cases b;exact Q
   ·intro j c Y b;simp only [Qq0] at Y;rw [Qm6 (by omega),Qm6 (by omega)] at b;exact o j c (by omega) b
   ·simp only [Qq0];rw [show i+1+w+1=i+w+1+1 from by omega,aS _ _ _ (by simp;omega),aS _ _ _,y];rw [X] at f;have Z:4294967296^(i+w+1)*hi=4294967296^(i+w)*(4294967296*hi):=by rw [Qk8];grind
    rw [Z,Qb1,←Qn5,f,Qn5,←Qb1,W,Qz8];grind
 ·have g:i=n:=by simp at g;omega
  subst g;intro V5 l5 bk hb;refine (er (RD.a_ hb d (n:=w+i+1) (c:=w+i+1) (by omega) (Qq2 _))).s ?_;rintro r' V6 l6 ⟨k',rfl,D⟩;refine ⟨_,_,_,rfl,λ_ V7 l7=>⟨_,_,_,rfl,?_⟩⟩;rw [ao,ao] at f;rw [aY d,f] at D;exact D.le l7
theorem jY (a:Addr)(m n:Nat):(a.add m).add n=a.add (m+n):=by
 unfold Addr.add;by_cases b:m=0
 ·subst b;simp
 ·by_cases c:n=0
  ·subst c;simp [b]
  ·rw [if_neg b,if_neg c,if_neg (by omega)];simp only [Qn5]
theorem W0 (h:RD V p n c ds)(hk:k<n):RD V (sT p c k 1) (n-k) (c-k) (ds.drop k):=by
 have g:=h.len;have j:=h.cap;have e:sT p c k 1=ae p k:=by unfold sT;rw [if_neg (by omega),Qk6]
 rw [e];refine ⟨by simp;omega,by omega,λi v b=>?_,h.fy.drop k,λl=>?_⟩
 ·rw [OM,Qn7] at b;have ⟨d,f,a⟩:=h.sl _ _ b;refine ⟨d.add k,by rw [f];rfl,?_⟩;rw [jY];exact a
 ·have:p.isNone=true:=by cases p<;>simp_all [ae]
  have:=h.Ik this;omega
theorem Hn (hd:RD V p n c ds)(hm:ds.length<=1099511627776)(k:Nat)(hk:k<=35184372088832:=by omega) :
  aa prog 228 #[hF p n c,qvK .i64 (k:Int)] V λr V'=>∃p' n' c',r=hF p' n' c'/\RN V' p' n' c' (val ds / 2^k):=by
 have U:=hd.len;have F:(k:Int).tdiv 32=((k / 32:Nat):Int):=by rw [Qj2 (by omega)];omega
 have v:(k:Int).tmod 32=((k%32:Nat):Int):=by rw [Qk2 (by omega)];omega
 have vc:=Gv p n c k V
 have o:val ds / 2^k=val ds / 4294967296^(k / 32) / 2^(k%32):=by
  rw [Nat.div_div_eq_div_mul,show (4294967296:Nat)=2^32 from rfl,←Ww0,←Qz8,Qc3]
 rw [o];have J:k / 32<=1099511627776:=by omega
 have y:k%32<32:=Qj8 _ (by omega);rw [F,v] at vc;generalize k / 32=w at *;generalize k%32=r at *;clear F v o;have K:i64.wrap (w:Int)=(w:Int):=au (by omega);have L:u64.wrap (r:Int)=(r:Int):=bj (by omega)
 have q:(min r IntKind.u64.bits)=r:=by
  show min _ 64=r;omega
 simp only [K,L,Qq0,q,dW] at vc;refine vc _ ⟨by omega,λh W X=>?_,λh=>?_⟩
 ·have h:n<=w:=by simp at h;omega
  have a:=h_ hd.fy;have:4294967296^ds.length<=4294967296^w:=Qx2 (by omega) (by omega);rw [Qj9 (Qx5 a this),Wk0];exact ⟨_,_,_,rfl,RD.nil⟩
 ·have h:w<n:=by simp at h;omega
  clear vc
  have s:val ds / 4294967296^w=val (ds.drop w):=by
   have e:val ds=val (ds.take w++ds.drop w):=by rw [Qv9]
   have a:=h_ (hd.fy.take w);rw [eW] at e;rw [Qq7,Qj3 (by omega)] at e a;rw [e,Qg1 _ _ (Ww1 (by omega)),Qj9 a,Qz1]
  rw [s];have j:=W0 hd h;have M:=j.len;clear s;generalize sT p c w 1=sp at *;generalize ds.drop w=xs at *;generalize hN:n-w=N at *
  refine ⟨by omega,by omega,⟨by omega,by omega⟩,by omega,by omega,by omega,λz V'=>0<=z.1/\z.1<=N/\∃es:pz Nat,z.2=aK es/\es.length=N/\cK es /\
   val (es.take z.1.toNat)+4294967296^z.1.toNat*(val (xs.drop z.1.toNat) / 2^r)=val xs / 2^r,λz=>N-z.1.toNat,
   ⟨(0,aK (List.replicate N 0)),by (try dsimp only);and_intros<;>first|exact True.intro|rfl,by (try dsimp only);omega,by (try dsimp only);omega,_,rfl,by simp,cK.rep _,by simp⟩,?_⟩
  rintro ⟨i,Z⟩ V4 G ⟨t,A,es,rfl,B,f,b⟩;dsimp only at t A b ⊢;obtain ⟨i,rfl⟩:=Qw2 t;simp only [Qq0] at b;refine ⟨by trivial,λm=>?_,λm=>?_⟩
  ·have m:i<N:=by simpa using m
   have O:i64.wrap ((i:Int)+1)=((i+1:Nat):Int):=by rw [au (by omega)];omega
   simp only [O,Qq0,Qk6,Qz1];refine UW (j.le G) i (by omega) ?_;have H:=j.fy.get (i:=i) (by omega);refine ⟨λz V'=>z=((xs[i]+4294967296*(xs[i+1]?).getD 0:Nat):Int),⟨λd=>?_,λd=>?_⟩,?_⟩
   ·have d:i+1<N:=by simp at d;omega
    have C:=j.fy.get (i:=i+1) (by omega)
    have E:bW .or .u64 (u64.wrap ((xs[i]:Nat):Int)) (u64.wrap (u64.wrap ((xs[i+1]:Nat):Int)*2^32))=((xs[i]+4294967296*(xs[i+1]?).getD 0:Nat):Int):=by
     have v:((2:Int)^32)=4294967296:=by decide
     rw [v,bj (by omega),bj (x:=((xs[i+1]:Nat):Int)) (by omega),bj (by omega),Rz _ _ C H,Qq1 (by omega),Qf3];omega
    refine UW (j.le G) (i+1) (by omega) ⟨by omega,((xs[i]+4294967296*(xs[i+1]?).getD 0:Nat):Int),?_,rfl⟩
    (try dsimp only);and_intros<;>first|exact True.intro|exact E|rfl
   ·have d:N<=i+1:=by simp at d;omega
    have E:u64.wrap ((xs[i]:Nat):Int)=((xs[i]+4294967296*(xs[i+1]?).getD 0:Nat):Int):=by
     rw [bj (by omega),Qz6 (by omega)];simp
    refine ⟨((xs[i]+4294967296*(xs[i+1]?).getD 0:Nat):Int),?_,rfl⟩
    (try dsimp only);and_intros<;>first|exact True.intro|exact E|rfl
   rintro _ P Q rfl;have u:=IW (Y:=val (xs.drop (i+1))) H y;rw [uP j.fy] at u
   have g:val (xs.drop i)=xs[i]+4294967296*val (xs.drop (i+1)):=by
    rw [Qw4 (by omega),bM]
   rw [g,u] at b;rw [kN,kj];obtain ⟨D,I⟩:∃D,D=(xs[i]+4294967296*(xs[i+1]?).getD 0) / 2^r%4294967296:=⟨_,rfl⟩;have R:(((xs[i]+4294967296*(xs[i+1]?).getD 0) / 2^r:Nat):Int)%4294967296=(D:Int):=by rw [I];omega
   rw [R];rw [←I] at b;refine ⟨by trivial,by omega,⟨by omega,by omega⟩,by simp;omega,(((i+1:Nat):Int),aK (es.set i D)),?_,?_,?_⟩
   ·(try dsimp only);omega
   ·(try dsimp only);and_intros<;>first|exact True.intro|rfl|rw [←bQ]
   ·(try dsimp only)
    refine ⟨by omega,by omega,_,rfl,by simpa using B,f.set _ _ (by omega),?_⟩;simp only [Qq0];rw [aS _ _ _,←b,Qk8,Qb1,Qn5,Qb8]
  ·have m:i=N:=by simp at m;omega
   subst m;intro P Q bk S;refine (er (RD.a_ S f (n:=i) (c:=i) (by omega) (Qq2 _))).s ?_;rintro r' V6 l6 ⟨k',rfl,d⟩;refine ⟨_,_,_,rfl,λ_ V7 T=>⟨_,_,_,rfl,?_⟩⟩;rw [ao,Qx7 (l:=xs) (i:=i) (by omega)] at b
   have b:val es=val xs / 2^r:=by
    rw [←b,fZ,Wk0,Qj7,Qj1]
   rw [aY f,b] at d;exact d.le T
end Go.Proofs.Tryz
namespace Go.Big
variable{R V W n:Nat}
theorem xw {ds:pz Nat}(hd:cK ds)(w:Nat)(hw:w<=ds.length):val ds / 4294967296^w=val (ds.drop w):=by
 have e:val ds=val (ds.take w++ds.drop w):=by rw [Qv9]
 grind [h_,hd.take,eW,Nat.add_mul_div_left,Nat.div_eq_of_lt]
theorem lead2 (h:(ah R).length=n+2):R / 4294967296^n=(ah R)[n+1]'(by omega)*4294967296+(ah R)[n]'(by omega):=by grind [xw,aL,af,List.drop_eq_getElem_cons,bM,fZ]
theorem Ws (h:(ah R).length=n+1):R / 4294967296^n=(ah R)[n]'(by omega):=by grind [xw,aL,af,List.drop_eq_getElem_cons,bM,fZ]
theorem lead0 (h:(ah R).length<=n):R / 4294967296^n=0:=Qj9 (aM.1 h)
theorem Lg (h:(ah V).length=n+1):(ah V)[n]'(by omega)*4294967296^n<=V:=by
 have:=Ws h;rw [←this];exact Nat.div_mul_le_self _ _
theorem Qn {R V top P W:Nat}(hV:top*P<=V)(ht:0<top)(hP:0<P)(hW:0<W):R / (V*W)<=R / (P*W) / top:=by
 rw [Qt2 ht,Qt2 (Wy6 hP hW)];have a:R / (V*W)*(V*W)<=R:=Nat.div_mul_le_self _ _;have b:R / (V*W)*(top*P*W)<=R / (V*W)*(V*W):=Qz7 _ (Qw0 _ hV);grind
theorem Oc {A D q R':Nat}(h:A=V*(W*4294967296*D)+R)(hq:R=V*q*W+R'):A=V*(W*(q+4294967296*D))+R':=by
 subst hq;rw [h];grind
theorem QU {x y s Q:Nat}(h:x*2^s=y*2^s*Q+R)(hR:R<y*2^s):Q=x / y/\R / 2^s=x%y:=by
 have f:=Qk4 s
 have g:0<y:=by
  rcases Qy9 y with e|e
  ·subst e;simp at hR
  ·exact e
 have i:y*2^s*Q=(y*Q)*2^s:=by grind
 have b:y*Q<=x:=by
  rcases Qz2 x (y*Q) with a|a
  ·have:(x+1)*2^s<=y*Q*2^s:=Qw0 _ a;rw [Qk1] at this;omega
  ·exact a
 obtain ⟨d,rfl⟩:=Nat.exists_eq_add_of_le b;rw [Qk1] at h;have c:R=d*2^s:=by omega
 subst c;have j:d<y:=Nat.lt_of_mul_lt_mul_right hR;grind [Nat.mul_div_cancel,Nat.mul_add_div,Nat.div_eq_of_lt,Nat.mul_add_mod,Nat.mod_eq_of_lt]
theorem Wz (j:Nat):2^(32*j)=4294967296^j:=by rw [Ww0]
theorem Kt {g:Nat}(Za:0<V*W)(h:V*g*W<=R)(hq:R / (V*W)<=g):g=R / (V*W):=by
 have:g<=R / (V*W):=by
  rw [Qt2 Za];grind
 omega
theorem Qo {g:Nat}(Za:0<V*W)(h:R<V*g*W):R / (V*W)<g:=by
 rw [Qb0 Za];have:g*(V*W)=V*g*W:=by grind
 omega
theorem K1 {R V W:Nat}:R=V*(R / (V*W))*W+R%(V*W):=by grind [Nat.div_add_mod]
theorem ka {a b:Nat}:(ah (a*b)).length<=(ah a).length+(ah b).length:=by
 rw [aM,Qz8];have c:a<4294967296^(ah a).length:=aM.1 (Qq2 _);have d:b<4294967296^(ah b).length:=aM.1 (Qq2 _);exact Qt6 c d
theorem Ft (j:Nat):(ah (4294967296^j)).length<=j+1:=by
 rw [aM];exact Nat.pow_lt_pow_right (by omega) (by omega)
end Go.Big
namespace Go.Proofs.Tryz
open Go.Eng Go.Big
open Go.Value renaming slice→hF,tuple→qvZ,int→qvK
variable{V:View}{p q:OA}{R c e m n:Nat}
theorem rdG {ds:pz Nat}(h:RD V p n c ds){i:Int}{K:Int->Prop}(j d:Nat)(hj:i=j)(hn:ds[j]?=some d)
  (hK:K (d:Int)):(p.isSome=true)/\(0<=i/\i<(n:Int))/\∃x:Int,(∃a,ae p (i.toNat*1)=some a/\V.at a (qvK .u32 x))/\K x:=by
 have b:j<ds.length:=by
  rcases Qz2 j ds.length with h|h
  ·exact h
  ·rw [Qz6 h] at hn;cases hn
 refine h.rd j hj b ?_;rw [Qq1 b] at hn;cases hn;exact hK
theorem OK {W n:Nat}(h:(ah W).length=n+1:=by omega):∃top,(ah W)[n]?=some top/\top≠0/\top<4294967296/\top*4294967296^n<=W:=by
 refine ⟨(ah W)[n]'(by omega),Qq1 _,?_,(aL W).get _,Lg h⟩;have:=(jE W).last (by omega);simpa [h] using this
structure DI (A V L:Nat) (R:Nat) (j:Nat) (es:List Nat):Prop where
 len:es.length=L
 fy:cK es
 lt:R<V*4294967296^j
 eq:A=V*(4294967296^j*val (es.drop j))+R
theorem DI.step {A V L j:Nat}{es:pz Nat}(h:DI A V L R (j+1) es)(hj:j<L)(hV:0<V) :
  R / (V*4294967296^j)<4294967296/\DI A V L (R-V*(R / (V*4294967296^j))*4294967296^j) j (es.set j (R / (V*4294967296^j))):=by
 have c:0<4294967296^j:=Ww1 (by omega);have a:0<V*4294967296^j:=Wy6 hV c
 have b:R / (V*4294967296^j)<4294967296:=by
  rw [Qb0 a];have:=h.lt;rw [Qk8] at this
  have e:4294967296*(V*4294967296^j)=V*(4294967296^j*4294967296):=by
   generalize 4294967296^j=w;grind
  omega
 have d:=K1 (R:=R) (V:=V) (W:=4294967296^j);have hm:=Qj8 R a;have he:R-V*(R / (V*4294967296^j))*4294967296^j=R%(V*4294967296^j):=by omega
 refine ⟨b,⟨by simpa using h.len,h.fy.set _ _ b,by rw [he];exact hm,?_⟩⟩;have f:=h.len;rw [Qw4 (by simp;omega),Qf5,Qb2 (by omega),bM,he];exact Oc (by have:=h.eq;rwa [Qk8] at this) d
theorem Sf {V j:Nat}(h:R<V*4294967296^(j+1)):(ah R).length<=(ah V).length+j+1:=by
 have a:V*4294967296^(j+1)<=4294967296^(ah V).length*4294967296^(j+1):=Qw0 _ (Qr3 (aM.1 (Qq2 _)));rw [←Qz8] at a;have:=aM.2 (Qx5 h a);omega
theorem Up (h:(ah R).length<=n+2):R / 4294967296^n<18446744073709551616:=by
 rw [Qb0 (Ww1 (by omega))];have:=aM.1 h;rw [Qk8,Qk8] at this
 have e:4294967296^n*4294967296*4294967296=18446744073709551616*4294967296^n:=by
  generalize 4294967296^n=w;omega
 omega
theorem Ke {x y:Nat}(hx:RN V p n c x)(hy:RN V q m e y)(hm:(ah x).length<=274877906944)(hy0:0<y)(hle:(ah y).length<=(ah x).length) :
  aa prog 168 #[hF p n c,hF q m e] V λr V'=>∃p1 n1 c1 p2 n2 c2,r=qvZ #[hF p1 n1 c1,hF p2 n2 c2]/\RN V' p1 n1 c1 (x / y)/\RN V' p2 n2 c2 (x%y):=by
 have b1:=hx.len;have Ep:=hy.len
 have d1:0<m:=by
  rcases Qy9 m with h|h
  ·have:=bE.1 (Qw5.1 (Ep▸h));omega
  ·exact h
 have vc:=Jz p n c q m e V;have w1:i64.wrap ((m:Int)-1)=((m-1:Nat):Int):=by rw [au (by omega)];omega
 have w2:i64.wrap ((n:Int)-m)=((n-m:Nat):Int):=by rw [au (by omega)];omega
 have w3:i64.wrap (((n-m:Nat):Int)+1)=((n-m+1:Nat):Int):=by rw [au (by omega)];omega
 have w4:i64.wrap (((n-m+1:Nat):Int)-1)=((n-m:Nat):Int):=by rw [au (by omega)];omega
 simp only [w1,w2,w3,Qq0,w4,dW] at vc;obtain ⟨L,hL⟩:∃L,L=n-m+1:=⟨_,rfl⟩;rw [←hL] at vc;refine vc _ ?_;clear vc;refine hy.rd (m-1) rfl (by omega) λV1 T=>(iR _ ((aL y).get (by omega))).s ?_;rintro r V2 U rfl;have b2:dN ((ah y)[m-1]'(by omega))<=32:=lJ.2 (by have:=(aL y).get (i:=m-1) (by omega);omega);obtain ⟨s,hs⟩:∃s:Nat,(32:Int)-(dN ((ah y)[m-1]'(by omega)):Int)=s:=⟨32-dN ((ah y)[m-1]'(by omega)),by omega⟩;have Ue:s<=32:=by omega
 rw [hs];clear hs b2;refine ⟨_,rfl,λV3 l3=>(nR (hy.le (T.m (U.m l3))) (by omega) s).s ?_⟩;rintro r V4 l4 ⟨vp,d,vc,rfl,H⟩;rw [af] at H;refine ⟨_,_,_,rfl,λV5 l5=>(nR (hx.le (T.m (U.m (l3.m (l4.m l5))))) (by omega) s).s ?_⟩;rintro r V6 l6 ⟨rp,S,rc,rfl,hr⟩;rw [af] at hr
 replace H:=H.le (l5.m l6)
 have b3:=H.len;have X:=Qk4 s;have d2:2^s<=4294967296:=Qx2 (n:=2) (by omega) Ue;have Y:0<y*2^s:=Wy6 hy0 X;have d3:(ah (2^s)).length<=2:=aM.2 (by omega);have d4:d<=m+2:=by have:=ka (a:=y) (b:=2^s);omega
 have d5:0<d:=by
  rcases Qy9 d with h|h
  ·have:=bE.1 (Qw5.1 (b3▸h));omega
  ·exact h
 have I:DI (x*2^s) (y*2^s) L (x*2^s) L (List.replicate L 0):=by
  refine ⟨by simp,cK.rep _,?_,by simp⟩;have h1:x<4294967296^n:=by rw [b1];exact aM.1 (Qq2 _)
  have h2:4294967296^(m-1)<=y:=by rw [←wR];omega
  have v:4294967296^(m-1)*4294967296^L<=y*4294967296^L:=Qw0 _ h2;rw [←Qz8,show m-1+L=n from by omega] at v;have B:x*2^s<y*4294967296^L*2^s:=Qm4 (by omega) X
  have C:y*4294967296^L*2^s=y*2^s*4294967296^L:=by
   generalize 4294967296^L=w;grind
  omega
 have E:∀{Q R:Nat},x*2^s=y*2^s*Q+R->R<y*2^s->Q=x / y/\R / 2^s=x%y:=λh1 h2=>QU h1 h2;generalize x*2^s=A at *;generalize y*2^s=W at *;have w5:i64.wrap ((d:Int)-1)=((d-1:Nat):Int):=by rw [au (by omega)];omega
 simp only [w5,Qq0];refine ⟨_,_,_,rfl,?_⟩;have ⟨top,b4,b5,b6,J⟩:=OK (W:=W) (n:=d-1);refine rdG H (d-1) top rfl b4 ?_;have w6:u64.wrap (top:Int)=top:=bj (by omega);simp only [w6]
 refine ⟨by omega,by omega,by omega,λz V'=>∃R:Nat,RN V' z.1 z.2.1 z.2.2.1 R/\-1<=z.2.2.2.1/\z.2.2.2.1<L/\∃es:pz Nat,z.2.2.2.2=aK es/\DI A W L R (z.2.2.2.1+1).toNat es,λz=>(z.2.2.2.1+1).toNat,
  ⟨(rp,S,rc,((n-m:Nat):Int),aK (List.replicate L 0)),by (try dsimp only);and_intros<;>first|exact True.intro|rfl,A,hr,by (try dsimp only);omega,by (try dsimp only);omega,_,rfl,?_⟩,?_⟩
 ·(try dsimp only)
  rw [show (((n-m:Nat):Int)+1).toNat=L from by omega];exact I
 rintro ⟨rp,S,rc,j,vs⟩ V7 l7 ⟨R,K,b7,b8,es,rfl,o⟩;dsimp only at K b7 b8 o ⊢;have d6:=K.len;refine ⟨by trivial,λv=>?_,λv=>?_⟩
 ·have v:0<=j:=by simpa using v
  obtain ⟨j,rfl⟩:=Qw2 v;have o:DI A W L R (j+1) es:=o;have b9:j<L:=by omega
  have Z:=Sf o.lt;have ⟨hq,a0⟩:=o.step b9 Y;have w7:i64.wrap ((d:Int)+j)=((d-1+j+1:Nat):Int):=by rw [au (by omega)];omega
  have w8:i64.wrap (((d-1+j+1:Nat):Int)-1)=((d-1+j:Nat):Int):=by rw [au (by omega)];omega
  have w9:i64.wrap ((32:Int)*j)=((32*j:Nat):Int):=by rw [au (by omega)];omega
  have c0:i64.wrap ((j:Int)-1)=(j:Int)-1:=au (by omega);simp only [w7,w8,w9,c0,Qq0];have Z:(ah R).length<=d-1+j+2:=by omega
  have c3:=Up Z;have hP:0<4294967296^(d-1):=Ww1 (by omega);have hW:0<4294967296^j:=Ww1 (by omega);have hg:=Qn (R:=R) J (by omega) hP hW;rw [←Qz8] at hg;have U:=@lead2 R (d-1+j);have T:=@Ws R (d-1+j);have l0:=@lead0 R (d-1+j);have l:∀i (hi:i<(ah R).length),(ah R)[i]<4294967296:=λi hi=>(aL R).get hi;generalize R / 4294967296^(d-1+j)=lead at *;refine ⟨λz V'=>z=(lead:Int),⟨λB=>?_,λB=>?_⟩,?_⟩
  ·have B:d-1+j+1<S:=by simp at B;omega
   refine (K.rd (d-1+j+1) rfl (by omega) ⟨by omega,K.rd (d-1+j) rfl (by omega) ⟨(lead:Int),?_,rfl⟩⟩)
   have e4:bW .or .u64 (u64.wrap (u64.wrap (((ah R)[d-1+j+1]'(by omega):Nat):Int)*2^32)) (u64.wrap (((ah R)[d-1+j]'(by omega):Nat):Int))=(lead:Int):=by
    have e3:((2:Int)^32)=4294967296:=by decide
    have g1:=l (d-1+j+1) (by omega);have g2:=l (d-1+j) (by omega);have:=U (by omega);rw [e3,bj (x:=(((ah R)[d-1+j+1]'(by omega):Nat):Int)) (by omega),bj (x:=(((ah R)[d-1+j]'(by omega):Nat):Int)) (by omega),bj (by omega),Is _ _ g1 g2,this];omega
   (try dsimp only);and_intros<;>first|exact True.intro|exact e4|rfl
  ·have B:S<=d-1+j+1:=by simp at B;omega
   refine ⟨λz V'=>z=(lead:Int),⟨λC=>?_,λC=>?_⟩,?_⟩
   ·have C:d-1+j<S:=by simp at C;omega
    refine K.rd (d-1+j) rfl (by omega) ⟨(lead:Int),?_,rfl⟩
    have e4:u64.wrap (((ah R)[d-1+j]'(by omega):Nat):Int)=(lead:Int):=by
     have g2:=l (d-1+j) (by omega);rw [bj (by omega),T (by omega)]
    (try dsimp only);and_intros<;>first|exact True.intro|exact e4|rfl
   ·have C:S<=d-1+j:=by simp at C;omega
    have e4:(0:Int)=(lead:Int):=by rw [l0 (by omega)];rfl
    refine ⟨(lead:Int),?_,rfl⟩
    (try dsimp only);and_intros<;>first|exact True.intro|exact e4|rfl
   ·rintro _ V8 l8 rfl;refine ⟨by trivial,(lead:Int),?_,rfl⟩
    (try dsimp only);and_intros<;>first|exact True.intro|rfl
  rintro _ V9 l9 rfl;clear U T l0 l;have F:(lead:Int).tdiv (top:Int)=((lead / top:Nat):Int):=by rw [Qj2 (by omega)];omega
  have c4:lead / top<=lead:=Qm5 _ _;rw [F];generalize lead / top=lt at *
  obtain ⟨D,a1,XV,a2⟩:∃D:Nat,cI (u64.wrap (lt:Int)) 4294967295=(D:Int)/\D<4294967296/\R / (W*4294967296^j)<=D:=by
   rw [bj (by omega)];unfold cI;split
   ·exact ⟨4294967295,rfl,by omega,by omega⟩
   ·exact ⟨lt,rfl,by omega,hg⟩
  rw [a1];clear a1 F c4 hg c3;have a3:0<W*4294967296^j:=Wy6 Y hW;have u:∀g:Nat,g<4294967296->(ah g).length<=1:=λg hg=>aM.2 (by omega);refine ⟨by trivial,by omega,λfQ t=>(fI D).s ?_⟩;rintro r fD bq ⟨gp,gn,gc,rfl,c5⟩;refine ⟨_,_,_,rfl,λgS M=>(dm (H.le (l7.m (l9.m (t.m (bq.m M))))) (c5.le M) (by have:=u D XV;omega)).s ?_⟩;rintro r j7 bU ⟨pp,pn,pc,rfl,a4⟩;rw [af,af] at a4;have N:=λg=>ka (a:=W) (b:=g);refine ⟨_,_,_,rfl,λlB cz=>(nR (a4.le cz) (by have:=u D XV;have:=N D;omega) (32*j)).s ?_⟩;rintro r jI cE ⟨tp,tn,tc,rfl,a5⟩;rw [af,Wz] at a5;have G:=K.le (l9.m (t.m (bq.m (M.m (bU.m (cz.m cE))))));have a6:=H.le (l7.m (l9.m (t.m (bq.m (M.m (bU.m (cz.m cE)))))))
  refine ⟨_,_,_,rfl,λz V'=>∃g:Nat,z.1=g/\g<4294967296/\R / (W*4294967296^j)<=g/\RN V' z.2.1 z.2.2.1 z.2.2.2 (W*g*4294967296^j),λz=>z.1.toNat,
   ⟨((D:Int),tp,tn,tc),by (try dsimp only);and_intros<;>first|exact True.intro|rfl,D,rfl,XV,a2,a5⟩,?_⟩
  rintro ⟨_,tp,tn,tc⟩ lH cq ⟨g,rfl,c6,c7,ht⟩;dsimp only at ht ⊢
  have c8:(ah (W*g*4294967296^j)).length<=1099511627776:=by
   have h1:=ka (a:=W*g) (b:=4294967296^j);have h2:=Ft j;have v:=N g;have B:=u g c6;omega
  refine ⟨by trivial,λlC b_=>(iW (ht.le b_) (G.le (cq.m b_)) c8).s ?_⟩;rintro r mE cj rfl;refine ⟨_,rfl,λf=>?_,λf=>?_⟩
  ·have f:R<W*g*4294967296^j:=by
    have f:0<mi (W*g*4294967296^j) R:=by simpa using f
    unfold mi at f;split at f
    ·omega
    ·split at f
     ·assumption
     ·omega
   have c9:=Qo a3 f;have d7:0<g:=Qn9 (Qq4 _) c9;have e1:u64.wrap ((g:Int)-1)=((g-1:Nat):Int):=by rw [bj (by omega)];omega
   simp only [e1];refine λpf du=>(fI (g-1)).s ?_;rintro r vh fl ⟨gp,gn,gc,rfl,d0⟩;refine ⟨_,_,_,rfl,λqB gi=>(dm (a6.le (cq.m (b_.m (cj.m (du.m (fl.m gi)))))) (d0.le gi) (by have:=u (g-1) (by omega);omega)).s ?_⟩;rintro r tC gV ⟨pp,pn,pc,rfl,a7⟩;rw [af,af] at a7;refine ⟨_,_,_,rfl,λrk ij=>(nR (a7.le ij) (by have:=u (g-1) (by omega);have:=N (g-1);omega) (32*j)).s ?_⟩;rintro r zk kt ⟨tp,tn,tc,rfl,a8⟩;rw [af,Wz] at a8;refine ⟨_,_,_,rfl,(((g-1:Nat):Int),tp,tn,tc),?_,by (try dsimp only);and_intros<;>first|exact True.intro|rfl,g-1,rfl,by omega,by omega,a8⟩
   (try dsimp only);omega
  ·have f:W*g*4294967296^j<=R:=by
    have f:¬0<mi (W*g*4294967296^j) R:=by simpa using f
    unfold mi at f;split at f
    ·omega
    ·split at f
     ·omega
     ·omega
   have O:=Kt a3 f c7;rw [←O] at a0;have d8:=o.len;refine ⟨⟨by omega,by omega⟩,by simp;omega,λCs lU=>(rW (G.le (cq.m (b_.m (cj.m lU)))) (ht.le (b_.m (cj.m lU))) (by omega) (aG f) (by rw [af,af];exact f)).s ?_⟩;rintro r JS oV ⟨np,nn,nc,rfl,a9⟩;rw [af,af] at a9;have e1:u32.wrap (g:Int)=(g:Int):=uO (by omega);have e2:(aK es).set (0+j*1) (qvK .u32 (g:Int))=aK (es.set j g):=by rw [←bQ];simp
   simp only [e1];refine ⟨_,_,_,rfl,(np,nn,nc,(j:Int)-1,aK (es.set j g)),?_,by (try dsimp only);and_intros<;>first|exact True.intro|rfl|exact e2|(rw [←bQ];simp),R-W*g*4294967296^j,a9,by (try dsimp only);omega,by (try dsimp only);omega,_,rfl,?_⟩
   ·(try dsimp only);omega
   ·(try dsimp only)
    rw [show ((j:Int)-1+1).toNat=j from by omega];exact a0
 ·have v:j=-1:=by simp at v;omega
  subst v
  have b0:(ah R).length<=1099511627776:=by
   have f:=o.lt;have f:R<W:=by simpa using f
   have:=aG (Qr3 f);omega
  intro V8 l8 bk hb;refine (er (RD.a_ hb o.fy (n:=L) (c:=L) o.len.symm (Qq2 _)) (by have:=o.len;omega)).s ?_;rintro r V9 l9 ⟨k,rfl,B⟩;refine ⟨_,_,_,rfl,λ_ fQ t=>(Hn (K.le (l8.m (l9.m t))) b0 s).s ?_⟩;rintro r fD bq ⟨p2,n2,c2,rfl,C⟩;rw [af] at C;refine ⟨_,_,_,rfl,λgS M=>⟨_,_,_,_,_,_,rfl,?_,?_⟩⟩
  ·have f:=o.lt;have P:=o.eq;have f:R<W:=by simpa using f
   have P:A=W*val es+R:=by simpa using P
   have ⟨g1,g2⟩:=E P f;rw [aY o.fy,g1] at B;exact B.le (t.m (bq.m M))
  ·have f:=o.lt;have P:=o.eq;have f:R<W:=by simpa using f
   have P:A=W*val es+R:=by simpa using P
   have ⟨g1,g2⟩:=E P f;rw [g2] at C;exact C.le M
theorem va {x:Nat}(h:(ah x).length<=2:=by omega):x<18446744073709551616:=by
 have:=aM.1 h;omega
theorem copied {b:Nat}{ds:pz Nat}{sp:pz un}{ty:TypeId}(hd:cK ds)(hn:n=ds.length)(hc:n<=c)(hb:V.a_ b (.cells (aK ds++sp).toArray ty (0,0))):RD V (some ⟨b,0,none⟩) n c ds:=by
 refine ⟨hn,hc,λi v a=>⟨_,rfl,?_⟩,hd,λe=>nomatch e⟩;rw [add_zero'];refine dF hb ?_;rw [Qx1]
 ·exact a
 ·rcases Qz2 i (aK ds).length with e|e
  ·exact e
  ·rw [Qz6 e] at a;cases a
theorem fU {x y:Nat}(hx:RN V p n c x)(hy:RN V q m e y)(hm:(ah x).length<=274877906944)(hm':(ah y).length<=274877906944)(hy0:0<y) :
  aa prog 121 #[hF p n c,hF q m e] V λr V'=>∃p1 n1 c1 p2 n2 c2,r=qvZ #[hF p1 n1 c1,hF p2 n2 c2]/\RN V' p1 n1 c1 (x / y)/\RN V' p2 n2 c2 (x%y):=by
 have j:=hx.len;have Ep:=hy.len
 have a0:0<m:=by
  rcases Qy9 m with h|h
  ·have:=bE.1 (Qw5.1 (Ep▸h));omega
  ·exact h
 refine Dl V _ λV1 u=>(nT (hx.le u)).s ?_;rintro r V2 G rfl;rw [af];refine ⟨_,_,rfl,λz V'=>True,⟨λa=>?_,λa=>⟨(),by (try dsimp only);and_intros<;>first|exact True.intro|rfl,trivial⟩⟩,?_⟩
 ·have a:n<=2:=by simpa using a
  refine λV3 l3=>(nT (hy.le (u.m (G.m l3)))).s ?_;rintro r V4 l4 rfl;rw [af];refine ⟨_,_,rfl,λf=>?_,λf=>⟨(),by (try dsimp only);and_intros<;>first|exact True.intro|rfl,trivial⟩⟩;have f:m<=2:=by simpa using f
  have a1:=va (x:=x);have a2:=va (x:=y);rw [if_pos a,if_pos f];have hq:x / y<=x:=Qm5 _ _;have hr:x%y<y:=Qj8 _ hy0;have H:((x:Nat):Int).tdiv (y:Int)=((x / y:Nat):Int):=by rw [Qj2 (by omega)];omega
  have I:((x:Nat):Int).tmod (y:Int)=((x%y:Nat):Int):=by rw [Qk2 (by omega)];omega
  rw [H,I];generalize x / y=qq at *;generalize x%y=rr at *;have K:u64.wrap (qq:Int)=qq:=bj (by omega);rw [K];refine ⟨by omega,by omega,λV5 l5=>(fI qq).s ?_⟩;rintro r V6 l6 ⟨p1,n1,c1,rfl,L⟩;refine ⟨_,_,_,rfl,λV7 l7=>(fI rr).s ?_⟩;rintro r V8 l8 ⟨p2,n2,c2,rfl,M⟩;exact ⟨_,_,_,rfl,λV9 l9=>⟨_,_,_,_,_,_,rfl,L.le (l7.m (l8.m l9)),M.le l9⟩⟩
 rintro _ fQ w _
 replace hx:=hx.le (u.m (G.m w))
 replace hy:=hy.le (u.m (G.m w))
 refine ⟨by trivial,λfD D=>(iW (hx.le D) (hy.le D) (by omega)).s ?_⟩;rintro r gS bS rfl
 replace hx:=hx.le (D.m bS)
 replace hy:=hy.le (D.m bS)
 refine ⟨_,rfl,λa=>⟨aK (ah x),hx.sl,by simp [j],by omega,by omega,by simp,by simp [j],?_,?_⟩,λa=>⟨λf=>?_,λf=>?_⟩⟩
 ·intro v g;simp only [aK,Qz0] at g;obtain ⟨d,-,rfl⟩:=g;rfl
 ·have a:x<y:=by simpa [iB] using a
  intro bk J sp c' f h2 V1 u b E;rw [Qj9 a,Qy1 a];refine qyW ⟨rfl,RD.nil,?_⟩;simp only [Qz1,Qc1,Qd3,Qn0] at E f ⊢;exact copied (aL x) j f E
 ·have a:y<=x:=by simpa [←Wq7,iB] using a
  have f:m=1:=by simp at f;omega
  subst f;have ⟨d,F⟩:=ou (ds:=ah y);have N:d=y:=by have:=af y;rw [F] at this;simpa using this
  subst N;have O:d<4294967296:=by have:=aL d;rw [F] at this;exact (cK.cons.1 this).1
  try unfold RN at hy
  rw [F] at hy;have a3:0<n:=by have:=aG a;omega
  have w1:i64.wrap ((n:Int)-1)=(n:Int)-1:=au (by omega);simp only [w1,Qq0,dW];have Cl:=aL x;have A:=af x;try unfold RN at hx
  clear F;rw [←A];clear A a;generalize ah x=xs at *
  refine ⟨by omega,by omega,by omega,λz V'=>0<=z.1/\z.1<d/\-1<=z.2.1/\z.2.1<n/\∃es:pz Nat,z.2.2=aK es/\es.length=n/\cK es /\
   val (xs.drop (z.2.1+1).toNat)=d*val (es.drop (z.2.1+1).toNat)+z.1.toNat,λz=>(z.2.1+1).toNat,
   ⟨(0,(n:Int)-1,aK (List.replicate n 0)),by (try dsimp only);and_intros<;>first|exact True.intro|rfl,by (try dsimp only);omega,by (try dsimp only);omega,by (try dsimp only);omega,by (try dsimp only);omega,_,rfl,by simp,cK.rep _,?_⟩,?_⟩
  ·(try dsimp only)
   rw [Qx7 (by omega),Qx7 (by simp)];rfl
  rintro ⟨rest,i,vs⟩ lB P ⟨B,Q,R,S,es,rfl,T,o,g⟩;dsimp only at B Q R S g ⊢;obtain ⟨rest,rfl⟩:=Qw2 B;refine ⟨by trivial,λs=>?_,λs=>?_⟩
  ·have s:0<=i:=by simpa using s
   obtain ⟨i,rfl⟩:=Qw2 s;have U:((i:Int)+1).toNat=i+1:=by omega
   rw [U] at g;simp only [Qq0] at g ⊢;have C:=Cl.get (i:=i) (by omega);refine (hx.le P).rd i rfl (by omega) (ID (hy.le P) (by simp) λjI W=>(Tx rest xs[i] d (by omega) C O).s ?_);rintro r lH cq rfl
   have hq:(rest*4294967296+xs[i]) / d<4294967296:=by
    rw [Qb0 (by omega)];have:rest+1<=d:=by omega
    have:=Qw0 4294967296 this;rw [Qv4 4294967296 d];omega
   have hr:(rest*4294967296+xs[i])%d<d:=Qj8 _ (by omega);have Ku:=Qc3 (rest*4294967296+xs[i]) d;generalize (rest*4294967296+xs[i]) / d=q at *;generalize (rest*4294967296+xs[i])%d=r at *;have w2:i64.wrap ((i:Int)-1)=(i:Int)-1:=au (by omega);simp only [w2];refine ⟨_,_,rfl,⟨by omega,by omega⟩,by simp;omega,((r:Int),(i:Int)-1,aK (es.set i q)),?_,?_,?_⟩
   ·(try dsimp only);omega
   ·(try dsimp only);and_intros<;>first|exact True.intro|rfl|(rw [←bQ];simp)
   ·(try dsimp only)
    refine ⟨by omega,by omega,by omega,by omega,_,rfl,by simpa using T,o.set _ _ (by omega),?_⟩;have X:((i:Int)-1+1).toNat=i:=by omega
    rw [X,Qw4 (by omega),Qw4 (l:=es.set i q) (by simp;omega),Qf5,Qb2 (by omega)];have h9:xs[i]+4294967296*val (List.drop (i+1) xs)=d*(q+4294967296*val (List.drop (i+1) es))+r:=Bi g Ku;rw [bM,bM,Qq0];exact h9
  ·have s:i=-1:=by simp at s;omega
   subst s;simp only [Qq0] at g;have g:val xs=d*val es+rest:=by simpa using g
   intro lC b_ bk E;refine (er (RD.a_ E o (n:=n) (c:=n) (by omega) (Qq2 _))).s ?_;rintro r mE cj ⟨k,rfl,h4⟩;refine ⟨_,_,_,rfl,λ_ pf du Y t=>?_⟩
   have t:pf.a_ Y (.cells (aK [rest]).toArray 216 (0,0)):=by
    simpa [aK] using t
   refine (er (RD.a_ t (n:=1) (c:=1) (by simp [cK];omega) rfl (Qq2 _)) (by simp)).s ?_;rintro r vh fl ⟨k2,rfl,Z⟩;refine ⟨_,_,_,rfl,λ_ qB gi=>⟨_,_,_,_,_,_,rfl,?_,?_⟩⟩
   ·have H:val xs / d=val es:=by rw [g,Wz8 (by omega),Qj9 (by omega),Qj1]
    rw [aY o] at h4;rw [H];exact h4.le (du.m (fl.m gi))
   ·have I:val xs%d=rest:=by rw [g,Wz9,Qy1 (by omega)]
    rw [aY (by simp [cK];omega)] at Z;have K:val [rest]=rest:=by simp
    rw [K] at Z;rw [I];exact Z.le gi
 ·have a:y<=x:=by simpa [←Wq7,iB] using a
  refine λj7 bU=>(Ke (hx.le bU) (hy.le bU) hm hy0 (aG a)).s ?_;rintro r lB P ⟨p1,n1,c1,p2,n2,c2,rfl,L,M⟩;exact qyW ⟨rfl,λjI W=>⟨_,_,_,_,_,_,rfl,L.le W,M.le W⟩⟩
theorem iA {x y:Nat}(hx:RN V p n c x)(hy:RN V q m e y)(hm:(ah x).length<=274877906944)(hm':(ah y).length<=274877906944:=by omega) :
  aa prog 58 #[hF p n c,hF q m e] V λr V'=>∃p1 n1 c1,r=hF p1 n1 c1/\RN V' p1 n1 c1 (Nat.gcd x y):=by
 have M:=hx.len;have Ep:=hy.len;refine Dk V _ λN t=>(nT (hx.le t)).s ?_;rintro r V2 B rfl;rw [af];refine ⟨_,_,rfl,λz V'=>True,⟨λw=>?_,λw=>⟨(),by (try dsimp only);and_intros<;>first|exact True.intro|rfl,trivial⟩⟩,?_⟩
 ·have w:n<=2:=by simpa using w
  refine λV3 O=>(nT (hy.le (t.m (B.m O)))).s ?_;rintro r V4 l4 rfl;rw [af];refine ⟨_,_,rfl,λj=>?_,λj=>⟨(),by (try dsimp only);and_intros<;>first|exact True.intro|rfl,trivial⟩⟩;have j:m<=2:=by simpa using j
  have C:=va (x:=x);have D:=va (x:=y);rw [if_pos w,if_pos j]
  refine ⟨λz V'=>∃a b:Nat,z=((a:Int),(b:Int))/\a<18446744073709551616/\b<18446744073709551616/\Nat.gcd a b=Nat.gcd x y,λz=>z.2.toNat,
   ⟨((x:Int),(y:Int)),by (try dsimp only);and_intros<;>first|exact True.intro|rfl,x,y,rfl,C,D,rfl⟩,?_⟩
  rintro _ V5 l5 ⟨a,b,rfl,s,g,l⟩;dsimp only;refine ⟨by trivial,λf=>?_,λf=>?_⟩
  ·have f:0<b:=by simpa using f
   have P:(a:Int).tmod (b:Int)=((a%b:Nat):Int):=by rw [Qk2 (by omega)];omega
   have A:a%b<b:=Qj8 _ f;refine ⟨by omega,((b:Int),((a%b:Nat):Int)),?_,by (try dsimp only);and_intros<;>first|exact True.intro|rfl|exact P,b,a%b,rfl,g,by omega,?_⟩
   ·(try dsimp only);simp only [Qq0];exact A
   ·rw [←l,Qd4 a b,Nat.gcd_rec b a,Qd4]
  ·have f:b=0:=by simp at f;omega
   subst f;rw [Qf6] at l;refine λV6 l6=>(fI a s).s ?_;rintro r V7 l7 ⟨p1,n1,c1,rfl,E⟩;rw [l] at E;exact ⟨_,_,_,rfl,λV8 Q=>⟨_,_,_,rfl,E.le Q⟩⟩
 rintro _ V9 K _
 replace hx:=hx.le (t.m (B.m K))
 replace hy:=hy.le (t.m (B.m K))
 refine ⟨by trivial,λz k V'=>∃a b:Nat,RN V' z.1 z.2.1 z.2.2.1 a/\RN V' z.2.2.2.1 z.2.2.2.2.1 z.2.2.2.2.2 b/\b=k/\(ah a).length<=274877906944/\(ah b).length<=274877906944/\Nat.gcd a b=Nat.gcd x y,
  ⟨(p,n,c,q,m,e),y,by (try dsimp only);and_intros<;>first|exact True.intro|rfl,x,y,hx,hy,rfl,hm,hm',rfl⟩,?_⟩
 rintro ⟨ap,an,ac,R,F,S⟩ _ fQ T ⟨a,b,s,g,rfl,G,u,l⟩;dsimp only at s g ⊢;have o:=s.len;have H:=g.len;refine ⟨by trivial,λf=>?_,λf=>?_⟩
 ·have f:0<F:=by simpa using f
  have i:0<b:=by
   rcases Qy9 b with h|h
   ·subst h;simp at H;omega
   ·exact h
  refine λfD I=>(fU (s.le I) (g.le I) G u i).s ?_;rintro r gS U ⟨p1,n1,c1,W,X,Y,rfl,E,Z⟩;have A:a%b<b:=Qj8 _ i;have a0:=aG (Qr3 A);refine qyW ⟨rfl,(R,F,S,W,X,Y),a%b,A,by (try dsimp only);and_intros<;>first|exact True.intro|rfl,b,a%b,g.le (I.m U),Z,rfl,u,by omega,?_⟩;rw [←l,Qd4 a b,Nat.gcd_rec b a,Qd4]
 ·have f:F=0:=by simp at f;omega
  have i:b=0:=bE.1 (Qw5.1 (by omega));subst i;rw [Qf6] at l;rw [←l];refine ⟨aK (ah a),s.sl,by simp [o],by omega,by omega,by simp,by simp [o],?_,?_⟩
  ·intro v L;simp only [aK,Qz0] at L;obtain ⟨d,-,rfl⟩:=L;rfl
  ·intro bk J sp c' j h2 N t b g;refine ⟨_,_,_,rfl,?_⟩;simp only [Qz1,Qc1,Qd3,Qn0] at g j ⊢;exact copied (aL a) o j g
end Go.Proofs.Tryz
