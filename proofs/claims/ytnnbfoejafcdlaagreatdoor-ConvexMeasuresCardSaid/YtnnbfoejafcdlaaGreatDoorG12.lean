import Derived.Test.YtnnbfoejafcdlaaGreatDoorG11
import Derived.Test.YtnnbfoejafcdlaaGreatDoorG7
import Derived.Test.YtnnbfoejafcdlaaGreatDoorG5
import Derived.Test.YtnnbfoejafcdlaaGreatDoorG9
set_option linter.unusedVariables false
open Go.IntKind (i64 u64 u32)
namespace Go.Proofs.Tryz
open Go.bM Go.fR
theorem mkRat_one (z:Int):mkRat z 1=(z:Rat):=by
 apply Rat.ext
 ·rw [Rat.num_mkRat];simp
 ·rw [Rat.den_mkRat];simp
theorem RD.one {V:View}{bk:Nat}{ty:TypeId}{m:Nat×Nat}(h:V.bI bk (.cells #[.int .u32 1] ty m)):RD V (some ⟨bk,0,none⟩) 1 1 [1]:=
 RD.bI (ds:=[1]) h (by simp [bX]) rfl (Nat.le_refl _)
theorem lS {V:View}(b:Bool){p:OA}{n c:Nat}{ds:List Nat}(h:RD V p n c ds)(hm:ds.length<=1099511627776) :
  ab prog 175 #[.agg #[.bool b,.slice p n c]] V fun r V'=>RR V' r (aY b ds:Rat):=by
 refine zx b p n c V _ fun j f k g=>(cF b (h.le f) (RD.one g) hm (by simp)).mono ?_
 rintro r V2 l a
 have e:mkRat (aY b ds) (val [1])=(aY b ds:Rat):=mkRat_one _
 rw [e] at a
 obtain ⟨n,d,p,rfl⟩:=a.shape
 exact ⟨_,_,_,rfl,fun _ m i=>a.le i⟩
theorem wm {z:Int}(h:z.natAbs<4611686018427387904):Wd (z:Rat):=⟨h,by show (1:Nat)<_;decide⟩
theorem gY {V:View}(n:Int)(h0:-9223372036854775808<=n)(h1:n<=9223372036854775807) :
  ab prog 143 #[.int .i64 n] V fun r V'=>RR V' r (n:Rat):=by
 have Ow:∀b:View,V.Le b->ab prog 187 #[.int .i64 n] b fun f V2=>∃JQ:Bool,∃(Lq:OA)(K8 JX:Nat),f=.agg #[.bool JQ,.slice Lq K8 JX]/\(∀a:View,V2.Le a->∀Rx:Nat,a.bI Rx (.cells #[.int .u32 1] 188 (0,0))->ab prog 190 #[.agg #[.bool JQ,.slice Lq K8 JX],.slice (some ⟨Rx,0,none⟩) 1 1] a fun h l=>∃x4_:Int,∃x5_:Int,∃p6_:OA,h=.agg #[.int .i64 x4_,.int .i64 x5_,.pointer p6_]/\∀J7_:C->Value,(∀V5:View,l.Le V5->RR V5 (.agg #[.int .i64 x4_,.int .i64 x5_,.pointer p6_]) (n:Rat))):=by
  intro b o
  refine (j8 n h0 h1).mono ?_
  rintro r V2 u ⟨p,m,c,rfl,g⟩
  refine ⟨_,_,_,_,rfl,fun a i v q=>(cF _ (g.le i) (RD.one q) (Nat.le_trans (af (k:=64) (by omega)) (by omega)) (by simp)).mono ?_⟩
  rintro r l w j
  have e:mkRat (aY (decide (n<0)) (ah n.natAbs)) (val [1])=(n:Rat):=by rw [aG];exact mkRat_one _
  rw [e] at j
  obtain ⟨n,d,p,rfl⟩:=j.shape
  exact ⟨_,_,_,rfl,fun _ a i=>j.le i⟩
 refine EW n V _ ⟨fun _=>Ow,fun s=>⟨fun _=>Ow,fun t b o=>.inl ⟨rfl,wm ?_⟩⟩⟩
 rw [decide_eq_false_iff_not] at s t
 omega
theorem eF {V:View}{v:Value}{q:Rat}(h:RR V v q){k:Nat}(hs:Sz k q)(hk:k<=1099511627776) :
  ab prog 137 #[v] V fun r V'=>r=.int .i64 q.num.sign:=by
 rcases h with ⟨rfl,hw⟩|⟨a,b,p,n,c,o,s,t,rfl,i,j,u,l,w,hw⟩
 ·refine nW _ _ _ V _ ⟨(fun e=>nomatch e),fun _=>⟨fun h f d=>?_,fun h=>⟨fun g f d=>?_,fun g f d=>?_⟩⟩⟩
  ·rw [Int.sign_eq_neg_one_of_neg (by simpa using h)]
  ·rw [Int.sign_eq_one_of_pos (by simpa using g)]
  ·have:q.num=0:=by rw [decide_eq_false_iff_not] at h g;omega
   rw [this];rfl
 ·obtain ⟨rfl,m⟩:=l.inv
  refine nW _ _ _ V _ ⟨fun _=>⟨rfl,rfl,decide (q.num<0),p,n,c,a.add 0,rfl,?_,?_,fun f d=>(ng _ (m.le d) (Nat.le_trans (af hs.1) hk)).mono ?_⟩,(fun e=>nomatch e)⟩
  ·exact i
  ·simpa [Addr.add] using j
  ·rintro r V2 x rfl
   rw [aG]
   exact ⟨_,rfl,fun y z=>rfl⟩
theorem vB {V:View}{v:Value}{q:Rat}(h:RR V v q):ab prog 176 #[v] V fun r V'=>r=.bool (decide (q=0)):=by
 rcases h with ⟨rfl,hw⟩|⟨a,b,p,n,c,i,j,k,rfl,l,m,o,s,t,hw⟩
 ·refine nX _ _ _ V _ ⟨fun _ f g=>?_,(fun d=>nomatch d)⟩
  congr 1
  rw [Bool.eq_iff_iff,beq_iff_eq,decide_eq_true_eq]
  exact Rat.num_eq_zero
 ·refine nX _ _ _ V _ ⟨(fun d=>nomatch d),fun _ f g=>?_⟩
  congr 1
  symm;rw [decide_eq_false_iff_not]
  intro e;subst e;exact hw ⟨by decide,by decide⟩
theorem oe {V:View}{v:Value}{q:Rat}(h:RR V v q){k:Nat}(hs:Sz k q)(hk:k<=1099511627776) :
  ab prog 148 #[v] V fun r V'=>RR V' r (-q):=by
 rcases h with ⟨rfl,hw⟩|⟨a,b,p,n,c,i,j,l,rfl,s,t,u,w,x,hw⟩
 ·have:=hw.1
  refine oY _ _ _ V _ ⟨(fun d=>nomatch d),fun _ y e=>.inl ⟨?_,by unfold Wd;rw [Rat.neg_num,Rat.neg_den,Int.natAbs_neg];exact hw⟩⟩
  rw [ay (by omega),Rat.neg_num,Rat.neg_den,Int.zero_sub]
 ·obtain ⟨rfl,z⟩:=w.inv
  refine oY _ _ _ V _ ⟨fun _=>⟨rfl,rfl,decide (q.num<0),p,n,c,a.add 0,rfl,?_,?_,rfl,rfl,i,j,l,⟨_,rfl,u⟩,fun y e=>(yI _ (z.le e) (Nat.le_trans (af hs.1) hk)).mono ?_⟩,(fun d=>nomatch d)⟩
  ·exact s
  ·simpa [Addr.add] using t
  ·rintro r V2 A m
   rw [aG] at m
   obtain ⟨B,C,D,rfl,g⟩:=m
   refine ⟨_,_,_,_,rfl,fun F o E f=>.inr ⟨⟨E,0,none⟩,decide (-q.num<0),B,C,D,i,j,l,rfl,?_,?_,?_,?_,?_,?_⟩⟩
   ·rw [add_zero'];exact gH (xs:=[_,_,_]) f rfl
   ·rw [add_zero'];exact gH (xs:=[_,_,_]) f rfl
   ·rw [add_zero'];exact gH (xs:=[_,_,_]) f rfl
   ·exact ⟨_,_,_,rfl,g.le o⟩
   ·exact x.le (e.trans (A.trans o))
   ·unfold Wd;rw [Rat.neg_num,Rat.neg_den,Int.natAbs_neg];exact hw
theorem _root_.Go.bM.Sz.neg {k:Nat}{q:Rat}(h:Sz k q):Sz k (-q):=by unfold Sz;rw [Rat.neg_num,Rat.neg_den,Int.natAbs_neg];exact h
theorem wO (z:Int)(g:Nat)(h:(g:Int)∣z):(z / g).natAbs<=z.natAbs:=by
 rw [Int.natAbs_ediv_of_dvd h,Int.natAbs_natCast];exact Nat.div_le_self _ _
theorem _root_.Go.bM.Sz.mkRat {k:Nat}{z:Int}{d:Nat}(h1:z.natAbs<2^k)(h2:d<2^k)(hk:0<k):Sz k (mkRat z d):=by
 have a:1<2^k:=Nat.one_lt_two_pow (by omega)
 unfold Sz
 rw [Rat.num_mkRat,Rat.den_mkRat]
 split
 ·exact ⟨Nat.two_pow_pos k,a⟩
 ·refine ⟨Nat.lt_of_le_of_lt (wO _ _ (Int.ofNat_dvd_left.2 (Nat.gcd_dvd_right _ _))) h1,Nat.lt_of_le_of_lt (Nat.div_le_self _ _) h2⟩
theorem bP {a b k m:Nat}(h1:a<2^k)(h2:b<2^m):a*b<2^(k+m):=by rw [Nat.pow_add];exact Nat.mul_lt_mul'' h1 h2
theorem vg {x y:Rat}{k m:Nat}(hx:Sz k x)(hy:Sz m y):(x.num*y.den).natAbs<2^(k+m)/\(y.num*x.den).natAbs<2^(k+m)/\(x.num*y.den+y.num*x.den).natAbs<2^(k+m+1)/\x.den*y.den<2^(k+m):=by
 have a:(x.num*y.den).natAbs<2^(k+m):=by rw [Int.natAbs_mul,Int.natAbs_natCast];exact bP hx.1 hy.2
 have b:(y.num*x.den).natAbs<2^(k+m):=by rw [Int.natAbs_mul,Int.natAbs_natCast,Nat.add_comm];exact bP hy.1 hx.2
 refine ⟨a,b,?_,bP hx.2 hy.2⟩
 rw [Nat.pow_succ];omega
theorem _root_.Go.bM.Sz.add {x y:Rat}{k m:Nat}(hx:Sz k x)(hy:Sz m y):Sz (k+m+1) (x+y):=by
 obtain ⟨-,-,a,b⟩:=vg hx hy
 rw [Rat.add_def']
 exact Go.bM.Sz.mkRat a (Nat.lt_of_lt_of_le b (Nat.pow_le_pow_right (by omega) (by omega))) (by omega)
theorem _root_.Go.bM.Sz.sub {x y:Rat}{k m:Nat}(hx:Sz k x)(hy:Sz m y):Sz (k+m+1) (x-y):=by
 rw [Rat.sub_eq_add_neg];exact hx.add hy.neg
theorem _root_.Go.bM.Sz.mul {x y:Rat}{k m:Nat}(hx:Sz k x)(hy:Sz m y):Sz (k+m+1) (x*y):=by
 rw [Rat.mul_def']
 refine (Go.bM.Sz.mkRat (k:=k+m+1) ?_ ?_ (by omega))
 ·rw [Int.natAbs_mul];exact Nat.lt_of_lt_of_le (bP hx.1 hy.1) (Nat.pow_le_pow_right (by omega) (by omega))
 ·exact Nat.lt_of_lt_of_le (bP hx.2 hy.2) (Nat.pow_le_pow_right (by omega) (by omega))
theorem jZ {V:View}{v w:Value}{x y:Rat}(hx:RR V v x)(hy:RR V w y){k m:Nat}(hk:Sz k x)(hm:Sz m y)(hkm:k+m<1099511627776) :
  ab prog 182 #[v,w] V fun r V'=>RR V' r (x+y):=by
 obtain ⟨O,P,Q,rfl⟩:=hx.shape
 obtain ⟨R,s1,s2,rfl⟩:=hy.shape
 have l:x+y=mkRat (x.num*y.den+y.num*x.den) (x.den*y.den):=Rat.add_def' x y
 obtain ⟨b1,b2,b3,b4⟩:=vg hk hm
 have gen:(∀UZ:View,V.Le UZ->ab prog 140 #[.agg #[.int .i64 O,.int .i64 P,.pointer Q]] UZ fun Xu U0=>∃Rq:Bool,∃(Lr:OA)(K9 JY:Nat),Xu=.agg #[.bool Rq,.slice Lr K9 JY]/\(∀Ui:View,U0.Le Ui->ab prog 141 #[.agg #[.int .i64 R,.int .i64 s1,.pointer s2]] Ui fun Xv YB=>∃(Tu:OA)(S_ RB:Nat),Xv=.slice Tu S_ RB/\(∀U1:View,YB.Le U1->ab prog 214 #[.agg #[.bool Rq,.slice Lr K9 JY],.agg #[.bool false,.slice Tu S_ RB]] U1 fun Xw YC=>∃Rr:Bool,∃(Ls:OA)(K_ JZ:Nat),Xw=.agg #[.bool Rr,.slice Ls K_ JZ]/\(∀U2:View,YC.Le U2->ab prog 140 #[.agg #[.int .i64 R,.int .i64 s1,.pointer s2]] U2 fun Xx YD=>∃Rs:Bool,∃(Tx:OA)(Tc RH:Nat),Xx=.agg #[.bool Rs,.slice Tx Tc RH]/\(∀YE:View,YD.Le YE->ab prog 141 #[.agg #[.int .i64 O,.int .i64 P,.pointer Q]] YE fun Xy YF=>∃(Lt:OA)(La J0:Nat),Xy=.slice Lt La J0/\(∀U3:View,YF.Le U3->ab prog 214 #[.agg #[.bool Rs,.slice Tx Tc RH],.agg #[.bool false,.slice Lt La J0]] U3 fun Xz YG=>∃Ru:Bool,∃(Lu:OA)(Lb J1:Nat),Xz=.agg #[.bool Ru,.slice Lu Lb J1]/\(∀U4:View,YG.Le U4->ab prog 213 #[.agg #[.bool Rr,.slice Ls K_ JZ],.agg #[.bool Ru,.slice Lu Lb J1]] U4 fun XA YH=>∃Rv:Bool,∃(TA:OA)(Tf RM:Nat),XA=.agg #[.bool Rv,.slice TA Tf RM]/\(∀YI:View,YH.Le YI->ab prog 141 #[.agg #[.int .i64 O,.int .i64 P,.pointer Q]] YI fun XB YJ=>∃(TB:OA)(Tg RO:Nat),XB=.slice TB Tg RO/\(∀U5:View,YJ.Le U5->ab prog 141 #[.agg #[.int .i64 R,.int .i64 s1,.pointer s2]] U5 fun XC YK=>∃(Lv:OA)(Th RT:Nat),XC=.slice Lv Th RT/\(∀U6:View,YK.Le U6->ab prog 209 #[.slice TB Tg RO,.slice Lv Th RT] U6 fun XD YL=>∃(TC:OA)(Ti RU:Nat),XD=.slice TC Ti RU/\(∀U7:View,YL.Le U7->ab prog 190 #[.agg #[.bool Rv,.slice TA Tf RM],.slice TC Ti RU] U7 fun XE YM=>∃T6:Int,∃T7:Int,∃TD:OA,XE=.agg #[.int .i64 T6,.int .i64 T7,.pointer TD]/\(∀U8:View,YM.Le U8->RR U8 (.agg #[.int .i64 T6,.int .i64 T7,.pointer TD]) (x+y))))))))))))):=by
  intro s f
  refine (fK (hx.le f) hk (by omega)).mono ?_
  rintro r V2 g ⟨p1,n1,c1,rfl,z⟩
  refine ⟨_,_,_,_,rfl,fun V3 i=>(eV (hy.le (f.trans (g.trans i))) hm (by omega)).mono ?_⟩
  rintro r V4 A ⟨p2,n2,c2,rfl,B⟩
  have q1:=af hk.1
  have q2:=af hk.2
  have q3:=af hm.1
  have q4:=af hm.2
  refine ⟨_,_,_,rfl,fun V5 t=>(ig _ false (z.le (i.trans (A.trans t))) (B.le t) (by omega)).mono ?_⟩
  rintro r V6 I h6
  rw [aG,pt,ae] at h6
  obtain ⟨p3,n3,c3,rfl,u⟩:=h6
  refine ⟨_,_,_,_,rfl,fun V7 C=>(fK (hy.le (f.trans (g.trans (i.trans (A.trans (t.trans (I.trans C))))))) hm (by omega)).mono ?_⟩
  rintro r V8 J ⟨p4,n4,c4,rfl,K⟩
  refine ⟨_,_,_,_,rfl,fun V9 D=>(eV (hx.le (f.trans (g.trans (i.trans (A.trans (t.trans (I.trans (C.trans (J.trans D))))))))) hk (by omega)).mono ?_⟩
  rintro r iI j ⟨p5,n5,c5,rfl,L⟩
  refine ⟨_,_,_,rfl,fun ie E=>(ig _ false (K.le (D.trans (j.trans E))) (L.le E) (by omega)).mono ?_⟩
  rintro r lL bY F
  rw [aG,pt,ae] at F
  obtain ⟨p6,n6,c6,rfl,g6⟩:=F
  have q5:=af b1
  have q6:=af b2
  refine ⟨_,_,_,_,rfl,fun o_ S=>(yH _ _ (u.le (C.trans (J.trans (D.trans (j.trans (E.trans (bY.trans S))))))) (g6.le S) (by omega) (by omega)).mono ?_⟩
  rintro r mJ c_ JD
  rw [aG,aG] at JD
  obtain ⟨p7,n7,c7,rfl,g7⟩:=JD
  have JK:=f.trans (g.trans (i.trans (A.trans (t.trans (I.trans (C.trans (J.trans (D.trans (j.trans (E.trans (bY.trans (S.trans c_))))))))))))
  refine ⟨_,_,_,_,rfl,fun lN T=>(eV (hx.le (JK.trans T)) hk (by omega)).mono ?_⟩
  rintro r kr cV ⟨p8,n8,c8,rfl,g8⟩
  refine ⟨_,_,_,rfl,fun mZ U=>(eV (hy.le (JK.trans (T.trans (cV.trans U)))) hm (by omega)).mono ?_⟩
  rintro r pe dF ⟨p9,n9,c9,rfl,g9⟩
  refine ⟨_,_,_,rfl,fun tj W=>(g_ (g8.le (U.trans (dF.trans W))) (g9.le W) (by omega)).mono ?_⟩
  rintro r yF gy ⟨HZ,a0,a1,rfl,G⟩
  rw [ae,ae] at G
  have q7:=af b3
  have q8:=af b4
  refine ⟨_,_,_,rfl,fun uJ fB=>(cF _ (g7.le (T.trans (cV.trans (U.trans (dF.trans (W.trans (gy.trans fB))))))) (G.le fB) (by omega) (by omega)).mono ?_⟩
  rintro r tm iF o
  rw [aG,ae,←l] at o
  obtain ⟨n,d,p,rfl⟩:=o.shape
  exact ⟨_,_,_,rfl,fun yx gT=>o.le gT⟩
 have lift:∀s:View,V.Le s->∀V2:View,s.Le V2->V.Le V2:=fun _ h _ h'=>h.trans h'
 rcases hx with ⟨ex,wx⟩|⟨a,b,p,n,c,p',n',c',ex,-,-,-,-,-,wx⟩
 ·rcases hy with ⟨H,wy⟩|⟨a,b,p,n,c,p',n',c',H,-,-,-,-,-,wy⟩
  ·simp only [Value.agg.injEq,Array.mk.injEq,List.cons.injEq,Value.int.injEq,Value.pointer.injEq,true_and,and_true] at ex H
   obtain ⟨rfl,rfl,rfl⟩:=ex
   obtain ⟨rfl,rfl,rfl⟩:=H
   obtain ⟨T0,a2⟩:=wx
   obtain ⟨T1,a3⟩:=wy
   have dx:=x.den_nz
   have dy:=y.den_nz
   have e1:i64.wrap ((x.den:Int)-1+1)=x.den:=by rw [ay (by omega)];omega
   have e2:i64.wrap ((y.den:Int)-1+1)=y.den:=by rw [ay (by omega)];omega
   refine kK _ _ _ _ _ _ V _ ⟨fun _=>⟨fun _ _=>True,⟨fun _=>⟨fun M=>⟨fun N s f=>?_,fun N=>?_⟩,fun M=>?_⟩,(fun h=>nomatch h)⟩,fun _ s f _=>⟨by trivial,fun V2 g=>gen V2 (f.trans g)⟩⟩,(fun h=>nomatch h)⟩
   ·have M:x.den=1:=by rw [beq_iff_eq] at M;omega
    have N:y.den=1:=by rw [beq_iff_eq] at N;omega
    rw [ay (by omega)]
    refine (gY _ (by omega) (by omega)).mono ?_
    rintro r V2 g q
    have e:((x.num+y.num:Int):Rat)=x+y:=by
     rw [l,M,N]
     simp only [Nat.mul_one,Int.natCast_one,Int.mul_one]
     exact (mkRat_one _).symm
    rw [e] at q
    obtain ⟨n,d,p,rfl⟩:=q.shape
    exact ⟨_,_,_,rfl,fun V3 i=>q.le i⟩
   all_goals
    rw [e1,e2]
    refine fun V4 A=>(gI _ _ T0 (by omega)).mono ?_
    rintro r V5 t ⟨z1,rfl,X⟩
    refine ⟨_,_,rfl,fun V6 I=>(gI _ _ T1 (by omega)).mono ?_⟩
    rintro r V7 C ⟨z2,rfl,Y⟩
    refine ⟨_,_,rfl,fun V8 J=>(gI _ _ (by omega) (by omega)).mono ?_⟩
    rintro r V9 D ⟨z3,rfl,Z⟩
    refine ⟨_,_,rfl,fun z=>⟨fun B=>⟨fun u=>⟨fun K=>⟨fun L iI j=>?_,fun _=>⟨(),by and_intros<;>rfl,trivial⟩⟩,fun _=>⟨(),by and_intros<;>rfl,trivial⟩⟩,fun _=>⟨(),by and_intros<;>rfl,trivial⟩⟩,fun _=>⟨(),by and_intros<;>rfl,trivial⟩⟩,fun _=>⟨(),by and_intros<;>rfl,trivial⟩⟩
    rw [decide_eq_true_eq] at z B u K L
    have k1:=X z
    have k2:=Y B
    have k3:=Z u
    rw [←k1] at z
    rw [←k2] at B
    rw [←Int.natCast_mul,Int.natAbs_natCast] at u
    rw [←Int.natCast_mul] at k3
    rw [ay (by omega)] at K L ⊢
    rw [k3]
    refine (oM _ _ (by omega) u (Nat.mul_ne_zero dx dy)).mono ?_
    rintro r ie E q
    rw [k1,k2,←l] at q
    obtain ⟨n,d,p,rfl⟩:=q.shape
    exact ⟨_,_,_,rfl,fun V3 i=>q.le i⟩
  ·simp only [Value.agg.injEq,Array.mk.injEq,List.cons.injEq,Value.int.injEq,Value.pointer.injEq,true_and,and_true] at ex H
   obtain ⟨rfl,rfl,rfl⟩:=ex
   obtain ⟨rfl,rfl,rfl⟩:=H
   exact kK _ _ _ _ _ _ V _ ⟨fun _=>⟨fun _ _=>True,⟨(fun h=>nomatch h),fun _=>⟨(),by and_intros<;>rfl,trivial⟩⟩,fun _ s f _=>⟨by trivial,fun V2 g=>gen V2 (f.trans g)⟩⟩,(fun h=>nomatch h)⟩
 ·simp only [Value.agg.injEq,Array.mk.injEq,List.cons.injEq,Value.int.injEq,Value.pointer.injEq,true_and,and_true] at ex
  obtain ⟨rfl,rfl,rfl⟩:=ex
  exact kK _ _ _ _ _ _ V _ ⟨(fun h=>nomatch h),fun _=>gen⟩
end Go.Proofs.Tryz
namespace Go.fR
def fA (x y:Rat):Int:=(x-y).num.sign
def iL (x y:Rat):Rat:=mkRat (Nat.gcd (x.num.natAbs*y.den) (y.num.natAbs*x.den):Nat) (x.den*y.den)
theorem Ek {q:Rat}:q.num<0↔q<0:=by
 have:=@Rat.num_nonneg q
 rw [←Rat.not_le,←this];omega
theorem El {q:Rat}:0<q.num↔0<q:=by
 have b:=@Rat.num_nonneg q
 have c:=@Rat.num_eq_zero q
 rw [Rat.lt_iff_le_and_ne,←b]
 constructor
 ·intro h;exact ⟨by omega,fun e=>by rw [←e] at h;simp at h⟩
 ·rintro ⟨h,a⟩
  have:q.num≠0:=fun e=>a (c.1 e).symm
  omega
theorem BQ {x y:Rat}:x<y↔fA x y=-1:=by
 unfold fA
 rw [Int.sign_eq_neg_one_iff_neg,Ek,Rat.lt_iff_sub_pos x y,←Rat.neg_sub y x]
 constructor
 ·intro h;have:=Rat.neg_lt_neg h;simpa using this
 ·intro h;have:=Rat.neg_lt_neg h;rw [Rat.neg_neg] at this;simpa using this
theorem uL {x y:Rat}:y<x↔fA x y=1:=by
 unfold fA
 rw [Int.sign_eq_one_iff_pos,El,Rat.lt_iff_sub_pos y x]
theorem iV {x y:Rat}:x=y↔fA x y=0:=by
 unfold fA
 rw [Int.sign_eq_zero_iff_zero,Rat.num_eq_zero]
 constructor
 ·intro h;subst h;exact Rat.sub_self
 ·intro h
  have:=congrArg (·+ y) h
  simpa [Rat.sub_add_cancel,Rat.zero_add] using this
end Go.fR
namespace Go.Proofs.Tryz
open Go.bM Go.fR
theorem qb {V:View}{v w:Value}{x y:Rat}(hx:RR V v x)(hy:RR V w y){k m:Nat}(hk:Sz k x)(hm:Sz m y)(hkm:k+m<1099511627776) :
  ab prog 181 #[v,w] V fun r V'=>RR V' r (x-y):=by
 obtain ⟨h,i,j,rfl⟩:=hx.shape
 obtain ⟨l,s1,s2,rfl⟩:=hy.shape
 refine zw _ _ _ _ _ _ V _ fun o b=>(oe (hy.le b) hm (by omega)).mono ?_
 rintro r V2 f c
 obtain ⟨n,d,p,rfl⟩:=c.shape
 refine ⟨_,_,_,rfl,fun q e=>(jZ (hx.le (b.trans (f.trans e))) (c.le e) hk hm.neg hkm).mono ?_⟩
 rintro r s t a
 rw [←Rat.sub_eq_add_neg] at a
 obtain ⟨n,d,p,rfl⟩:=a.shape
 exact ⟨_,_,_,rfl,fun u g=>a.le g⟩
theorem lQ {V:View}{v w:Value}{x y:Rat}(hx:RR V v x)(hy:RR V w y){k m:Nat}(hk:Sz k x)(hm:Sz m y)(hkm:k+m<1099511627776) :
  ab prog 191 #[v,w] V fun r V'=>r=.int .i64 (fA x y):=by
 obtain ⟨t,u,z,rfl⟩:=hx.shape
 obtain ⟨A,s1,s2,rfl⟩:=hy.shape
 have gen:∀mJ:View,V.Le mJ->ab prog 181 #[.agg #[.int .i64 t,.int .i64 u,.pointer z],.agg #[.int .i64 A,.int .i64 s1,.pointer s2]] mJ fun B C=>∃x9_:Int,∃T2:Int,∃Tq:OA,B=.agg #[.int .i64 x9_,.int .i64 T2,.pointer Tq]/\(∀kr:View,C.Le kr->ab prog 137 #[.agg #[.int .i64 x9_,.int .i64 T2,.pointer Tq]] kr fun D E=>∃T3:Int,D=.int .i64 T3/\(∀pe:View,E.Le pe->Value.int .i64 T3=.int .i64 (fA x y))):=by
  intro i f
  refine (qb (hx.le f) (hy.le f) hk hm hkm).mono ?_
  rintro r V2 O q
  obtain ⟨n,d,p,rfl⟩:=q.shape
  refine ⟨_,_,_,rfl,fun P F=>(eF (q.le F) (hk.sub hm) (by omega)).mono ?_⟩
  rintro r Q R rfl
  exact ⟨_,rfl,fun _ _=>rfl⟩
 rcases hx with ⟨ex,G⟩|⟨a,b,p,n,c,H,I,J,ex,-,-,-,-,-,G⟩
 ·rcases hy with ⟨g,K⟩|⟨a,b,p,n,c,H,I,J,g,-,-,-,-,-,K⟩
  ·simp only [Value.agg.injEq,Array.mk.injEq,List.cons.injEq,Value.int.injEq,Value.pointer.injEq,true_and,and_true] at ex g
   obtain ⟨rfl,rfl,rfl⟩:=ex
   obtain ⟨rfl,rfl,rfl⟩:=g
   have j:x.den=y.den->((x<y↔x.num<y.num)/\(y<x↔y.num<x.num)/\(x=y↔x.num=y.num)):=by
    intro e
    have s:(0:Int)<y.den:=by have:=y.den_nz;omega
    refine ⟨?_,?_,fun h=>by rw [h],fun h=>Rat.ext h e⟩
    ·rw [Rat.lt_iff,e];exact ⟨fun h=>Int.lt_of_mul_lt_mul_right h (by omega),fun h=>Int.mul_lt_mul_of_pos_right h s⟩
    ·rw [Rat.lt_iff,e];exact ⟨fun h=>Int.lt_of_mul_lt_mul_right h (by omega),fun h=>Int.mul_lt_mul_of_pos_right h s⟩
   refine kL _ _ _ _ _ _ V _ ⟨fun _=>⟨fun _=>⟨fun l=>?_,fun _=>gen⟩,(fun h=>nomatch h)⟩,(fun h=>nomatch h)⟩
   have l:x.den=y.den:=by rw [beq_iff_eq] at l;omega
   obtain ⟨L,M,N⟩:=j l
   refine ⟨fun h i f=>?_,fun h=>⟨fun o i f=>?_,fun o i f=>?_⟩⟩
   ·rw [BQ.1 (L.2 (by simpa using h))]
   ·rw [uL.1 (M.2 (by simpa using o))]
   ·rw [iV.1 (N.2 (by rw [decide_eq_false_iff_not] at h o;omega))]
  ·simp only [Value.agg.injEq,Array.mk.injEq,List.cons.injEq,Value.int.injEq,Value.pointer.injEq,true_and,and_true] at ex g
   obtain ⟨rfl,rfl,rfl⟩:=ex
   obtain ⟨rfl,rfl,rfl⟩:=g
   exact kL _ _ _ _ _ _ V _ ⟨fun _=>⟨(fun h=>nomatch h),fun _=>gen⟩,(fun h=>nomatch h)⟩
 ·simp only [Value.agg.injEq,Array.mk.injEq,List.cons.injEq,Value.int.injEq,Value.pointer.injEq,true_and,and_true] at ex
  obtain ⟨rfl,rfl,rfl⟩:=ex
  exact kL _ _ _ _ _ _ V _ ⟨(fun h=>nomatch h),fun _=>gen⟩
theorem At {V:View}{v w:Value}{x y:Rat}(hx:RR V v x)(hy:RR V w y){k m:Nat}(hk:Sz k x)(hm:Sz m y)(hkm:k+m<1099511627776) :
  ab prog 178 #[v,w] V fun r V'=>r=.bool (decide (x=y)):=by
 obtain ⟨b,c,d,rfl⟩:=hx.shape
 obtain ⟨e,s1,s2,rfl⟩:=hy.shape
 refine ui _ _ _ _ _ _ V _ fun f a=>(lQ (hx.le a) (hy.le a) hk hm hkm).mono ?_
 rintro r V2 g rfl
 refine ⟨_,rfl,fun h i=>?_⟩
 congr 1
 rw [Bool.eq_iff_iff,beq_iff_eq,decide_eq_true_eq,iV]
theorem DU {x y:Rat}{k m:Nat}(hx:Sz k x)(hy:Sz m y):x.num.natAbs*y.den<2^(k+m)/\y.num.natAbs*x.den<2^(k+m)/\Nat.gcd (x.num.natAbs*y.den) (y.num.natAbs*x.den)<2^(k+m)/\x.den*y.den<2^(k+m):=by
 have a:x.num.natAbs*y.den<2^(k+m):=bP hx.1 hy.2
 have b:y.num.natAbs*x.den<2^(k+m):=by rw [Nat.add_comm];exact bP hy.1 hx.2
 refine ⟨a,b,?_,bP hx.2 hy.2⟩
 rcases Nat.eq_zero_or_pos (x.num.natAbs*y.den) with e|e
 ·rw [e,Nat.gcd_zero_left];exact b
 ·exact Nat.lt_of_le_of_lt (Nat.le_of_dvd e (Nat.gcd_dvd_left _ _)) a
theorem oa {x y:Rat}{k m:Nat}(hx:Sz k x)(hy:Sz m y):Sz (k+m+1) (iL x y):=by
 obtain ⟨-,-,a,b⟩:=DU hx hy
 have c:2^(k+m)<=2^(k+m+1):=Nat.pow_le_pow_right (by omega) (by omega)
 exact Go.bM.Sz.mkRat (by rw [Int.natAbs_natCast];omega) (by omega) (by omega)
theorem lR {V:View}{v w:Value}{x y:Rat}(hx:RR V v x)(hy:RR V w y){k m:Nat}(hk:Sz k x)(hm:Sz m y)(hkm:k+m<1099511627776) :
  ab prog 177 #[v,w] V fun r V'=>RR V' r (iL x y):=by
 obtain ⟨A,B,C,rfl⟩:=hx.shape
 obtain ⟨D,s1,s2,rfl⟩:=hy.shape
 obtain ⟨b1,b2,b3,b4⟩:=DU hk hm
 have q1:=af hk.1
 have q2:=af hk.2
 have q3:=af hm.1
 have q4:=af hm.2
 have q5:=af b1
 have q6:=af b2
 have q7:=af b3
 have q8:=af b4
 have gen:(∀YN:View,V.Le YN->ab prog 141 #[.agg #[.int .i64 A,.int .i64 B,.pointer C]] YN fun XF E=>∃(Ts:OA)(S8 Ry:Nat),XF=.slice Ts S8 Ry/\(∀YO:View,E.Le YO->ab prog 141 #[.agg #[.int .i64 D,.int .i64 s1,.pointer s2]] YO fun XG F=>∃(Tt:OA)(S9 Rz:Nat),XG=.slice Tt S9 Rz/\(∀YP:View,F.Le YP->ab prog 209 #[.slice Ts S8 Ry,.slice Tt S9 Rz] YP fun XH G=>∃(Lr:OA)(K9 JY:Nat),XH=.slice Lr K9 JY/\(∀YQ:View,G.Le YQ->ab prog 140 #[.agg #[.int .i64 A,.int .i64 B,.pointer C]] YQ fun XI H=>∃Vd:Bool,∃(Tv:OA)(Ta RC:Nat),XI=.agg #[.bool Vd,.slice Tv Ta RC]/\(∀YR:View,H.Le YR->ab prog 141 #[.agg #[.int .i64 D,.int .i64 s1,.pointer s2]] YR fun XJ I=>∃(Ls:OA)(K_ JZ:Nat),XJ=.slice Ls K_ JZ/\(∀YS:View,I.Le YS->ab prog 209 #[.slice Tv Ta RC,.slice Ls K_ JZ] YS fun XK J=>∃(Tw:OA)(Tb RG:Nat),XK=.slice Tw Tb RG/\(∀YT:View,J.Le YT->ab prog 140 #[.agg #[.int .i64 D,.int .i64 s1,.pointer s2]] YT fun XL K=>∃Ve:Bool,∃(Lt:OA)(La J0:Nat),XL=.agg #[.bool Ve,.slice Lt La J0]/\(∀YU:View,K.Le YU->ab prog 141 #[.agg #[.int .i64 A,.int .i64 B,.pointer C]] YU fun XM L=>∃(Ty:OA)(Td RJ:Nat),XM=.slice Ty Td RJ/\(∀YV:View,L.Le YV->ab prog 209 #[.slice Lt La J0,.slice Ty Td RJ] YV fun XN M=>∃(Lu:OA)(Lb J1:Nat),XN=.slice Lu Lb J1/\(∀YW:View,M.Le YW->ab prog 210 #[.slice Tw Tb RG,.slice Lu Lb J1] YW fun XO N=>∃(Tz:OA)(Te RK:Nat),XO=.slice Tz Te RK/\(∀YX:View,N.Le YX->ab prog 190 #[.agg #[.bool false,.slice Tz Te RK],.slice Lr K9 JY] YX fun XP O=>∃T4:Int,∃T5:Int,∃Lv:OA,XP=.agg #[.int .i64 T4,.int .i64 T5,.pointer Lv]/\(∀Rm:View,O.Le Rm->RR Rm (.agg #[.int .i64 T4,.int .i64 T5,.pointer Lv]) (iL x y))))))))))))):=by
  intro Z i
  refine (eV (hx.le i) hk (by omega)).mono ?_
  rintro r V2 j ⟨p1,n1,c1,rfl,g1⟩
  refine ⟨_,_,_,rfl,fun V3 s=>(eV (hy.le (i.trans (j.trans s))) hm (by omega)).mono ?_⟩
  rintro r V4 P ⟨p2,n2,c2,rfl,g2⟩
  refine ⟨_,_,_,rfl,fun V5 t=>(g_ (g1.le (s.trans (P.trans t))) (g2.le t) (by omega)).mono ?_⟩
  rintro r V6 l6 ⟨p3,n3,c3,rfl,g3⟩
  rw [ae,ae] at g3
  have Q:=i.trans (j.trans (s.trans (P.trans (t.trans l6))))
  refine ⟨_,_,_,rfl,fun V7 l=>(fK (hx.le (Q.trans l)) hk (by omega)).mono ?_⟩
  rintro r V8 R ⟨p4,n4,c4,rfl,g4⟩
  refine ⟨_,_,_,_,rfl,fun V9 u=>(eV (hy.le (Q.trans (l.trans (R.trans u)))) hm (by omega)).mono ?_⟩
  rintro r iI f ⟨p5,n5,c5,rfl,g5⟩
  refine ⟨_,_,_,rfl,fun ie z=>(g_ (g4.le (u.trans (f.trans z))) (g5.le z) (by omega)).mono ?_⟩
  rintro r lL bY ⟨p6,n6,c6,rfl,g6⟩
  rw [ae,ae] at g6
  have JJ:=Q.trans (l.trans (R.trans (u.trans (f.trans (z.trans bY)))))
  refine ⟨_,_,_,rfl,fun o_ S=>(fK (hy.le (JJ.trans S)) hm (by omega)).mono ?_⟩
  rintro r mJ c_ ⟨p7,n7,c7,rfl,g7⟩
  refine ⟨_,_,_,_,rfl,fun lN T=>(eV (hx.le (JJ.trans (S.trans (c_.trans T)))) hk (by omega)).mono ?_⟩
  rintro r kr cV ⟨p8,n8,c8,rfl,g8⟩
  refine ⟨_,_,_,rfl,fun mZ U=>(g_ (g7.le (T.trans (cV.trans U))) (g8.le U) (by omega)).mono ?_⟩
  rintro r pe dF ⟨p9,n9,c9,rfl,g9⟩
  rw [ae,ae] at g9
  have Rl:=S.trans (c_.trans (T.trans (cV.trans (U.trans dF))))
  refine ⟨_,_,_,rfl,fun tj W=>(Aw (g6.le (Rl.trans W)) (g9.le W) (by omega) (by omega)).mono ?_⟩
  rintro r yF gy ⟨HZ,a0,a1,rfl,o⟩
  rw [ae,ae] at o
  refine ⟨_,_,_,rfl,fun uJ fB=>(cF false (o.le fB) (g3.le (l.trans (R.trans (u.trans (f.trans (z.trans (bY.trans (Rl.trans (W.trans (gy.trans fB)))))))))) (by omega) (by omega)).mono ?_⟩
  rintro r tm iF g
  rw [pt,ae,ae] at g
  obtain ⟨n,d,p,rfl⟩:=g.shape
  exact ⟨_,_,_,rfl,fun yx gT=>g.le gT⟩
 rcases hx with ⟨ex,wx⟩|⟨a,b,p,n,c,p',n',c',ex,-,-,-,-,-,wx⟩
 ·rcases hy with ⟨q,wy⟩|⟨a,b,p,n,c,p',n',c',q,-,-,-,-,-,wy⟩
  ·simp only [Value.agg.injEq,Array.mk.injEq,List.cons.injEq,Value.int.injEq,Value.pointer.injEq,true_and,and_true] at ex q
   obtain ⟨rfl,rfl,rfl⟩:=ex
   obtain ⟨rfl,rfl,rfl⟩:=q
   obtain ⟨T0,a2⟩:=wx
   obtain ⟨T1,a3⟩:=wy
   refine nV _ _ _ _ _ _ V _ ⟨fun _=>⟨fun _=>⟨fun X=>⟨fun _ _=>True,⟨fun Y Z i=>?_,fun _=>⟨(),by and_intros<;>rfl,trivial⟩⟩,fun _ Z i _=>⟨by trivial,fun V2 j=>gen V2 (i.trans j)⟩⟩,fun _=>gen⟩,(fun h=>nomatch h)⟩,(fun h=>nomatch h)⟩
   have X:x.den=1:=by rw [beq_iff_eq] at X;omega
   have Y:y.den=1:=by rw [beq_iff_eq] at Y;omega
   refine (js _ (by omega) (by omega)).mono ?_
   rintro r V2 j rfl
   refine ⟨_,rfl,fun V3 s=>(js _ (by omega) (by omega)).mono ?_⟩
   rintro r V4 P rfl
   refine ⟨_,rfl,fun V5 t=>(vE _ _ (by omega) (by omega)).mono ?_⟩
   rintro r V6 l6 rfl
   refine ⟨_,rfl,fun V7 l=>.inl ?_⟩
   have e:iL x y=((Nat.gcd x.num.natAbs y.num.natAbs:Nat):Int):=by
    unfold iL
    rw [X,Y,Nat.mul_one,Nat.mul_one,Nat.mul_one]
    exact mkRat_one _
   have hl:Nat.gcd x.num.natAbs y.num.natAbs<4611686018427387904:=by
    rcases Nat.eq_zero_or_pos x.num.natAbs with e|e
    ·rw [e,Nat.gcd_zero_left];exact T1
    ·exact Nat.lt_of_le_of_lt (Nat.le_of_dvd e (Nat.gcd_dvd_left _ _)) T0
   rw [e,ay (by omega)]
   exact ⟨rfl,wm (by rw [Int.natAbs_natCast];exact hl)⟩
  ·simp only [Value.agg.injEq,Array.mk.injEq,List.cons.injEq,Value.int.injEq,Value.pointer.injEq,true_and,and_true] at ex q
   obtain ⟨rfl,rfl,rfl⟩:=ex
   obtain ⟨rfl,rfl,rfl⟩:=q
   exact nV _ _ _ _ _ _ V _ ⟨fun _=>⟨(fun h=>nomatch h),fun _=>gen⟩,(fun h=>nomatch h)⟩
 ·simp only [Value.agg.injEq,Array.mk.injEq,List.cons.injEq,Value.int.injEq,Value.pointer.injEq,true_and,and_true] at ex
  obtain ⟨rfl,rfl,rfl⟩:=ex
  exact nV _ _ _ _ _ _ V _ ⟨(fun h=>nomatch h),fun _=>gen⟩
theorem rR {V:View}{p:OA}{n c x:Nat}(h:RN V p n c x) :
  ab prog 61 #[.bool false,.slice p n c] V fun r V'=>RI V' r (x:Int):=by
 have:=eH false h
 rwa [if_neg (by decide)] at this
theorem cH {x:Rat}{k:Nat}(h:Sz k x):(ah x.num.natAbs).length<=k/\(ah x.den).length<=k/\(ah (x.den:Int).natAbs).length<=k:=⟨af h.1,af h.2,af h.2⟩
theorem cw {V:View}{v w:Value}{x y:Rat}(hx:RQ V v x)(hy:RQ V w y){k m:Nat}(hk:Sz k x)(hm:Sz m y)(hkm:k+m<274877906944) :
  ab prog 44 #[v,w] V fun r V'=>RQ V' r (x+y):=by
 obtain ⟨p,n,c,p',n',c',rfl,f,a⟩:=hx
 obtain ⟨q,i,e,q',i',e',rfl,h,b⟩:=hy
 have A:=nq a
 have AR:=nq b
 obtain ⟨b1,b2,b3,b4⟩:=vg hk hm
 obtain ⟨d1,d2,d3⟩:=cH hk
 obtain ⟨d4,d5,d6⟩:=cH hm
 have j:x+y=mkRat (x.num*y.den+y.num*x.den) (x.den*y.den):=Rat.add_def' x y
 refine (fun tail=>Fg _ p n c p' n' c' _ q i e q' i' e' V _ ⟨fun B=>⟨fun C V1 l=>?_,fun _=>tail⟩,fun _=>tail⟩) ?_
 ·clear tail
  have B:x.den=1:=A.1 (by simp at B;omega)
  have C:y.den=1:=AR.1 (by simp at C;omega)
  refine (rQ x.num y.num (f.le l) (h.le l) (by omega) (by omega)).mono ?_
  rintro r V2 Q ⟨p2,n2,c2,rfl,g⟩
  have e1:x+y=((x.num+y.num:Int):Rat):=by
   rw [j,B,C];simp [Rat.mkRat_one]
  rw [e1]
  exact ⟨_,_,_,_,rfl,fun V3 t=>oU (z:=x.num+y.num) (d:=1) rfl rfl (g.le t) RD.nil rfl⟩
 ·intro V1 l
  refine (cY y _ (b.le l)).mono ?_
  rintro r V2 Q ⟨p1,n1,c1,rfl,g1⟩
  refine ⟨_,_,_,rfl,fun V3 t=>(rR (g1.le t)).mono ?_⟩
  rintro r V4 l4 ⟨p3,n3,c3,rfl,g3⟩
  have R:=l.trans (Q.trans (t.trans l4))
  refine ⟨_,_,_,_,rfl,fun V5 D=>(kW x.num y.den (f.le (R.trans D)) (g3.le D) (by omega)).mono ?_⟩
  rintro r V6 l6 ⟨p5,n5,c5,rfl,g5⟩
  have S:=R.trans (D.trans l6)
  refine ⟨_,_,_,_,rfl,fun V7 E=>(cY x _ (a.le (S.trans E))).mono ?_⟩
  rintro r V8 T ⟨p7,n7,c7,rfl,g7⟩
  have Ut:=S.trans (E.trans T)
  refine ⟨_,_,_,rfl,fun V9 F=>(rR (g7.le F)).mono ?_⟩
  rintro r iI o ⟨p9,n9,c9,rfl,g9⟩
  have U:=Ut.trans (F.trans o)
  refine ⟨_,_,_,_,rfl,fun ie u=>(kW y.num x.den (h.le (U.trans u)) (g9.le u) (by omega)).mono ?_⟩
  rintro r lL W ⟨NG,a0,a1,rfl,G⟩
  have Np:=U.trans (u.trans W)
  refine ⟨_,_,_,_,rfl,fun o_ H=>(rQ _ _ (g5.le (E.trans (T.trans (F.trans (o.trans (u.trans (W.trans H))))))) (G.le H) (Nat.le_trans (af b1) (by omega)) (Nat.le_trans (af b2) (by omega))).mono ?_⟩
  rintro r mJ c_ ⟨a2,a3,a4,rfl,I⟩
  have X:=Np.trans (H.trans c_)
  refine ⟨_,_,_,_,rfl,fun lN J=>(cY x _ (a.le (X.trans J))).mono ?_⟩
  rintro r kr Y ⟨a5,a6,a7,rfl,K⟩
  have WZ:=X.trans (J.trans Y)
  refine ⟨_,_,_,rfl,fun mZ L=>(cY y _ (b.le (WZ.trans L))).mono ?_⟩
  rintro r pe Z ⟨a8,a9,b0,rfl,M⟩
  refine ⟨_,_,_,rfl,fun tj N=>(cG (K.le (L.trans (Z.trans N))) (M.le N) (by omega)).mono ?_⟩
  rintro r yF gy ⟨b5,b6,b7,rfl,s⟩
  rw [ae,ae] at s
  refine ⟨_,_,_,rfl,fun uJ fB=>(jy _ (I.le (J.trans (Y.trans (L.trans (Z.trans (N.trans (gy.trans fB))))))) (s.le fB) (Nat.le_trans (af b3) (by omega)) (Nat.le_trans (af b4) (by omega)) (Nat.mul_ne_zero x.den_nz y.den_nz)).mono ?_⟩
  rw [j]
  rintro r tm iF ⟨b8,b9,c0,c4,c6,Y1,rfl,O,P⟩
  exact ⟨_,_,_,_,_,_,_,rfl,fun yx gT=>⟨_,_,_,_,_,_,rfl,O.le gT,P.le gT⟩⟩
theorem hJ {V:View}{v w:Value}{x y:Rat}(hx:RQ V v x)(hy:RQ V w y){k m:Nat}(hk:Sz k x)(hm:Sz m y)(hkm:k+m<274877906944) :
  ab prog 110 #[v,w] V fun r V'=>RQ V' r (x-y):=by
 have a:=hx
 obtain ⟨p,n,c,l,o,s,rfl,t,u⟩:=hx
 obtain ⟨q,i,e,z,A,B,rfl,b,d⟩:=hy
 refine He _ p n c l o s _ q i e z A B V _ fun F f=>(kX y (b.le f) (d.le f)).mono ?_
 rintro r V2 C g
 obtain ⟨G,H,I,J,K,L,rfl,M,N⟩:=id g
 refine ⟨_,_,_,_,_,_,_,rfl,fun O h=>(cw (a.le (f.trans (C.trans h))) (g.le h) hk hm.neg hkm).mono ?_⟩
 rw [←Rat.sub_eq_add_neg]
 rintro r P Q ⟨R,S,T,U,W,X,rfl,D,E⟩
 exact ⟨_,_,_,_,_,_,_,rfl,fun Y j=>⟨_,_,_,_,_,_,rfl,D.le j,E.le j⟩⟩
theorem lX {V:View}{v w:Value}{x y:Rat}(hx:RQ V v x)(hy:RQ V w y){k m:Nat}(hk:Sz k x)(hm:Sz m y)(hkm:k+m<274877906944) :
  ab prog 45 #[v,w] V fun r V'=>r=.int .i64 (fA x y):=by
 have a:=hx
 have b:=hy
 obtain ⟨p,n,c,f,g,h,rfl,j,l⟩:=hx
 obtain ⟨q,i,e,o,s,t,rfl,u,z⟩:=hy
 refine Mh _ p n c f g h _ q i e o s t V _ fun C d=>(hJ (a.le d) (b.le d) hk hm hkm).mono ?_
 rintro r V2 D ⟨E,F,G,H,I,J,rfl,A,K⟩
 refine ⟨_,_,_,_,_,_,_,rfl,fun L B=>(uK (x-y) (A.le B)).mono ?_⟩
 rintro r M N rfl
 exact ⟨_,rfl,fun O P=>rfl⟩
theorem aN {V:View}{v w:Value}{x y:Rat}(hx:RQ V v x)(hy:RQ V w y){k m:Nat}(hk:Sz k x)(hm:Sz m y)(hkm:k+m<274877906944) :
  ab prog 58 #[v,w] V fun r V'=>RQ V' r (x*y):=by
 obtain ⟨p,n,c,K,L,M,rfl,b,f⟩:=hx
 obtain ⟨q,i,e,N,O,P,rfl,h,j⟩:=hy
 have s:=nq f
 have Q:=nq j
 obtain ⟨d1,d2,d3⟩:=cH hk
 obtain ⟨d4,d5,d6⟩:=cH hm
 have l:x*y=mkRat (x.num*y.num) (x.den*y.den):=Rat.mul_def' x y
 have b1:(x.num*y.num).natAbs<2^(k+m):=by rw [Int.natAbs_mul];exact bP hk.1 hm.1
 have b2:x.den*y.den<2^(k+m):=bP hk.2 hm.2
 refine (fun tail=>CO _ p n c K L M _ q i e N O P V _ ⟨fun t=>⟨fun u R a=>?_,fun _=>tail⟩,fun _=>tail⟩) ?_
 ·clear tail
  have t:x.den=1:=s.1 (by simp at t;omega)
  have u:y.den=1:=Q.1 (by simp at u;omega)
  refine (kW x.num y.num (b.le a) (h.le a) (by omega)).mono ?_
  rintro r V2 A ⟨S,T,U,rfl,g⟩
  have W:x*y=((x.num*y.num:Int):Rat):=by
   rw [l,t,u];simp [Rat.mkRat_one]
  rw [W]
  exact ⟨_,_,_,_,rfl,fun X o=>oU (z:=x.num*y.num) (d:=1) rfl rfl (g.le o) RD.nil rfl⟩
 ·intro R a
  refine (kW x.num y.num (b.le a) (h.le a) (by omega)).mono ?_
  rintro r V2 A ⟨S,T,U,rfl,Y⟩
  refine ⟨_,_,_,_,rfl,fun X o=>(cY x _ (f.le (a.trans (A.trans o)))).mono ?_⟩
  rintro r V4 F ⟨p4,n4,c4,rfl,Z⟩
  refine ⟨_,_,_,rfl,fun V5 B=>(cY y _ (j.le (a.trans (A.trans (o.trans (F.trans B)))))).mono ?_⟩
  rintro r V6 G ⟨p6,n6,c6,rfl,g6⟩
  refine ⟨_,_,_,rfl,fun V7 C=>(cG (Z.le (B.trans (G.trans C))) (g6.le C) (by omega)).mono ?_⟩
  rintro r V8 l8 ⟨p8,n8,c8,rfl,H⟩
  rw [ae,ae] at H
  refine ⟨_,_,_,rfl,fun V9 I=>(jy _ (Y.le (o.trans (F.trans (B.trans (G.trans (C.trans (l8.trans I))))))) (H.le I) (Nat.le_trans (af b1) (by omega)) (Nat.le_trans (af b2) (by omega)) (Nat.mul_ne_zero x.den_nz y.den_nz)).mono ?_⟩
  rw [l]
  rintro r tm iF ⟨a0,a1,a2,a3,a4,Y1,rfl,D,E⟩
  exact ⟨_,_,_,_,_,_,_,rfl,fun yx J=>⟨_,_,_,_,_,_,rfl,D.le J,E.le J⟩⟩
end Go.Proofs.Tryz
namespace Go.bM
open Go.fR
def RP (V:View)(v:Value)(x y:Rat):Prop:=∃p n c p' n' c' q m e q' m' e',v=.agg #[.bool (decide (x.num<0)),.slice p n c,.slice p' n' c',.bool (decide (y.num<0)),.slice q m e,.slice q' m' e'] /\
 RQ V (.agg #[.bool (decide (x.num<0)),.slice p n c,.slice p' n' c']) x/\RQ V (.agg #[.bool (decide (y.num<0)),.slice q m e,.slice q' m' e']) y
theorem RP.le {V V':View}{v:Value}{x y:Rat}(h:RP V v x y)(l:V.Le V'):RP V' v x y:=by
 obtain ⟨p,n,c,a,b,d,q,m,e,f,g,i,rfl,j,k⟩:=h
 exact ⟨p,n,c,a,b,d,q,m,e,f,g,i,rfl,j.le l,k.le l⟩
theorem RQ.shape {V:View}{v:Value}{q:Rat}(h:RQ V v q):∃p n c p' n' c',v=.agg #[.bool (decide (q.num<0)),.slice p n c,.slice p' n' c']:=by
 obtain ⟨p,n,c,p',n',c',e,-⟩:=h;exact ⟨_,_,_,_,_,_,e⟩
end Go.bM
namespace Go.Proofs.Tryz
open Go.bM Go.fR
theorem tB {V:View}{p:OA}{n c:Nat}{ds:List Nat}(h:RD V p n c ds)(hm:ds.length<=1099511627776) :
  ab prog 96 #[.slice p n c] V fun r V'=>∃p1 n1 c1,r=.slice p1 n1 c1/\RD V' p1 n1 c1 ds:=by
 have a:=h.len
 refine CQ p n c V _ ⟨aD ds,h.sl,by simp [a],by omega,by omega,by simp,by simp [a],?_,?_⟩
 ·intro v e
  simp only [aD,List.mem_map] at e
  obtain ⟨d,-,rfl⟩:=e
  rfl
 ·intro i J sp j f k l m b g
  refine ⟨_,_,_,rfl,?_⟩
  simp only [Nat.zero_add,Nat.zero_mul,List.take_zero,List.nil_append] at g f ⊢
  exact copied h.fo a f g
theorem j9 {V:View}{v:Value}{z:Int}(h:RI V v z)(hm:(ah z.natAbs).length<=1099511627776) :
  ab prog 64 #[v] V fun r V'=>RI V' r z:=by
 obtain ⟨p,n,c,rfl,h⟩:=h
 refine CP _ p n c V _ fun d a=>(tB (h.le a) hm).mono ?_
 rintro r V2 e ⟨f,i,j,rfl,g⟩
 exact ⟨_,_,_,rfl,fun k b=>⟨_,_,_,rfl,g.le b⟩⟩
theorem mc {V:View}(x y:Int)(h0:-9223372036854775808<=x)(h1:x<=9223372036854775807)(h2:-9223372036854775808<=y)(h3:y<=9223372036854775807) :
  ab prog 12 #[.int .i64 x,.int .i64 y] V fun r V'=>RP V' r (x:Rat) (y:Rat):=by
 refine Fq x y V _ fun h i=>(eI x h0 h1).mono ?_
 rintro r V2 j a
 obtain ⟨p,n,c,k,l,o,rfl⟩:=a.shape
 refine ⟨_,_,_,_,_,_,_,rfl,fun s f=>(eI y h2 h3).mono ?_⟩
 rintro r t g b
 obtain ⟨q,m,e,u,v,w,rfl⟩:=b.shape
 exact ⟨_,_,_,_,_,_,_,rfl,fun z d=>⟨_,_,_,_,_,_,_,_,_,_,_,_,rfl,a.le (f.trans (g.trans d)),b.le d⟩⟩
theorem iz {V:View}{u v w:Value}{px py c qx qy:Rat}(hp:RP V u px py)(hc:RQ V v c)(hq:RP V w qx qy){k m:Nat}(s1:Sz k px)(s2:Sz k py)(s3:Sz m c)(s4:Sz m qx)(s5:Sz m qy)(hkm:k+(m+m+1)<274877906944) :
  ab prog 100 #[u,v,w] V fun r V'=>RP V' r (px+c*qx) (py+c*qy):=by
 obtain ⟨x,y,z,A,B,C,D,E,F,G,H,I,rfl,d,e⟩:=hp
 obtain ⟨J,K,L,M,N,O,rfl⟩:=hc.shape
 obtain ⟨P,Q,R,S,T,U,W,X,Y,Z,m4,e4,rfl,f,g⟩:=hq
 refine CS _ x y z A B C _ D E F G H I _ J K L M N O _ P Q R S T U _ W X Y Z m4 e4 V _ fun V1 a=>(aN (hc.le a) (f.le a) s3 s4 (by omega)).mono ?_
 rintro r V2 l n
 obtain ⟨a1,a2,a3,a4,a5,a6,rfl⟩:=n.shape
 refine ⟨_,_,_,_,_,_,_,rfl,fun V3 h=>(cw (d.le (a.trans (l.trans h))) (n.le h) s1 (s3.mul s4) (by omega)).mono ?_⟩
 rintro r V4 l4 o
 obtain ⟨b1,b2,b3,b4,b5,b6,rfl⟩:=o.shape
 have i:=a.trans (l.trans (h.trans l4))
 refine ⟨_,_,_,_,_,_,_,rfl,fun V5 b=>(aN (hc.le (i.trans b)) (g.le (i.trans b)) s3 s5 (by omega)).mono ?_⟩
 rintro r V6 p q
 obtain ⟨d1,d2,d3,d4,d5,d6,rfl⟩:=q.shape
 refine ⟨_,_,_,_,_,_,_,rfl,fun V7 j=>(cw (e.le (i.trans (b.trans (p.trans j)))) (q.le j) s2 (s3.mul s5) (by omega)).mono ?_⟩
 rintro r V8 l8 s
 obtain ⟨f1,f2,f3,f4,f5,f6,rfl⟩:=s.shape
 exact ⟨_,_,_,_,_,_,_,rfl,fun V9 t=>⟨_,_,_,_,_,_,_,_,_,_,_,_,rfl,o.le (b.trans (p.trans (j.trans (l8.trans t)))),s.le t⟩⟩
theorem Od:Sz 1 ((-1:Int):Rat):=by unfold Sz;decide
theorem Dz {V:View}{u w:Value}{px py qx qy:Rat}(hp:RP V u px py)(hq:RP V w qx qy){k m:Nat}(s1:Sz k px)(s2:Sz k py)(s4:Sz m qx)(s5:Sz m qy)(hm:1<=m)(hkm:k+(m+m+1)<274877906944) :
  ab prog 56 #[u,w] V fun r V'=>RP V' r (px-qx) (py-qy):=by
 have d:=hp
 have e:=hq
 obtain ⟨j,l,n,o,p,q,s,t,v,x,y,z,rfl,-,-⟩:=hp
 obtain ⟨A,B,c,C,D,E,F,G,H,I,J,K,rfl,-,-⟩:=hq
 refine CY _ j l n o p q _ s t v x y z _ A B c C D E _ F G H I J K V _ fun S L=>(eI (-1) (by omega) (by omega)).mono ?_
 rintro r V2 M g
 obtain ⟨T,U,W,X,Y,Z,rfl⟩:=g.shape
 have h:=L.trans M
 refine ⟨_,_,_,_,_,_,_,rfl,fun V3 f=>(iz (d.le (h.trans f)) (g.le f) (e.le (h.trans f)) s1 s2 (Od.mono hm) s4 s5 hkm).mono ?_⟩
 have c:∀a b:Rat,a+((-1:Int):Rat)*b=a-b:=by
  intro a b
  have:((-1:Int):Rat)=-1:=rfl
  rw [this,Rat.neg_mul,Rat.one_mul,Rat.sub_eq_add_neg]
 rw [c,c]
 rintro r V4 l4 ⟨b1,b2,b3,b4,b5,b6,b7,b8,b9,N,O,P,rfl,Q,R⟩
 exact ⟨_,_,_,_,_,_,_,_,_,_,_,_,_,_,rfl,fun V5 i=>⟨_,_,_,_,_,_,_,_,_,_,_,_,rfl,Q.le i,R.le i⟩⟩
theorem BJ {V:View}{u w:Value}{px py qx qy:Rat}(hp:RP V u px py)(hq:RP V w qx qy){k m:Nat}(s1:Sz k px)(s2:Sz k py)(s4:Sz m qx)(s5:Sz m qy)(hkm:k+m<274877906944) :
  ab prog 159 #[u,w] V fun r V'=>r=.bool (decide (px=qx/\py=qy)):=by
 obtain ⟨l,n,o,p,q,s,t,v,x,y,z,A,rfl,c,d⟩:=hp
 obtain ⟨B,C,D,E,F,G,H,I,J,K,L,M,rfl,f,g⟩:=hq
 refine zR _ l n o p q s _ t v x y z A _ B C D E F G _ H I J K L M V _ fun O b=>(lX (c.le b) (f.le b) s1 s4 hkm).mono ?_
 rintro r V2 j rfl
 refine ⟨_,rfl,fun a N i=>(lX (d.le (b.trans (j.trans i))) (g.le (b.trans (j.trans i))) s2 s5 hkm).mono ?_,fun a N i=>?_⟩
 ·have a:px=qx:=iV.2 (by simpa using a)
  rintro r P Q rfl
  refine ⟨_,rfl,fun R S=>?_⟩
  congr 1
  rw [Bool.eq_iff_iff,decide_eq_true_eq,beq_iff_eq,←iV]
  exact ⟨fun h=>⟨a,h⟩,fun h=>h.2⟩
 ·have a:¬px=qx:=fun e=>by rw [iV.1 e] at a;simp at a
  rw [decide_eq_false fun h=>a h.1]
end Go.Proofs.Tryz
namespace Go.bM
open Go.fR
def RL (V:View)(v:Value)(a b c:Int):Prop:=∃p n s p' n' s' q m e,v=.agg #[.bool (decide (a<0)),.slice p n s,.bool (decide (b<0)),.slice p' n' s',.bool (decide (c<0)),.slice q m e] /\
 RD V p n s (ah a.natAbs)/\RD V p' n' s' (ah b.natAbs)/\RD V q m e (ah c.natAbs)
theorem RL.le {V V':View}{v:Value}{a b c:Int}(h:RL V v a b c)(l:V.Le V'):RL V' v a b c:=by
 obtain ⟨p,n,s,d,f,g,q,m,e,rfl,i,j,k⟩:=h
 exact ⟨p,n,s,d,f,g,q,m,e,rfl,i.le l,j.le l,k.le l⟩
end Go.bM
namespace Go.Proofs.Tryz
open Go.bM Go.fR
theorem oO {V:View}{p q:OA}{n c m e:Nat}{xs ys:List Nat}(hx:RD V p n c xs)(hy:RD V q m e ys)(hm:xs.length<=1099511627776) :
  ab prog 95 #[.slice p n c,.slice q m e] V fun r V'=>r=.bool (decide (xs=ys)):=by
 have g:=hx.len
 have s:=hy.len
 refine xT p n c q m e V _ ⟨fun b t u=>?_,fun b=>?_⟩
 ·have b:n≠m:=by simp at b;omega
  rw [decide_eq_false fun h=>b (by rw [g,s,h])]
 ·have b:n=m:=by simp at b;omega
  refine ⟨fun z V'=>0<=z/\z<=n/\xs.take z.toNat=ys.take z.toNat,fun z=>n-z.toNat,⟨0,by (try dsimp only);and_intros<;>first|exact True.intro|rfl,by (try dsimp only);omega,by (try dsimp only);omega,rfl⟩,?_⟩
  rintro i V2 o ⟨j,k,d⟩
  dsimp only at k d ⊢
  obtain ⟨i,rfl⟩:=Int.eq_ofNat_of_zero_le j
  simp only [Int.toNat_natCast] at d
  refine ⟨by trivial,fun f=>?_,fun f v x=>?_⟩
  ·have f:i<n:=by simpa using f
   refine (hx.le o).rd i rfl (by omega) ((hy.le o).rd i rfl (by omega) ⟨fun a y A=>?_,fun a=>?_⟩)
   ·have a:xs[i]≠ys[i]:=by simp at a;omega
    rw [decide_eq_false fun h=>a (by subst h;rfl)]
   ·have a:xs[i]=ys[i]:=by simp at a;omega
    have w:i64.wrap ((i:Int)+1)=((i+1:Nat):Int):=by rw [ay (by omega)];omega
    simp only [w]
    refine ⟨((i+1:Nat):Int),?_,by (try dsimp only);and_intros<;>first|exact True.intro|rfl,by (try dsimp only);omega,by (try dsimp only);omega,?_⟩
    ·(try dsimp only);omega
    ·(try dsimp only)
     simp only [Int.toNat_natCast]
     rw [List.take_succ_eq_append_getElem (by omega),List.take_succ_eq_append_getElem (l:=ys) (by omega),d,a]
  ·have f:i=n:=by simp at f;omega
   rw [List.take_of_length_le (by omega),List.take_of_length_le (by omega)] at d
   rw [decide_eq_true d]
theorem LQ {z w:Int}:(decide (z<0)==decide (w<0))=true->(decide (ah z.natAbs=ah w.natAbs)=decide (z=w)):=by
 intro h
 have b:(z<0↔w<0):=by simpa using h
 rw [Bool.eq_iff_iff,decide_eq_true_eq,decide_eq_true_eq]
 constructor
 ·intro a
  have:=qm a
  omega
 ·intro a;rw [a]
theorem ij {V:View}{z w:Int}{p q:OA}{n c m e:Nat}(hx:RD V p n c (ah z.natAbs))(hy:RD V q m e (ah w.natAbs))(hm:(ah z.natAbs).length<=1099511627776) :
  ab prog 94 #[.agg #[.bool (decide (z<0)),.slice p n c],.agg #[.bool (decide (w<0)),.slice q m e]] V fun r V'=>r=.bool (decide (z=w)):=by
 refine xS _ p n c _ q m e V _ ⟨fun a d b=>(oO (hx.le b) (hy.le b) hm).mono ?_,fun a d b=>?_⟩
 ·rintro r V2 f rfl
  refine ⟨_,rfl,fun g i=>?_⟩
  rw [LQ a]
 ·rw [decide_eq_false fun h=>by subst h;simp at a]
theorem yN {V:View}{v w:Value}{a b c a' b' c':Int}(hx:RL V v a b c)(hy:RL V w a' b' c')(h1:(ah a.natAbs).length<=1099511627776)(h2:(ah b.natAbs).length<=1099511627776)(h3:(ah c.natAbs).length<=1099511627776) :
  ab prog 168 #[v,w] V fun r V'=>r=.bool (decide (a=a'/\b=b'/\c=c')):=by
 obtain ⟨p,n,s,x,y,z,q,m,e,rfl,A,B,C⟩:=hx
 obtain ⟨i,j,k,D,E,F,i2,G,H,rfl,I,J,K⟩:=hy
 refine xZ _ p n s _ x y z _ q m e _ i j k _ D E F _ i2 G H V _ fun L d=>(ij (A.le d) (I.le d) h1).mono ?_
 rintro r V2 l rfl
 refine ⟨_,rfl,fun f M o=>(ij (B.le (d.trans (l.trans o))) (J.le (d.trans (l.trans o))) h2).mono ?_,fun f N O=>?_⟩
 ·rintro r P t rfl
  rw [decide_eq_true_eq] at f
  refine ⟨_,rfl,fun g Q u=>(ij (C.le (d.trans (l.trans (o.trans (t.trans u))))) (K.le (d.trans (l.trans (o.trans (t.trans u))))) h3).mono ?_,fun g R S=>?_⟩
  ·rintro r T U rfl
   rw [decide_eq_true_eq] at g
   refine ⟨_,rfl,fun W X=>?_⟩
   congr 1
   rw [Bool.eq_iff_iff,decide_eq_true_eq,decide_eq_true_eq]
   exact ⟨fun h=>⟨f,g,h⟩,fun h=>h.2.2⟩
  ·rw [decide_eq_false_iff_not] at g
   rw [decide_eq_false fun h=>g h.2.1]
 ·rw [decide_eq_false_iff_not] at f
  rw [decide_eq_false fun h=>f h.1]
theorem DA {V:View}{v:Value}{a b c:Int}(hx:RL V v a b c)(h1:(ah a.natAbs).length<=1099511627776)(h2:(ah b.natAbs).length<=1099511627776)(h3:(ah c.natAbs).length<=1099511627776) :
  ab prog 13 #[v] V fun r V'=>RL V' r a b c:=by
 obtain ⟨p,n,s,l,o,t,q,m,e,rfl,u,w,x⟩:=hx
 refine CZ _ p n s _ l o t _ q m e V _ fun B d=>(j9 ⟨_,_,_,rfl,u.le d⟩ h1).mono ?_
 rintro r V2 i ⟨C,D,E,rfl,y⟩
 refine ⟨_,_,_,_,rfl,fun F f=>(j9 ⟨_,_,_,rfl,w.le (d.trans (i.trans f))⟩ h2).mono ?_⟩
 rintro r G j ⟨H,I,J,rfl,z⟩
 refine ⟨_,_,_,_,rfl,fun K g=>(j9 ⟨_,_,_,rfl,x.le (d.trans (i.trans (f.trans (j.trans g))))⟩ h3).mono ?_⟩
 rintro r L k ⟨M,N,O,rfl,A⟩
 exact ⟨_,_,_,_,rfl,fun P h=>⟨_,_,_,_,_,_,_,_,_,rfl,y.le (f.trans (j.trans (g.trans (k.trans h)))),z.le (g.trans (k.trans h)),A.le h⟩⟩
theorem vT {z:Int}{g:Nat}(hg:0<g)(hd:g∣z.natAbs):(if decide (z<0)=true then -((z.natAbs / g:Nat):Int) else ((z.natAbs / g:Nat):Int))=z / (g:Int):=by
 obtain ⟨k,a⟩:=hd
 have b:z.natAbs / g=k:=by rw [a,Nat.mul_div_cancel_left _ hg]
 rw [b]
 have c:z=(g:Int)*(if decide (z<0)=true then -(k:Int) else k):=by
  split
  ·rename_i h
   rw [decide_eq_true_eq] at h
   rw [Int.mul_neg,←Int.natCast_mul,←a];omega
  ·rename_i h
   rw [decide_eq_true_eq] at h
   rw [←Int.natCast_mul,←a];omega
 generalize (if decide (z<0)=true then -(k:Int) else k)=t at *
 rw [c,Int.mul_ediv_cancel_left _ (by omega)]
def iE (a b c:Int):Nat:=Nat.gcd (Nat.gcd a.natAbs b.natAbs) c.natAbs
theorem yK {V:View}{u v w:Value}{a b c:Int}(ha:RI V u a)(hb:RI V v b)(hc:RI V w c)(h1:(ah a.natAbs).length<=274877906944)(h2:(ah b.natAbs).length<=274877906944)(h3:(ah c.natAbs).length<=274877906944) :
  ab prog 62 #[u,v,w] V fun r V'=>(a=0/\b=0->∃l,r=.tuple #[l,.bool false]/\RL V' l 0 0 0) /\
   (¬(a=0/\b=0)->∃l,r=.tuple #[l,.bool true]/\RL V' l (a / (iE a b c:Int)) (b / (iE a b c:Int)) (c / (iE a b c:Int))):=by
 obtain ⟨p,n,s,rfl,ha⟩:=ha
 obtain ⟨T,U,W,rfl,hb⟩:=hb
 obtain ⟨q,m,e,rfl,hc⟩:=hc
 refine xX _ p n s _ T U W _ q m e V _ fun V1 j=>(lY (ha.le j) (hb.le j) h1 h2).mono ?_
 rintro r V2 L ⟨p1,n1,c1,rfl,M⟩
 have hp:=gN M.len
 have t:Nat.gcd a.natAbs b.natAbs=0↔a=0/\b=0:=by rw [Nat.gcd_eq_zero_iff];omega
 refine ⟨_,_,_,rfl,fun x V3 l3=>⟨fun _=>⟨_,rfl,_,_,_,_,_,_,_,_,_,rfl,RD.nil,RD.nil,RD.nil⟩,fun h=>?_⟩,fun x V4 y=>?_⟩
 ·exact absurd (t.1 (by simp at x;omega)) h
 have z:¬(a=0/\b=0):=fun h=>by have:=t.2 h;simp at x;omega
 have g:0<Nat.gcd a.natAbs b.natAbs:=by have:=t;omega
 have i:(ah (Nat.gcd a.natAbs b.natAbs)).length<=274877906944:=by
  rcases Nat.eq_zero_or_pos a.natAbs with h|h
  ·rw [h,Nat.gcd_zero_left];exact h2
  ·exact Nat.le_trans (aH (Nat.gcd_le_left _ h)) h1
 refine (lY (M.le y) (hc.le (j.trans (L.trans y))) i h3).mono ?_
 rintro r V5 X ⟨p2,n2,c2,rfl,k⟩
 have A:=j.trans (L.trans (y.trans X))
 have Y:Nat.gcd (Nat.gcd a.natAbs b.natAbs) c.natAbs=iE a b c:=rfl
 have d:0<iE a b c:=Nat.gcd_pos_of_pos_left _ g
 have B:(ah (iE a b c)).length<=274877906944:=Nat.le_trans (aH (Nat.gcd_le_left _ g)) i
 have Z:iE a b c∣a.natAbs:=Nat.dvd_trans (Nat.gcd_dvd_left _ _) (Nat.gcd_dvd_left _ _)
 have db:iE a b c∣b.natAbs:=Nat.dvd_trans (Nat.gcd_dvd_left _ _) (Nat.gcd_dvd_right _ _)
 have dc:iE a b c∣c.natAbs:=Nat.gcd_dvd_right _ _
 have sa:=vT d Z
 have sb:=vT d db
 have sc:=vT d dc
 rw [Y] at k
 generalize iE a b c=G at *
 refine ⟨_,_,_,rfl,fun V6 C=>(eW (ha.le (A.trans C)) (k.le C) h1 B d).mono ?_⟩
 rintro r V7 l7 ⟨p3,n3,c3,p4,n4,c4,rfl,g3,-⟩
 have D:=C.trans l7
 refine ⟨_,_,_,_,_,_,rfl,fun V8 o=>(eW (hb.le (A.trans (D.trans o))) (k.le (D.trans o)) h2 B d).mono ?_⟩
 rintro r V9 N ⟨p5,n5,c5,p6,n6,c6,rfl,g5,-⟩
 have O:=D.trans (o.trans N)
 refine ⟨_,_,_,_,_,_,rfl,fun iI f=>(eW (hc.le (A.trans (O.trans f))) (k.le (O.trans f)) h3 B d).mono ?_⟩
 rintro r ie P ⟨p7,n7,c7,p8,n8,c8,rfl,g7,-⟩
 refine ⟨_,_,_,_,_,_,rfl,fun lL E=>(eH _ (g3.le (o.trans (N.trans (f.trans (P.trans E)))))).mono ?_⟩
 rw [sa]
 rintro r o_ Q ⟨p9,n9,c9,rfl,g9⟩
 refine ⟨_,_,_,_,rfl,fun mJ F=>(eH _ (g5.le (f.trans (P.trans (E.trans (Q.trans F)))))).mono ?_⟩
 rw [sb]
 rintro r lN R ⟨HZ,a0,a1,rfl,H⟩
 refine ⟨_,_,_,_,rfl,fun kr I=>(eH _ (g7.le (E.trans (Q.trans (F.trans (R.trans I)))))).mono ?_⟩
 rw [sc]
 rintro r mZ S ⟨NG,a2,a3,rfl,J⟩
 refine ⟨_,_,_,_,rfl,fun pe K=>⟨fun h=>absurd h z,fun _=>⟨_,rfl,_,_,_,_,_,_,_,_,_,rfl,?_,?_,?_⟩⟩⟩
 ·exact g9.le (F.trans (R.trans (I.trans (S.trans K))))
 ·exact H.le (I.trans (S.trans K))
 ·exact J.le K
abbrev L3:=Int×Int×Int
def dH (x:L3):Bool:=decide (¬(x.1=0/\x.2.1=0))&&decide (iE x.1 x.2.1 x.2.2=1)
def Bd (x:L3):Prop:=x.1.natAbs<2^1000/\x.2.1.natAbs<2^1000/\x.2.2.natAbs<2^1000
inductive Tr where
 | leaf (i:Bool)|node (l:L3) (a b:Tr)
 deriving DecidableEq
structure Nd where
 ln:L3
 left:Int
 right:Int
 deriving DecidableEq
def Tr.size:Tr->Nat
 | .leaf _=>0
 | .node _ a b=>a.size+b.size+1
def Tr.Mr (p:L3->Prop):Tr->Prop
 | .leaf _=>True
 | .node l a b=>p l/\a.Mr p/\b.Mr p
theorem Tr.Mr.imp {p q:L3->Prop}(h:∀x,p x->q x):∀{t:Tr},t.Mr p->t.Mr q
 | .leaf _,_=>trivial
 | .node _ _ _,⟨h1,h2,h3⟩=>⟨h _ h1,Tr.Mr.imp h h2,Tr.Mr.imp h h3⟩
def rt (k:Nat):Tr->Int
 | .leaf i=>if i then -2 else -1
 | .node ..=>(k:Int)
def wr:Nat->Tr->List Nd
 | _,.leaf _=>[]
 | k,.node l a b=>⟨l,rt (k+1) a,rt (k+1+a.size) b⟩::(wr (k+1) a++wr (k+1+a.size) b)
structure RS where
 seen:List Bool
 cnt:Nat
 bad:Bool
def mvN (n Vk i:Nat):Nat:=n-1-(i+Vk)%n
def mv (n Vk:Nat)(i:Int):Int:=if i<0 then i else (mvN n Vk i.toNat:Int)
end Go.Proofs.Tryz
namespace Go.bM
open Go.fR
def yD (V:View)(v:Value)(a b c:Rat):Prop:=∃(x1 x2:Int)(p:OA)(y1 y2:Int)(q:OA)(z1 z2:Int)(r:OA),v=.agg #[.int .i64 x1,.int .i64 x2,.pointer p,.int .i64 y1,.int .i64 y2,.pointer q,.int .i64 z1,.int .i64 z2,.pointer r] /\
 RR V (.agg #[.int .i64 x1,.int .i64 x2,.pointer p]) a/\RR V (.agg #[.int .i64 y1,.int .i64 y2,.pointer q]) b/\RR V (.agg #[.int .i64 z1,.int .i64 z2,.pointer r]) c
def MH (v:Value):Prop:=∃(x1 x2:Int)(x3:OA)(y1 y2:Int)(y3:OA)(z1 z2:Int)(z3:OA),v=.agg #[.int .i64 x1,.int .i64 x2,.pointer x3,.int .i64 y1,.int .i64 y2,.pointer y3,.int .i64 z1,.int .i64 z2,.pointer z3]
theorem yD.le {V V':View}{v:Value}{a b c:Rat}(h:yD V v a b c)(l:V.Le V'):yD V' v a b c:=by
 obtain ⟨d,e,p,f,g,q,i,j,r,rfl,k,m,n⟩:=h
 exact ⟨d,e,p,f,g,q,i,j,r,rfl,k.le l,m.le l,n.le l⟩
end Go.bM
namespace Go.Proofs.Tryz
open Go.bM Go.fR
theorem Iu {V:View}{v:Value}{a b c:Rat}(h:yD V v a b c){k:Nat}(s1:Sz k a)(s2:Sz k b)(s3:Sz k c)(hk:k<=1099511627776) :
  ab prog 128 #[v] V fun r V'=>RL V' r a.num b.num c.num:=by
 obtain ⟨w,x,p,y,z,q,A,B,r,rfl,m,n,o⟩:=h
 refine zz _ _ _ _ _ _ _ _ _ V _ fun C d=>(fK (m.le d) s1 hk).mono ?_
 rintro r V2 i ⟨D,E,F,rfl,s⟩
 refine ⟨_,_,_,_,rfl,fun G e=>(fK (n.le (d.trans (i.trans e))) s2 hk).mono ?_⟩
 rintro r H j ⟨I,J,K,rfl,t⟩
 refine ⟨_,_,_,_,rfl,fun L f=>(fK (o.le (d.trans (i.trans (e.trans (j.trans f))))) s3 hk).mono ?_⟩
 rintro r M l ⟨N,O,P,rfl,u⟩
 exact ⟨_,_,_,_,rfl,fun Q g=>⟨_,_,_,_,_,_,_,_,_,rfl,s.le (e.trans (j.trans (f.trans (l.trans g)))),t.le (f.trans (l.trans g)),u.le g⟩⟩
def wS (b1:Bool)(xs:List Nat)(b2:Bool)(ys:List Nat)(b3:Bool)(zs:List Nat):Bool:=
 mS b1 xs&&mS b2 ys&&mS b3 zs&&!(decide ((aY b1 xs:Rat)=0)&&decide ((aY b2 ys:Rat)=0))&&decide (iL (iL (aY b1 xs) (aY b2 ys)) (aY b3 zs)=((1:Int):Rat))
theorem sG {V:View}{ok:Bool}{A B C:Rat}(h:ok=false):∃v,Value.tuple #[.agg #[.int .i64 0,.int .i64 0,.pointer none,.int .i64 0,.int .i64 0,.pointer none,.int .i64 0,.int .i64 0,.pointer none],.bool false]=.tuple #[v,.bool ok]/\MH v/\(ok=true->yD V v A B C):=by
 subst h;exact ⟨_,rfl,⟨_,_,_,_,_,_,_,_,_,rfl⟩,fun h=>nomatch h⟩
theorem Ma:Sz 1 ((1:Int):Rat):=by unfold Sz;decide
theorem vF {V:View}(b1 b2 b3:Bool){p q s:OA}{n c m e i j:Nat}{xs ys zs:List Nat}(hx:RD V p n c xs)(hy:RD V q m e ys)(hz:RD V s i j zs)
  (h1:xs.length<=1099511627776)(h2:ys.length<=1099511627776)(h3:zs.length<=1099511627776){k:Nat}(s1:Sz k (aY b1 xs:Rat))(s2:Sz k (aY b2 ys:Rat))(s3:Sz k (aY b3 zs:Rat))(hk:4*k+4<1099511627776) :
  ab prog 127 #[.agg #[.bool b1,.slice p n c,.bool b2,.slice q m e,.bool b3,.slice s i j]] V fun r V'=>∃v,r=.tuple #[v,.bool (wS b1 xs b2 ys b3 zs)]/\MH v/\(wS b1 xs b2 ys b3 zs=true->yD V' v (aY b1 xs) (aY b2 ys) (aY b3 zs)):=by
 refine E2 _ p n c _ q m e _ s i j V _ fun V1 G=>(gZ b1 (hx.le G) h1).mono ?_
 rintro r V2 J rfl
 refine ⟨_,rfl,fun b V3 l3=>sG ?_,fun b V4 K=>(gZ b2 (hy.le (G.trans (J.trans K))) h2).mono ?_⟩
 ·have b:mS b1 xs=false:=by simpa using b
  simp [wS,b]
 have b:mS b1 xs=true:=by simpa using b
 rintro r V5 W rfl
 refine ⟨_,rfl,fun d V6 l6=>sG ?_,fun d V7 X=>(gZ b3 (hz.le (G.trans (J.trans (K.trans (W.trans X))))) h3).mono ?_⟩
 ·have d:mS b2 ys=false:=by simpa using d
  simp [wS,d]
 have d:mS b2 ys=true:=by simpa using d
 rintro r V8 l8 rfl
 have Y:=G.trans (J.trans (K.trans (W.trans (X.trans l8))))
 refine ⟨_,rfl,fun f0 V9 l9=>sG ?_,fun f0 iI w=>(lS b1 (hx.le (Y.trans w)) h1).mono ?_⟩
 ·have f0:mS b3 zs=false:=by simpa using f0
  simp [wS,f0]
 have f0:mS b3 zs=true:=by simpa using f0
 rintro r ie bA f
 obtain ⟨x1,x2,x3,rfl⟩:=f.shape
 have Z:=Y.trans (w.trans bA)
 refine ⟨_,_,_,rfl,fun lL L=>(lS b2 (hy.le (Z.trans L)) h2).mono ?_⟩
 rintro r o_ cg g
 obtain ⟨y1,y2,y3,rfl⟩:=g.shape
 have WY:=Z.trans (L.trans cg)
 refine ⟨_,_,_,rfl,fun mJ M=>(lS b3 (hz.le (WY.trans M)) h3).mono ?_⟩
 rintro r H dp rc
 obtain ⟨z1,z2,z3,rfl⟩:=rc.shape
 replace f:=f.le (L.trans (cg.trans (M.trans dp)))
 replace g:=g.le (M.trans dp)
 have x:wS b1 xs b2 ys b3 zs=(!(decide ((aY b1 xs:Rat)=0)&&decide ((aY b2 ys:Rat)=0))&&decide (iL (iL (aY b1 xs) (aY b2 ys)) (aY b3 zs)=((1:Int):Rat))):=by
  simp only [wS,b,d,f0,Bool.true_and]
 rw [x]
 clear x b d f0 hx hy hz
 generalize (aY b1 xs:Rat)=A at *
 generalize (aY b2 ys:Rat)=B at *
 generalize (aY b3 zs:Rat)=C at *
 refine ⟨_,_,_,rfl,fun kr I=>(vB (f.le I)).mono ?_⟩
 rintro r mZ N rfl
 refine ⟨_,rfl,fun t0 pe dF=>(vB (g.le (I.trans (N.trans dF)))).mono ?_,fun t0 O P=>?_⟩
 ·rintro r tj dq rfl
  refine ⟨_,rfl,fun Q yF gy=>sG (by rw [t0,Q];rfl),fun Q O P=>?_⟩
  have lb:H.Le O:=I.trans (N.trans (dF.trans (dq.trans P)))
  have R:(decide (A=0)&&decide (B=0))=false:=by rw [Q,Bool.and_false]
  rw [R]
  refine (lR (f.le lb) (g.le lb) s1 s2 (by omega)).mono ?_
  rintro r tm y rg
  obtain ⟨g1,g2,g3,rfl⟩:=rg.shape
  refine ⟨_,_,_,rfl,fun yx l=>(lR (rg.le l) (rc.le (lb.trans (y.trans l))) (oa s1 s2) s3 (by omega)).mono ?_⟩
  rintro r Ik S z
  obtain ⟨h1,h2,h3,rfl⟩:=z.shape
  refine ⟨_,_,_,rfl,fun Hq D=>(gY 1 (by omega) (by omega)).mono ?_⟩
  rintro r JB E F
  obtain ⟨i1,i2,i3,rfl⟩:=F.shape
  refine ⟨_,_,_,rfl,fun MI o=>(At (z.le (D.trans (E.trans o))) (F.le o) (oa (oa s1 s2) s3) Ma (by omega)).mono ?_⟩
  rintro r T U rfl
  have t:H.Le T:=lb.trans (y.trans (l.trans (S.trans (D.trans (E.trans (o.trans U))))))
  refine ⟨_,rfl,fun a Q2 yA=>sG ?_,fun a Mv u=>?_⟩
  ·rw [Bool.not_eq_true'] at a
   rw [a];rfl
  ·have a:decide (iL (iL A B) C=((1:Int):Rat))=true:=by
    cases h:decide (iL (iL A B) C=((1:Int):Rat))
    ·rw [h] at a;cases a
    ·rfl
   rw [a]
   exact ⟨_,rfl,⟨_,_,_,_,_,_,_,_,_,rfl⟩,fun _=>⟨_,_,_,_,_,_,_,_,_,rfl,f.le (t.trans u),g.le (t.trans u),rc.le (t.trans u)⟩⟩
 ·have lb:H.Le O:=I.trans (N.trans P)
  have R:(decide (A=0)&&decide (B=0))=false:=by rw [t0,Bool.false_and]
  rw [R]
  refine (lR (f.le lb) (g.le lb) s1 s2 (by omega)).mono ?_
  rintro r tm y rg
  obtain ⟨g1,g2,g3,rfl⟩:=rg.shape
  refine ⟨_,_,_,rfl,fun yx l=>(lR (rg.le l) (rc.le (lb.trans (y.trans l))) (oa s1 s2) s3 (by omega)).mono ?_⟩
  rintro r Ik S z
  obtain ⟨h1,h2,h3,rfl⟩:=z.shape
  refine ⟨_,_,_,rfl,fun Hq D=>(gY 1 (by omega) (by omega)).mono ?_⟩
  rintro r JB E F
  obtain ⟨i1,i2,i3,rfl⟩:=F.shape
  refine ⟨_,_,_,rfl,fun MI o=>(At (z.le (D.trans (E.trans o))) (F.le o) (oa (oa s1 s2) s3) Ma (by omega)).mono ?_⟩
  rintro r T U rfl
  have t:H.Le T:=lb.trans (y.trans (l.trans (S.trans (D.trans (E.trans (o.trans U))))))
  refine ⟨_,rfl,fun a Q2 yA=>sG ?_,fun a Mv u=>?_⟩
  ·rw [Bool.not_eq_true'] at a
   rw [a];rfl
  ·have a:decide (iL (iL A B) C=((1:Int):Rat))=true:=by
    cases h:decide (iL (iL A B) C=((1:Int):Rat))
    ·rw [h] at a;cases a
    ·rfl
   rw [a]
   exact ⟨_,rfl,⟨_,_,_,_,_,_,_,_,_,rfl⟩,fun _=>⟨_,_,_,_,_,_,_,_,_,rfl,f.le (t.trans u),g.le (t.trans u),rc.le (t.trans u)⟩⟩
def ND:List Int->Int
 | []=>0
 | x::r=>if x=0 then ND r else x
def P9 (l:List Int):List Value:=l.map fun x=>Value.int .i64 x
theorem Qs {l:List Int}:ND l=0↔∀x∈l,x=0:=by
 induction l with
 | nil=>simp [ND]
 | cons x r ih=>
  simp only [ND,List.mem_cons,forall_eq_or_imp]
  split
  ·rename_i h;simp [h,ih]
  ·rename_i h;simp [h]
theorem J4 {V:View}{p:OA}{n c:Nat}{l:List Int}(hl:n=l.length)(hs:V.sl p (P9 l))(hm:l.length<=1099511627776) :
  ab prog 215 #[.slice p n c] V fun r V'=>r=.int .i64 (ND l):=by
 refine Jw p n c V _ ⟨fun z V'=>0<=z/\z<=n/\ND l=ND (l.drop z.toNat),fun z=>n-z.toNat,⟨0,by (try dsimp only);and_intros<;>first|exact True.intro|rfl,by (try dsimp only);omega,by (try dsimp only);omega,rfl⟩,?_⟩
 rintro i m j ⟨e,f,he⟩
 dsimp only at f he ⊢
 obtain ⟨i,rfl⟩:=Int.eq_ofNat_of_zero_le e
 simp only [Int.toNat_natCast] at he
 refine ⟨by trivial,fun b=>?_,fun b o q=>?_⟩
 ·have b:i<n:=by simpa using b
  have d:i<l.length:=by omega
  obtain ⟨k,h,g⟩:=(j.sl hs) i (.int .i64 l[i]) (by simp [P9,d])
  rw [List.drop_eq_getElem_cons d,ND] at he
  refine ⟨by rw [h];rfl,⟨by omega,by omega⟩,l[i],⟨k.add i,by rw [h];simp [ag],g⟩,fun a V2 s=>?_,fun a=>?_⟩
  ·have a:l[i]≠0:=by simpa using a
   rw [if_neg a] at he
   rw [he]
  ·have a:l[i]=0:=by simpa using a
   rw [if_pos a] at he
   have w:i64.wrap ((i:Int)+1)=((i+1:Nat):Int):=by rw [ay (by omega)];omega
   simp only [w]
   refine ⟨((i+1:Nat):Int),?_,by (try dsimp only);and_intros<;>first|exact True.intro|rfl,by (try dsimp only);omega,by (try dsimp only);omega,?_⟩
   ·(try dsimp only);omega
   ·exact he
 ·have b:i=n:=by simp at b;omega
  rw [List.drop_of_length_le (by omega)] at he
  rw [he];rfl
theorem Iv {V:View}{v w:Value}{a b c a' b' c':Rat}(hx:yD V v a b c)(hy:yD V w a' b' c'){k m:Nat}(s1:Sz k a)(s2:Sz k b)(s3:Sz k c)(t1:Sz m a')(t2:Sz m b')(t3:Sz m c')(hk:k+m<1099511627776) :
  ab prog 183 #[v,w] V fun r V'=>r=.int .i64 (ND [fA a a',fA b b',fA c c']):=by
 obtain ⟨A,B,p,C,D,q,E,F,r,rfl,j,n,o⟩:=hx
 obtain ⟨G,H,I,J,K,L,M,N,O,rfl,s,t,u⟩:=hy
 refine zC _ _ _ _ _ _ _ _ _ _ _ _ _ _ _ _ _ _ V _ fun P d=>(lQ (j.le d) (s.le d) s1 t1 hk).mono ?_
 rintro r V2 e rfl
 refine ⟨_,rfl,fun Q f=>(lQ (n.le (d.trans (e.trans f))) (t.le (d.trans (e.trans f))) s2 t2 hk).mono ?_⟩
 rintro r R x rfl
 have g:=d.trans (e.trans (f.trans x))
 refine ⟨_,rfl,fun S h=>(lQ (o.le (g.trans h)) (u.le (g.trans h)) s3 t3 hk).mono ?_⟩
 rintro r T U rfl
 refine ⟨_,rfl,fun W X Y y=>(J4 (l:=[fA a a',fA b b',fA c c']) rfl (fun i v z=>⟨_,rfl,by rw [add_zero'];exact gH (xs:=P9 [fA a a',fA b b',fA c c']) y z⟩) (by simp)).mono ?_⟩
 rintro r Z l8 rfl
 exact ⟨_,rfl,fun _ V9 l9=>rfl⟩
theorem Ds {V:View}{v w:Value}{a b c a' b' c':Rat}(hx:yD V v a b c)(hy:yD V w a' b' c'){k m:Nat}(s1:Sz k a)(s2:Sz k b)(s3:Sz k c)(t1:Sz m a')(t2:Sz m b')(t3:Sz m c')(hk:k+m<1099511627776) :
  ab prog 134 #[v,w] V fun r V'=>r=.bool (decide (a=a'/\b=b'/\c=c')):=by
 have d:=hx
 have e:=hy
 obtain ⟨g,h,p,i,j,q,l,n,r,rfl,-,-,-⟩:=hx
 obtain ⟨o,s,t,u,x,y,z,A,B,rfl,-,-,-⟩:=hy
 refine um _ _ _ _ _ _ _ _ _ _ _ _ _ _ _ _ _ _ V _ fun C f=>(Iv (d.le f) (e.le f) s1 s2 s3 t1 t2 t3 hk).mono ?_
 rintro r V2 D rfl
 refine ⟨_,rfl,fun E F=>?_⟩
 congr 1
 rw [Bool.eq_iff_iff,decide_eq_true_eq,beq_iff_eq,Qs]
 simp [←iV]
theorem Pp (a:Addr)(i j:Nat):(a.add i).add j=a.add (i+j):=by
 unfold Addr.add
 by_cases b:i=0
 ·subst b;simp
 ·by_cases c:j=0
  ·subst c;simp [b]
  ·simp [b,c,Nat.add_assoc]
theorem Em {a b c:Int}:wS (decide (a<0)) (ah a.natAbs) (decide (b<0)) (ah b.natAbs) (decide (c<0)) (ah c.natAbs)=dH (a,b,c):=by
 have d:∀z:Int,mS (decide (z<0)) (ah z.natAbs)=true:=by
  intro z
  unfold mS
  rw [ae]
  simp only [decide_true,Bool.true_and]
  by_cases h:z<0
  ·simp only [h,decide_true,Bool.not_true,Bool.false_or,decide_eq_true_eq]
   intro e
   have:=bC.1 e
   omega
  ·simp [h]
 have j:iL (iL (a:Rat) (b:Rat)) (c:Rat)=((iE a b c:Nat):Int):=by
  have g:∀x y:Int,iL (x:Rat) (y:Rat)=((Nat.gcd x.natAbs y.natAbs:Nat):Int):=by
   intro x y
   unfold iL
   have k:((x:Rat)).num=x:=rfl
   have l:((y:Rat)).num=y:=rfl
   have m:((x:Rat)).den=1:=rfl
   have n:((y:Rat)).den=1:=rfl
   rw [k,l,m,n]
   simp only [Nat.mul_one]
   exact Rat.mkRat_one _
  rw [g,g]
  rfl
 unfold wS dH
 rw [d,d,d,aG,aG,aG,j]
 have o:∀z:Int,((z:Rat)=0)↔z=0:=fun z=>by exact Rat.intCast_eq_zero_iff
 simp only [Bool.true_and,o]
 rw [Bool.eq_iff_iff]
 simp only [Bool.and_eq_true,Bool.not_eq_true',Bool.and_eq_false_iff,decide_eq_false_iff_not,decide_eq_true_eq]
 have p:(((iE a b c:Nat):Int):Rat)=((1:Int):Rat)↔iE a b c=1:=by
  rw [Rat.intCast_inj];omega
 rw [p]
 constructor
 ·rintro ⟨h,f⟩;exact ⟨fun e=>by rcases h with h|h;exact h e.1;exact h e.2,f⟩
 ·rintro ⟨h,f⟩
  refine ⟨?_,f⟩
  by_cases i:a=0
  ·exact .inr fun q=>h ⟨i,q⟩
  ·exact .inl i
theorem CC {z:Int}{k:Nat}(h:z.natAbs<2^k)(hk:0<k):Sz k (z:Rat):=⟨h,Nat.one_lt_two_pow (by omega)⟩
theorem Bd.ah {x:L3}(h:Bd x):(ah x.1.natAbs).length<=1000/\(ah x.2.1.natAbs).length<=1000/\(ah x.2.2.natAbs).length<=1000:=⟨af h.1,af h.2.1,af h.2.2⟩
theorem Bd.sz {x:L3}(h:Bd x):Sz 1000 (x.1:Rat)/\Sz 1000 (x.2.1:Rat)/\Sz 1000 (x.2.2:Rat):=⟨CC h.1 (by omega),CC h.2.1 (by omega),CC h.2.2 (by omega)⟩
theorem Dt {V:View}{v:Value}{x:L3}(h:RL V v x.1 x.2.1 x.2.2)(hb:Bd x) :
  ab prog 127 #[v] V fun r V'=>∃w,r=.tuple #[w,.bool (dH x)]/\MH w/\(dH x=true->yD V' w x.1 x.2.1 x.2.2):=by
 obtain ⟨p,n,s,f,g,i,q,m,e,rfl,b,c,d⟩:=h
 obtain ⟨d1,d2,d3⟩:=hb.ah
 obtain ⟨s1,s2,s3⟩:=hb.sz
 have a:=vF (V:=V) (decide (x.1<0)) (decide (x.2.1<0)) (decide (x.2.2<0)) b c d (by omega) (by omega) (by omega) (k:=1000) (by rw [aG];exact s1) (by rw [aG];exact s2) (by rw [aG];exact s3) (by omega)
 rw [Em,aG,aG,aG] at a
 exact a
def rH (V:View)(v:Value)(l:L3):Prop:=RL V v l.1 l.2.1 l.2.2\/dH l=false/\∃b1 p n c xs b2 q m e ys b3 s i j zs,v=.agg #[.bool b1,.slice p n c,.bool b2,.slice q m e,.bool b3,.slice s i j]/\RD V p n c xs/\RD V q m e ys/\RD V s i j zs /\
 wS b1 xs b2 ys b3 zs=false/\(xs.length<=1000000/\ys.length<=1000000/\zs.length<=1000000)/\Sz 1000000 (aY b1 xs:Rat)/\Sz 1000000 (aY b2 ys:Rat)/\Sz 1000000 (aY b3 zs:Rat)
theorem rH.le {V V':View}{v:Value}{l:L3}(h:rH V v l)(e:V.Le V'):rH V' v l:=by
 rcases h with h|⟨a,b1,p,n,c,xs,b2,q,m,b,d,b3,s,i,j,f,g,k,o,r,t⟩
 ·exact .inl (h.le e)
 ·exact .inr ⟨a,b1,p,n,c,xs,b2,q,m,b,d,b3,s,i,j,f,g,k.le e,o.le e,r.le e,t⟩
theorem rH.ok {V:View}{v:Value}{l:L3}(h:rH V v l)(ho:dH l=true):RL V v l.1 l.2.1 l.2.2:=by
 rcases h with h|⟨h,-⟩
 ·exact h
 ·rw [ho] at h;cases h
theorem BH {V:View}{v:Value}{x:L3}(h:rH V v x)(hb:Bd x) :
  ab prog 127 #[v] V fun r V'=>∃w,r=.tuple #[w,.bool (dH x)]/\MH w/\(dH x=true->yD V' w x.1 x.2.1 x.2.2):=by
 rcases h with h|⟨a,b1,p,n,c,xs,b2,q,m,l,o,b3,s,i,j,t,rfl,b,d,e,f,⟨u,y,z⟩,s1,s2,s3⟩
 ·exact Dt h hb
 ·refine (vF b1 b2 b3 b d e (by omega) (by omega) (by omega) s1 s2 s3 (by omega)).mono ?_
  rintro r V2 A ⟨w,rfl,g,k⟩
  rw [f] at k ⊢
  rw [a]
  exact ⟨w,rfl,g,fun h=>by cases h⟩
def NR (V:View)(vs:List Value)(l:List Nd):Prop:=∀(i:Nat)(d:Nd),l[i]?=some d->∃(b1:Bool)(p1:OA)(n1 c1:Nat)(b2:Bool)(p2:OA)(n2 c2:Nat)(b3:Bool)(p3:OA)(n3 c3:Nat),
 (∀j v,([.bool b1,.slice p1 n1 c1,.bool b2,.slice p2 n2 c2,.bool b3,.slice p3 n3 c3,.int .i64 d.left,.int .i64 d.right]:List Value)[j]?=some v->vs[i*8+j]?=some v) /\
 rH V (.agg #[.bool b1,.slice p1 n1 c1,.bool b2,.slice p2 n2 c2,.bool b3,.slice p3 n3 c3]) d.ln
theorem NR.le {V V':View}{vs:List Value}{l:List Nd}(h:NR V vs l)(hl:V.Le V'):NR V' vs l:=fun i d a=>by
 obtain ⟨b1,b,c,e,b2,f,g,j,b3,k,m,n,o,p⟩:=h i d a
 exact ⟨b1,b,c,e,b2,f,g,j,b3,k,m,n,o,p.le hl⟩
structure NS (V:View) (p:OA) (n c:Nat) (l:List Nd):Prop where
 len:n=l.length
 cap:n<=c
 row:∃vs,V.sl p vs/\NR V vs l
 Ld:p.isNone=true->c=0
theorem NS.le {V V':View}{p:OA}{n c:Nat}{l:List Nd}(h:NS V p n c l)(hl:V.Le V'):NS V' p n c l:=by
 obtain ⟨a,b,⟨d,e,f⟩,g⟩:=h
 exact ⟨a,b,⟨d,hl.sl e,f.le hl⟩,g⟩
theorem NS.nil {V:View}:NS V none 0 0 []:=⟨rfl,Nat.le_refl _,⟨[],fun i v h=>by simp at h,fun i d h=>by simp at h⟩,fun _=>rfl⟩
theorem NS.rd {V:View}{p:OA}{n c:Nat}{l:List Nd}(h:NS V p n c l){k:Nat}{d:Nd}(hd:l[k]?=some d) :
  ∃(b1:Bool)(p1:OA)(n1 c1:Nat)(b2:Bool)(p2:OA)(n2 c2:Nat)(b3:Bool)(p3:OA)(n3 c3:Nat)(a:Addr),ag p (k*8)=some a /\
   V.at (a.add 0) (.bool b1)/\V.at (a.add 1) (.slice p1 n1 c1)/\V.at (a.add 2) (.bool b2)/\V.at (a.add 3) (.slice p2 n2 c2)/\V.at (a.add 4) (.bool b3)/\V.at (a.add 5) (.slice p3 n3 c3)/\V.at (a.add 6) (.int .i64 d.left)/\V.at (a.add 7) (.int .i64 d.right) /\
   rH V (.agg #[.bool b1,.slice p1 n1 c1,.bool b2,.slice p2 n2 c2,.bool b3,.slice p3 n3 c3]) d.ln:=by
 obtain ⟨r,b,g⟩:=h.row
 obtain ⟨b1,p1,n1,c1,b2,p2,n2,c2,b3,p3,n3,c3,f,i⟩:=g k d hd
 obtain ⟨m,rfl,-⟩:=b _ _ (f 0 _ rfl)
 have key:∀j v,([.bool b1,.slice p1 n1 c1,.bool b2,.slice p2 n2 c2,.bool b3,.slice p3 n3 c3,.int .i64 d.left,.int .i64 d.right]:List Value)[j]?=some v->V.at ((m.add (k*8)).add j) v:=by
  intro j v o
  obtain ⟨s,e,q⟩:=b _ _ (f j v o)
  cases e
  rw [Pp]
  exact q
 exact ⟨b1,p1,n1,c1,b2,p2,n2,c2,b3,p3,n3,c3,_,rfl,key 0 _ rfl,key 1 _ rfl,key 2 _ rfl,key 3 _ rfl,key 4 _ rfl,key 5 _ rfl,key 6 _ rfl,key 7 _ rfl,i⟩
theorem O_ {vs:List Value}{n b:Nat}(h:vs≠[]):vb vs n b=b:=by cases vs with|nil=>exact absurd rfl h|cons v r=>rfl
theorem NR.push {V:View}{vs sp:List Value}{l:List Nd}(h:NR V vs l)(hl:l.length*8<=vs.length){ln:L3}{x y:Int}{b1:Bool}{p1:OA}{n1 c1:Nat}{b2:Bool}{p2:OA}{n2 c2:Nat}{b3:Bool}{p3:OA}{n3 c3:Nat}
  (hL:RL V (.agg #[.bool b1,.slice p1 n1 c1,.bool b2,.slice p2 n2 c2,.bool b3,.slice p3 n3 c3]) ln.1 ln.2.1 ln.2.2) :
  NR V (vs.take (l.length*8)++[.bool b1,.slice p1 n1 c1,.bool b2,.slice p2 n2 c2,.bool b3,.slice p3 n3 c3,.int .i64 x,.int .i64 y]++sp) (l++[⟨ln,x,y⟩]):=by
 intro i d b
 rcases Nat.lt_or_ge i l.length with e|e
 ·rw [List.getElem?_append_left e] at b
  obtain ⟨f,s,g,k,m,t,u,n,o,w,z,p,A,B⟩:=h i d b
  refine ⟨f,s,g,k,m,t,u,n,o,w,z,p,fun j v c=>?_,B⟩
  have a:j<8:=by
   rcases Nat.lt_or_ge j 8 with a|a
   ·exact a
   ·rw [List.getElem?_eq_none (by simpa using a)] at c;cases c
  have:=A j v c
  rw [List.append_assoc,List.getElem?_append_left (by rw [List.length_take];omega),List.getElem?_take,if_pos (by omega)]
  exact this
 ·rw [List.getElem?_append_right e] at b
  have q:i=l.length:=by
   rcases Nat.lt_or_ge (i-l.length) 1 with r|r
   ·omega
   ·rw [List.getElem?_eq_none (by simpa using r)] at b;cases b
  subst q
  simp only [Nat.sub_self,List.getElem?_cons_zero,Option.some.injEq] at b
  subst b
  refine ⟨b1,p1,n1,c1,b2,p2,n2,c2,b3,p3,n3,c3,fun j v c=>?_,.inl hL⟩
  have a:j<8:=by
   rcases Nat.lt_or_ge j 8 with a|a
   ·exact a
   ·rw [List.getElem?_eq_none (by simpa using a)] at c;cases c
  rw [List.append_assoc,List.getElem?_append_right (by rw [List.length_take];omega),List.length_take,Nat.min_eq_left hl,Nat.add_sub_cancel_left,List.getElem?_append_left (by simpa using a)]
  exact c
theorem NR.take {V:View}{vs:List Value}{l:List Nd}(h:NR V vs l):NR V (vs.take (l.length*8)) l:=by
 intro i d b
 obtain ⟨b1,e,f,g,b2,k,m,n,b3,o,p,q,r,s⟩:=h i d b
 refine ⟨b1,e,f,g,b2,k,m,n,b3,o,p,q,fun j v c=>?_,s⟩
 have a:j<8:=by
  rcases Nat.lt_or_ge j 8 with a|a
  ·exact a
  ·rw [List.getElem?_eq_none (by simpa using a)] at c;cases c
 have t:i<l.length:=by
  rcases Nat.lt_or_ge i l.length with h|h
  ·exact h
  ·rw [List.getElem?_eq_none h] at b;cases b
 rw [List.getElem?_take,if_pos (by omega)]
 exact r j v c
def AT (V:View)(v:Value)(root:Int)(l:List Nd):Prop:=∃q n c,v=.agg #[.int .i64 root,.slice q n c]/\NS V q n c l
theorem AT.le {V V':View}{v:Value}{root:Int}{l:List Nd}(h:AT V v root l)(hl:V.Le V'):AT V' v root l:=by
 obtain ⟨q,n,c,e,h⟩:=h;exact ⟨q,n,c,e,h.le hl⟩
theorem AT.zero {V:View}:AT V (.agg #[.int .i64 0,.slice none 0 0]) 0 []:=⟨_,_,_,rfl,NS.nil⟩
theorem RQ.ofNat {V:View}{p:OA}{n c x:Nat}(h:RN V p n c x){b:Bool}(hb:b=decide ((x:Int)<0)):RQ V (.agg #[.bool b,.slice p n c,.slice none 0 0]) ((x:Int):Rat):=
 oU (z:=(x:Int)) (d:=1) rfl rfl h RD.nil hb
theorem RQ.int {V:View}{q:Rat}{b:Bool}{p:OA}{n c:Nat}{p':OA}{n' c':Nat}(h:RQ V (.agg #[.bool b,.slice p n c,.slice p' n' c']) q):RI V (.agg #[.bool b,.slice p n c]) q.num:=by
 obtain ⟨d,f,g,i,j,k,e,a,l⟩:=h
 cases e
 exact ⟨_,_,_,rfl,a⟩
theorem RQ.den {V:View}{q:Rat}{b:Bool}{p:OA}{n c:Nat}{p':OA}{n' c':Nat}(h:RQ V (.agg #[.bool b,.slice p n c,.slice p' n' c']) q):RD V p' n' c' (ua q.den):=by
 obtain ⟨d,f,g,i,j,k,e,l,a⟩:=h
 cases e
 exact a
def nR (px py qx qy:Rat):Rat×Rat×Rat:=
 let a:=-(qy-py);let b:=qx-px;let c:=-(a*px+b*py)
 let f:Rat:=(((a.den*b.den*c.den:Nat):Int):Rat)
 (a*f,b*f,c*f)
theorem QK {n k:Nat}(h:n<2^k)(hk:0<k):Sz k (((n:Nat):Int):Rat):=by
 refine ⟨?_,?_⟩
 ·show ((n:Nat):Int).natAbs<_
  simpa using h
 ·show 1<2^k
  exact Nat.one_lt_two_pow (by omega)
theorem mM {V:View}{u w:Value}{px py qx qy:Rat}(hp:RP V u px py)(hq:RP V w qx qy){k:Nat}(s1:Sz k px)(s2:Sz k py)(s3:Sz k qx)(s4:Sz k qy)(hk1:1<=k)(hk:64*k+64<274877906944) :
  ab prog 11 #[u,w] V fun r V'=>((nR px py qx qy).1.num=0/\(nR px py qx qy).2.1.num=0->∃l,r=.tuple #[l,.bool false]/\RL V' l 0 0 0) /\
   (¬((nR px py qx qy).1.num=0/\(nR px py qx qy).2.1.num=0)->∃l,r=.tuple #[l,.bool true] /\
    RL V' l ((nR px py qx qy).1.num / (iE (nR px py qx qy).1.num (nR px py qx qy).2.1.num (nR px py qx qy).2.2.num:Int)) ((nR px py qx qy).2.1.num / (iE (nR px py qx qy).1.num (nR px py qx qy).2.1.num (nR px py qx qy).2.2.num:Int)) ((nR px py qx qy).2.2.num / (iE (nR px py qx qy).1.num (nR px py qx qy).2.1.num (nR px py qx qy).2.2.num:Int))):=by
 have J:=hp
 have K:=hq
 obtain ⟨p1,n1,c1,p2,n2,c2,p3,n3,c3,p4,n4,c4,rfl,c,d⟩:=hp
 obtain ⟨q1,m1,e1,q2,m2,e2,q3,m3,e3,q4,m4,e4,rfl,-,-⟩:=hq
 refine s_ _ p1 n1 c1 p2 n2 c2 _ p3 n3 c3 p4 n4 c4 _ q1 m1 e1 q2 m2 e2 _ q3 m3 e3 q4 m4 e4 V _ fun V1 L=>(Dz (K.le L) (J.le L) s3 s4 s1 s2 hk1 (by omega)).mono ?_
 rintro r V2 l2 ⟨a1,a2,a3,a4,a5,a6,a7,a8,a9,b7,b8,b9,rfl,f,hd⟩
 have g:Sz (k+k+1) (qx-px):=s3.sub s1
 have td:Sz (k+k+1) (qy-py):=s4.sub s2
 have KD:=L.trans l2
 refine ⟨_,_,_,_,_,_,_,_,_,_,_,_,_,_,rfl,fun V3 q=>(kX (qy-py) (by obtain ⟨_,_,_,_,_,_,e,N,h2⟩:=hd.le q;cases e;exact N) (RQ.den (hd.le q))).mono ?_⟩
 rintro r V4 O n
 obtain ⟨b1,b2,b3,b4,b5,b6,rfl⟩:=n.shape
 have i:=td.neg
 have WM:nR px py qx qy=(-(qy-py)*(((((-(qy-py)).den*(qx-px).den*(-(-(qy-py)*px+(qx-px)*py)).den:Nat):Int):Rat)),(qx-px)*(((((-(qy-py)).den*(qx-px).den*(-(-(qy-py)*px+(qx-px)*py)).den:Nat):Int):Rat)),(-(-(qy-py)*px+(qx-px)*py))*(((((-(qy-py)).den*(qx-px).den*(-(-(qy-py)*px+(qx-px)*py)).den:Nat):Int):Rat))):=rfl
 rw [WM]
 generalize -(qy-py)=A at *
 generalize qx-px=B at *
 replace f:=f.le (q.trans O)
 replace c:=c.le (KD.trans (q.trans O))
 replace d:=d.le (KD.trans (q.trans O))
 refine ⟨_,_,_,_,_,_,_,rfl,fun V5 s=>(aN (n.le s) (c.le s) i s1 (by omega)).mono ?_⟩
 rintro r V6 P g6
 obtain ⟨d1,d2,d3,d4,d5,d6,rfl⟩:=g6.shape
 refine ⟨_,_,_,_,_,_,_,rfl,fun V7 y=>(aN (f.le (s.trans (P.trans y))) (d.le (s.trans (P.trans y))) g s2 (by omega)).mono ?_⟩
 rintro r V8 l8 g8
 obtain ⟨f1,f2,f3,f4,f5,f6,rfl⟩:=g8.shape
 refine ⟨_,_,_,_,_,_,_,rfl,fun V9 Q=>(cw (g6.le (y.trans (l8.trans Q))) (g8.le Q) (i.mul s1) (g.mul s2) (by omega)).mono ?_⟩
 rintro r iI R j
 have z:=((i.mul s1).add (g.mul s2)).neg
 obtain ⟨i1,i2,i3,i4,i5,i6,rfl⟩:=j.shape
 refine ⟨_,_,_,_,_,_,_,rfl,fun ie S=>(kX (A*px+B*py) (by obtain ⟨_,_,_,_,_,_,e,N,h2⟩:=j.le S;cases e;exact N) (RQ.den (j.le S))).mono ?_⟩
 rintro r lL bY T
 generalize -(A*px+B*py)=C at *
 obtain ⟨j1,j2,j3,j4,j5,j6,rfl⟩:=T.shape
 have Np:=s.trans (P.trans (y.trans (l8.trans (Q.trans (R.trans (S.trans bY))))))
 replace n:=n.le Np
 replace f:=f.le Np
 refine ⟨_,_,_,_,_,_,_,rfl,fun o_ D=>(cY A _ (RQ.den (n.le D))).mono ?_⟩
 rintro r mJ U ⟨k1,k2,k3,rfl,W⟩
 refine ⟨_,_,_,rfl,fun lN E=>(cY B _ (RQ.den (f.le (D.trans (U.trans E))))).mono ?_⟩
 rintro r kr X ⟨k4,k5,k6,rfl,Y⟩
 obtain ⟨-,da,-⟩:=cH i
 obtain ⟨-,db,-⟩:=cH g
 obtain ⟨-,dc,-⟩:=cH z
 refine ⟨_,_,_,rfl,fun mZ F=>(cG (W.le (E.trans (X.trans F))) (Y.le F) (by omega)).mono ?_⟩
 rintro r pe dF ⟨k7,k8,k9,rfl,t⟩
 rw [ae,ae] at t
 refine ⟨_,_,_,rfl,fun tj Z=>(cY C _ (RQ.den (T.le (D.trans (U.trans (E.trans (X.trans (F.trans (dF.trans Z))))))))).mono ?_⟩
 rintro r yF gy ⟨c0,c5,c6,rfl,a0⟩
 have c7:=iX (a:=A.den) (b:=B.den)
 refine ⟨_,_,_,rfl,fun uJ fB=>(cG (t.le (Z.trans (gy.trans fB))) (a0.le fB) (by omega)).mono ?_⟩
 rintro r tm iF ⟨c8,c9,d0,rfl,v⟩
 rw [ae,ae] at v
 have o:Sz (k+k+1+(k+k+1)+(k+k+1+k+1+(k+k+1+k+1)+1)) (((A.den*B.den*C.den:Nat):Int):Rat):=QK (bP (bP i.2 g.2) z.2) (by omega)
 generalize A.den*B.den*C.den=M at *
 refine ⟨_,_,_,rfl,fun yx gT=>(rR (v.le gT)).mono ?_⟩
 rintro r Ik nE ⟨d7,d8,d9,rfl,b0⟩
 have hf:=RQ.ofNat b0 rfl
 have Qc:=D.trans (U.trans (E.trans (X.trans (F.trans (dF.trans (Z.trans (gy.trans (fB.trans (iF.trans (gT.trans nE))))))))))
 refine ⟨_,_,_,_,rfl,fun Hq p=>(aN (n.le (Qc.trans p)) (hf.le p) i o (by omega)).mono ?_⟩
 rintro r JB G R4
 obtain ⟨o1,o2,o3,o4,o5,o6,rfl⟩:=R4.shape
 refine ⟨_,_,_,_,_,_,_,rfl,fun MI x=>(aN (f.le (Qc.trans (p.trans (G.trans x)))) (hf.le (p.trans (G.trans x))) g o (by omega)).mono ?_⟩
 rintro r MJ uQ R5
 obtain ⟨o7,o8,o9,e0,e5,e6,rfl⟩:=R5.shape
 refine ⟨_,_,_,_,_,_,_,rfl,fun Q2 H=>(aN (T.le (Qc.trans (p.trans (G.trans (x.trans (uQ.trans H)))))) (hf.le (p.trans (G.trans (x.trans (uQ.trans H))))) z o (by omega)).mono ?_⟩
 rintro r Mv AX iR
 obtain ⟨t1,t2,t3,t4,t5,t6,rfl⟩:=iR.shape
 refine ⟨_,_,_,_,_,_,_,rfl,fun Rn D8=>(yK (RQ.int (R4.le (x.trans (uQ.trans (H.trans (AX.trans D8)))))) (RQ.int (R5.le (H.trans (AX.trans D8)))) (RQ.int (iR.le D8)) (Nat.le_trans (cH (i.mul o)).1 (by omega)) (Nat.le_trans (cH (g.mul o)).1 (by omega)) (Nat.le_trans (cH (z.mul o)).1 (by omega))).mono ?_⟩
 rintro r UY KP ⟨z1,z2⟩
 by_cases I:(A*((M:Int):Rat)).num=0/\(B*((M:Int):Rat)).num=0
 ·obtain ⟨l,rfl,y1,y2,y3,y4,y5,y6,y7,y8,y9,rfl,w1,w2,w3⟩:=z1 I
  exact ⟨_,_,_,_,_,_,_,_,_,_,_,_,_,rfl,fun Uh m=>⟨fun _=>⟨_,rfl,_,_,_,_,_,_,_,_,_,rfl,w1.le m,w2.le m,w3.le m⟩,fun h=>absurd I h⟩⟩
 ·obtain ⟨l,rfl,y1,y2,y3,y4,y5,y6,y7,y8,y9,rfl,w1,w2,w3⟩:=z2 I
  exact ⟨_,_,_,_,_,_,_,_,_,_,_,_,_,rfl,fun Uh m=>⟨fun h=>absurd h I,fun _=>⟨_,rfl,_,_,_,_,_,_,_,_,_,rfl,w1.le m,w2.le m,w3.le m⟩⟩⟩
theorem Of (x y u w:Int):nR (x:Rat) (y:Rat) ((x:Rat)+((1:Int):Rat)*(u:Rat)) ((y:Rat)+((1:Int):Rat)*(w:Rat))=(((-w:Int):Rat),((u:Int):Rat),((w*x-u*y:Int):Rat)):=by
 have a:(x:Rat)+((1:Int):Rat)*(u:Rat)=((x+u:Int):Rat):=by rw [←Rat.intCast_mul,←Rat.intCast_add,Int.one_mul]
 have b:(y:Rat)+((1:Int):Rat)*(w:Rat)=((y+w:Int):Rat):=by rw [←Rat.intCast_mul,←Rat.intCast_add,Int.one_mul]
 rw [a,b]
 have c:-(((y+w:Int):Rat)-(y:Rat))=((-w:Int):Rat):=by rw [←Rat.intCast_sub,←Rat.intCast_neg];congr 1;omega
 have d:((x+u:Int):Rat)-(x:Rat)=((u:Int):Rat):=by rw [←Rat.intCast_sub];congr 1;omega
 have e:-(((-w:Int):Rat)*(x:Rat)+((u:Int):Rat)*(y:Rat))=((w*x-u*y:Int):Rat):=by
  rw [←Rat.intCast_mul,←Rat.intCast_mul,←Rat.intCast_add,←Rat.intCast_neg];congr 1;rw [Int.neg_mul];omega
 have f:(((((-w:Int):Rat).den*((u:Int):Rat).den*((w*x-u*y:Int):Rat).den:Nat):Int):Rat)=1:=rfl
 unfold nR
 dsimp only
 rw [c,d,e,f,Rat.mul_one,Rat.mul_one,Rat.mul_one]
def Cc (a b c:Int):L3:=(a / (iE a b c:Int),b / (iE a b c:Int),c / (iE a b c:Int))
def small (z:Int)(k:Nat):Bool:=decide (z.natAbs<=k)
theorem KZ:∀i:Fin 9,∀j:Fin 9,∀k:Fin 65,(i.1=4/\j.1=4)\/(dH (Cc ((i.1:Int)-4) ((j.1:Int)-4) ((k.1:Int)-32))&&small (Cc ((i.1:Int)-4) ((j.1:Int)-4) ((k.1:Int)-32)).1 32&&small (Cc ((i.1:Int)-4) ((j.1:Int)-4) ((k.1:Int)-32)).2.1 32&&small (Cc ((i.1:Int)-4) ((j.1:Int)-4) ((k.1:Int)-32)).2.2 32)=true:=by decide +kernel
theorem Pu (k:Nat)(hk:6<=k){z:Int}(h:z.natAbs<=32):z.natAbs<2^k:=Nat.lt_of_le_of_lt h (Nat.lt_of_lt_of_le (by decide:32<2^6) (Nat.pow_le_pow_right (by decide) hk))
theorem Rw (k:Nat)(hk:6<=k){x:L3}(h1:x.1.natAbs<=32)(h2:x.2.1.natAbs<=32)(h3:x.2.2.natAbs<=32):x.1.natAbs<2^k/\x.2.1.natAbs<2^k/\x.2.2.natAbs<2^k:=⟨Pu k hk h1,Pu k hk h2,Pu k hk h3⟩
theorem Nu {a b c:Int}(h1:-4<=a/\a<=4)(h2:-4<=b/\b<=4)(h3:-32<=c/\c<=32)(h:¬(a=0/\b=0)):dH (Cc a b c)=true/\Bd (Cc a b c):=by
 have:=KZ ⟨(a+4).toNat,by omega⟩ ⟨(b+4).toNat,by omega⟩ ⟨(c+32).toNat,by omega⟩
 dsimp only at this
 rw [show (((a+4).toNat:Nat):Int)-4=a from by omega,show (((b+4).toNat:Nat):Int)-4=b from by omega,show (((c+32).toNat:Nat):Int)-32=c from by omega] at this
 rcases this with d|d
 ·omega
 ·simp only [Bool.and_eq_true,small,decide_eq_true_eq] at d
  exact ⟨d.1.1.1,Rw 1000 (by decide) d.1.1.2 d.1.2 d.2⟩
theorem K6 {x y:Int}(h1:-4<=x/\x<=4)(h2:-4<=y/\y<=4):-16<=x*y/\x*y<=16:=by
 have:(x*y).natAbs<=4*4:=by rw [Int.natAbs_mul];exact Nat.mul_le_mul (by omega) (by omega)
 omega
theorem Ij {V:View}{v:Value}{a b c:Int}(h:RL V v a b c):∃(b1:Bool)(p1:OA)(n1 c1:Nat)(b2:Bool)(p2:OA)(n2 c2:Nat)(b3:Bool)(p3:OA)(n3 c3:Nat),v=.agg #[.bool b1,.slice p1 n1 c1,.bool b2,.slice p2 n2 c2,.bool b3,.slice p3 n3 c3]:=by
 obtain ⟨p,n,s,d,f,g,q,m,e,rfl,-⟩:=h
 exact ⟨_,_,_,_,_,_,_,_,_,_,_,_,rfl⟩
def JA (V:View)(p:OA)(n:Nat):Prop:=∀i,i<n->∃(a:Addr)(x:Int),ag p (i*1)=some a/\V.at a (.int .i64 x)
theorem JA.le {V V':View}{p:OA}{n:Nat}(h:JA V p n)(l:V.Le V'):JA V' p n:=fun i b=>by
 obtain ⟨a,x,e,c⟩:=h i b;exact ⟨a,x,e,l.at c⟩
def pW (V:View)(tb:Nat)(p:OA)(n c:Nat)(at_:Int):Prop:=V.w.heap[tb]?=some (.cells #[.slice p n c,.int .i64 at_] 136 (0,0))
theorem rP {V:View}{tb:Nat}{p:OA}{n c:Nat}{at_:Int}(k:Int)(hr:JA V p n)(hn:n<=400)(hw:pW V tb p n c at_)(hx:V.X tb)(h0:0<=at_)(hk:0<k)(hk2:k<=1000) :
  ab prog 73 #[.pointer (some ⟨tb,0,none⟩),.int .i64 k] V fun r V'=>∃x at',r=.int .i64 x/\0<=x/\x<k/\0<=at'/\pW V' tb p n c at':=by
 refine pS tb p n c at_ k V _ hw hx ⟨fun g m o e=>⟨0,at_,rfl,by omega,hk,h0,e⟩,fun g=>?_⟩
 have g:at_<n:=by have:=of_decide_eq_false g;omega
 obtain ⟨i,rfl⟩:∃i:Nat,at_=i:=⟨at_.toNat,by omega⟩
 obtain ⟨a,x,d,f⟩:=hr i (by omega)
 have h:p.isSome=true:=by
  cases p with
  | none=>simp [ag] at d
  | some a=>rfl
 have q:(x.tmod k).natAbs<k.natAbs:=by rw [Int.natAbs_tmod];exact Nat.mod_lt _ (by omega)
 have j:i64.wrap ((i:Int)+1)=((i+1:Nat):Int):=by rw [ay (by omega)];omega
 rw [Int.toNat_natCast,j]
 have l:i64.wrap (x.tmod k+k)=x.tmod k+k:=ay (by omega)
 refine ⟨h,⟨by omega,by omega⟩,x,⟨a,d,f⟩,by omega,fun b V2 s e=>⟨x.tmod k+k,_,by rw [l],?_,?_,?_,e⟩,fun b t u e=>⟨_,_,rfl,?_,?_,?_,e⟩⟩
 ·omega
 ·have:=of_decide_eq_true b;omega
 ·omega
 ·have:=of_decide_eq_false b;omega
 ·omega
 ·omega
theorem Y3 {V:View}{tb:Nat}{p:OA}{n c:Nat}{at_:Int}(hr:JA V p n)(hn:n<=400)(hw:pW V tb p n c at_)(hx:V.X tb)(h0:0<=at_) :
  ab prog 99 #[.pointer (some ⟨tb,0,none⟩)] V fun r V'=>∃(x y at':Int),RP V' r (x:Rat) (y:Rat)/\(-4<=x/\x<=4)/\(-4<=y/\y<=4)/\0<=at'/\pW V' tb p n c at':=by
 refine uC tb p n c at_ V _ hw hx fun k i a l m=>(rP (V:=k.bz [a]) 9 (hr.le fun b o h=>i b o h) hn l ⟨by simp,m⟩ h0 (by omega) (by omega)).mono ?_
 rintro r V2 q ⟨x,B,rfl,C,D,t1,d⟩
 refine ⟨_,rfl,_,_,_,_,d,fun s t u v w=>(rP (V:=s.bz [u]) 9 (hr.le fun b o h=>t b o (q b o (i b o h))) hn v ⟨by simp,w⟩ t1 (by omega) (by omega)).mono ?_⟩
 rintro r E F ⟨y,e,rfl,G,H,t2,f⟩
 refine ⟨_,rfl,_,_,_,_,f,fun I J=>?_⟩
 rw [ay (x:=x-4) (by omega),ay (x:=y-4) (by omega)]
 refine (mc (x-4) (y-4) (by omega) (by omega) (by omega) (by omega)).mono ?_
 rintro r K L j
 have g:=j
 obtain ⟨M,N,O,P,Q,R,S,T,U,W,Y,Z,rfl,-⟩:=j
 exact ⟨_,_,_,_,_,_,_,_,_,_,_,_,_,_,rfl,fun V7 z A=>⟨x-4,y-4,e,g.le z,⟨by omega,by omega⟩,⟨by omega,by omega⟩,t2,A⟩⟩
theorem RQ.zero {V:View}:RQ V (.agg #[.bool false,.slice none 0 0,.slice none 0 0]) ((0:Int):Rat):=⟨none,0,0,none,0,0,rfl,RD.nil,RD.nil⟩
theorem RP.zero {V:View}:RP V (.agg #[.bool false,.slice none 0 0,.slice none 0 0,.bool false,.slice none 0 0,.slice none 0 0]) ((0:Int):Rat) ((0:Int):Rat):=
 ⟨none,0,0,none,0,0,none,0,0,none,0,0,rfl,RQ.zero,RQ.zero⟩
theorem Fv {z:Int}(h:-40<=z/\z<=40):Sz 10 (z:Rat):=CC (by omega) (by omega)
theorem c_V {V:View}{tb:Nat}{p:OA}{n c:Nat}{at_:Int}(hr:JA V p n)(hn:n<=400)(hw:pW V tb p n c at_)(hx:V.X tb)(h0:0<=at_) :
  ab prog 101 #[.pointer (some ⟨tb,0,none⟩)] V fun r V'=>∃(x y at':Int),RP V' r (x:Rat) (y:Rat)/\(-4<=x/\x<=4)/\(-4<=y/\y<=4)/\¬(x=0/\y=0)/\0<=at'/\pW V' tb p n c at':=by
 refine uE tb p n c at_ V _ hw hx fun s t d u v=>(Y3 (V:=s.bz [d]) (hr.le fun b o h=>t b o h) hn u ⟨by simp,v⟩ h0).mono ?_
 rintro r V2 P ⟨x,y,k,l,e,f,t1,i⟩
 have a:=l
 obtain ⟨w,z,A,B,C,D,E,F,G,H,I,J,rfl,-⟩:=l
 refine ⟨_,_,_,_,_,_,_,_,_,_,_,_,_,_,rfl,_,_,_,_,i,fun Q m=>(BJ (a.le fun b o h=>m b o h) RP.zero (Fv (by omega)) (Fv (by omega)) (Fv (by omega)) (Fv (by omega)) (by omega)).mono ?_⟩
 rintro r R K rfl
 refine ⟨_,rfl,fun g S T=>(mc 1 0 (by omega) (by omega) (by omega) (by omega)).mono ?_,fun g U L M=>⟨x,y,k,a.le fun b o h=>L b o (K b o (m b o h)),e,f,?_,t1,M⟩⟩
 ·rintro r W Y q
  have j:=q
  obtain ⟨w,z,A,B,C,D,E,F,G,H,I,J,rfl,-⟩:=q
  exact ⟨_,_,_,_,_,_,_,_,_,_,_,_,_,_,rfl,fun Z N O=>⟨1,0,k,j.le N,⟨by omega,by omega⟩,⟨by omega,by omega⟩,by omega,t1,O⟩⟩
 ·rintro ⟨rfl,rfl⟩
  simp at g
theorem c_L {V:View}{tb:Nat}{p:OA}{n c:Nat}{at_:Int}(hr:JA V p n)(hn:n<=400)(hw:pW V tb p n c at_)(hx:V.X tb)(h0:0<=at_) :
  ab prog 39 #[.pointer (some ⟨tb,0,none⟩)] V fun r V'=>∃(x:L3)(at':Int),RL V' r x.1 x.2.1 x.2.2/\dH x=true/\Bd x/\0<=at'/\pW V' tb p n c at':=by
 refine uB tb p n c at_ V _ hw hx fun T F e U W=>(Y3 (V:=T.bz [e]) (hr.le fun b o h=>F b o h) hn U ⟨by simp,W⟩ h0).mono ?_
 rintro r V2 Y ⟨x,y,JP,G,f,g,t1,i⟩
 have d:=G
 obtain ⟨p1,H,c1,p2,I,c2,p3,J,c3,p4,n4,c4,rfl,-⟩:=G
 refine ⟨_,_,_,_,_,_,_,_,_,_,_,_,_,_,rfl,_,_,_,_,i,fun V3 K=>(eI 1 (by omega) (by omega)).mono ?_⟩
 rintro r Z L M
 have j:=M
 obtain ⟨p5,n5,c5,p6,n6,c6,rfl⟩:=M.shape
 refine ⟨_,_,_,_,_,_,_,rfl,fun V5 q Vh e5 h5=>(c_V (V:=V5.bz [Vh]) (hr.le fun b o h=>q b o (L b o (K b o (Y b o (F b o h))))) hn e5 ⟨by simp,h5⟩ t1).mono ?_⟩
 rintro r V6 N ⟨u,w,s,O,t,WR,a0,t2,v⟩
 have z:=O
 obtain ⟨q1,m1,d1,q2,m2,d2,q3,m3,d3,q4,m4,d4,rfl,-⟩:=O
 refine ⟨_,_,_,_,_,_,_,_,_,_,_,_,_,_,rfl,_,_,_,_,v,fun A B=>?_⟩
 have P:V2.Le A:=fun b o h=>B b o (N b o (q b o (L b o (K b o h))))
 have OQ:Z.Le A:=fun b o h=>B b o (N b o (q b o h))
 have Uw:V6.Le A:=fun b o h=>B b o h
 refine (iz (d.le P) (j.le OQ) (z.le Uw) (k:=10) (m:=10) (Fv (by omega)) (Fv (by omega)) (Fv (by omega)) (Fv (by omega)) (Fv (by omega)) (by omega)).mono ?_
 rintro r V8 l8 Q
 have C:=Q
 obtain ⟨s1,i1,j1,s2,i2,j2,s3,i3,j3,s4,i4,j4,rfl,-⟩:=Q
 have f1:(x:Rat)+((1:Int):Rat)*(u:Rat)=((x+u:Int):Rat):=by rw [←Rat.intCast_mul,←Rat.intCast_add,Int.one_mul]
 have f2:(y:Rat)+((1:Int):Rat)*(w:Rat)=((y+w:Int):Rat):=by rw [←Rat.intCast_mul,←Rat.intCast_add,Int.one_mul]
 refine ⟨_,_,_,_,_,_,_,_,_,_,_,_,_,_,rfl,fun V9 R=>(mM (d.le (P.trans (l8.trans R))) (C.le R) (k:=10) (Fv (by omega)) (Fv (by omega)) (by rw [f1];exact Fv (by omega)) (by rw [f2];exact Fv (by omega)) (by omega) (by omega)).mono ?_⟩
 rintro r iI a1 ⟨-,h⟩
 rw [Of] at h
 have H:((-w:Int):Rat).num=-w:=rfl
 have I:((u:Int):Rat).num=u:=rfl
 have J:((w*x-u*y:Int):Rat).num=w*x-u*y:=rfl
 dsimp only at h
 rw [H,I,J] at h
 obtain ⟨l,rfl,S⟩:=h (by omega)
 have m1:=K6 WR f
 have m2:=K6 t g
 obtain ⟨k1,k2⟩:=Nu (a:=-w) (b:=u) (c:=w*x-u*y) (by omega) (by omega) (by omega) (by omega)
 have D:=S
 obtain ⟨b1,u1,v1,w1,b2,u2,v2,w2,b3,u3,v3,w3,rfl⟩:=(Ij S)
 exact ⟨_,_,_,_,_,_,_,_,_,_,_,_,_,rfl,fun ie bA E=>⟨Cc (-w) u (w*x-u*y),s,D.le bA,k1,k2,t2,E⟩⟩
def Tr.depth:Tr->Nat
 | .leaf _=>0
 | .node _ a b=>1+max a.depth b.depth
def Xe:Tr->Int
 | .leaf i=>if i then 0 else 1
 | .node ..=>0
end Go.Proofs.Tryz
