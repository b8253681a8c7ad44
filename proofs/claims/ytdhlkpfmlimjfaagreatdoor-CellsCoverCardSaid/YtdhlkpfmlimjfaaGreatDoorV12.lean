import Derived.Test.YtdhlkpfmlimjfaaGreatDoorV11
import Derived.Test.YtdhlkpfmlimjfaaGreatDoorV10
import Derived.Test.YtdhlkpfmlimjfaaGreatDoorV8
set_option linter.unusedVariables false
open Go.IntKind (i64 u64 u32)
namespace Go.Proofs.Tryz
open Go.Eng Go.Big
theorem mkRat_one (z:Int):mkRat z 1=(z:Rat):=by
 apply Rat.ext
 ·rw [Rat.num_mkRat];simp
 ·rw [Rat.den_mkRat];simp
theorem RD.one {V:View}{bk:Nat}{ty:TypeId}{m:Nat×Nat}(h:V.aW bk (.cells #[.int .u32 1] ty m)):RD V (some ⟨bk,0,none⟩) 1 1 [1]:=
 RD.aW (ds:=[1]) h (by simp [bI]) rfl (Nat.le_refl _)
theorem j_ {V:View}(b:Bool){p:OA}{n c:Nat}{ds:List Nat}(h:RD V p n c ds)(hm:ds.length<=1099511627776) :
  Acts prog 160 #[.agg #[.bool b,.slice p n c]] V fun r V'=>RR V' r (aO b ds:Rat):=by
 refine wI b p n c V _ fun j f k g=>(bW b (h.le f) (RD.one g) hm (by simp)).mono ?_
 rintro r V2 l a
 have e:mkRat (aO b ds) (val [1])=(aO b ds:Rat):=mkRat_one _
 rw [e] at a
 obtain ⟨n,d,p,rfl⟩:=a.shape
 exact ⟨_,_,_,rfl,fun _ m i=>a.le i⟩
theorem ug {z:Int}(h:z.natAbs<4611686018427387904):Wd (z:Rat):=⟨h,by show (1:Nat)<_;decide⟩
theorem gZ {V:View}(n:Int)(h0:-9223372036854775808<=n)(h1:n<=9223372036854775807) :
  Acts prog 164 #[.int .i64 n] V fun r V'=>RR V' r (n:Rat):=by
 have KZ:∀b:View,V.Le b->Acts prog 179 #[.int .i64 n] b fun j V2=>∃GQ:Bool,∃(Ij:OA)(H2 GY:Nat),j=.agg #[.bool GQ,.slice Ij H2 GY]/\(∀a:View,V2.Le a->∀N8:Nat,a.aW N8 (.cells #[.int .u32 1] 225 (0,0))->Acts prog 144 #[.agg #[.bool GQ,.slice Ij H2 GY],.slice (some ⟨N8,0,none⟩) 1 1] a fun l i=>∃VT:Int,∃VU:Int,∃VC:OA,l=.agg #[.int .i64 VT,.int .i64 VU,.pointer VC]/\∀YZ:C->Value,(∀V5:View,i.Le V5->RR V5 (.agg #[.int .i64 VT,.int .i64 VU,.pointer VC]) (n:Rat))):=by
  intro b o
  refine (iL n h0 h1).mono ?_
  rintro r V2 u ⟨p,m,c,rfl,g⟩
  refine ⟨_,_,_,_,rfl,fun a f v q=>(bW _ (g.le f) (RD.one q) (Nat.le_trans (ae (k:=64) (by omega)) (by omega)) (by simp)).mono ?_⟩
  rintro r i w h
  have e:mkRat (aO (decide (n<0)) (af n.natAbs)) (val [1])=(n:Rat):=by rw [aA];exact mkRat_one _
  rw [e] at h
  obtain ⟨n,d,p,rfl⟩:=h.shape
  exact ⟨_,_,_,rfl,fun _ a f=>h.le f⟩
 refine Cx n V _ ⟨fun _=>KZ,fun s=>⟨fun _=>KZ,fun t b o=>.inl ⟨rfl,ug ?_⟩⟩⟩
 rw [decide_eq_false_iff_not] at s t
 omega
theorem dR {V:View}{v:Value}{q:Rat}(h:RR V v q){k:Nat}(hs:Sz k q)(hk:k<=1099511627776) :
  Acts prog 146 #[v] V fun r V'=>r=.int .i64 q.num.sign:=by
 rcases h with ⟨rfl,hw⟩|⟨a,b,p,n,c,o,s,t,rfl,i,j,u,l,w,hw⟩
 ·refine lQ _ _ _ V _ ⟨(fun e=>nomatch e),fun _=>⟨fun h f d=>?_,fun h=>⟨fun g f d=>?_,fun g f d=>?_⟩⟩⟩
  ·rw [Int.sign_eq_neg_one_of_neg (by simpa using h)]
  ·rw [Int.sign_eq_one_of_pos (by simpa using g)]
  ·have:q.num=0:=by rw [decide_eq_false_iff_not] at h g;omega
   rw [this];rfl
 ·obtain ⟨rfl,m⟩:=l.inv
  refine lQ _ _ _ V _ ⟨fun _=>⟨rfl,rfl,decide (q.num<0),p,n,c,a.add 0,rfl,?_,?_,fun f d=>(kS _ (m.le d) (Nat.le_trans (ae hs.1) hk)).mono ?_⟩,(fun e=>nomatch e)⟩
  ·exact i
  ·simpa [Addr.add] using j
  ·rintro r V2 x rfl
   rw [aA]
   exact ⟨_,rfl,fun y z=>rfl⟩
theorem AP {V:View}{v:Value}{q:Rat}(h:RR V v q):Acts prog 161 #[v] V fun r V'=>r=.bool (decide (q=0)):=by
 rcases h with ⟨rfl,hw⟩|⟨a,b,p,n,c,i,j,k,rfl,l,m,o,s,t,hw⟩
 ·refine lR _ _ _ V _ ⟨fun _ f g=>?_,(fun d=>nomatch d)⟩
  congr 1
  rw [Bool.eq_iff_iff,beq_iff_eq,decide_eq_true_eq]
  exact Rat.num_eq_zero
 ·refine lR _ _ _ V _ ⟨(fun d=>nomatch d),fun _ f g=>?_⟩
  congr 1
  symm;rw [decide_eq_false_iff_not]
  intro e;subst e;exact hw ⟨by decide,by decide⟩
theorem iK {V:View}{v:Value}{q:Rat}(h:RR V v q){k:Nat}(hs:Sz k q)(hk:k<=1099511627776) :
  Acts prog 214 #[v] V fun r V'=>RR V' r (-q):=by
 rcases h with ⟨rfl,hw⟩|⟨a,b,p,n,c,i,j,l,rfl,s,t,u,w,x,hw⟩
 ·have:=hw.1
  refine mL _ _ _ V _ ⟨(fun d=>nomatch d),fun _ y e=>.inl ⟨?_,by unfold Wd;rw [Rat.neg_num,Rat.neg_den,Int.natAbs_neg];exact hw⟩⟩
  rw [i64w (by omega),Rat.neg_num,Rat.neg_den,Int.zero_sub]
 ·obtain ⟨rfl,z⟩:=w.inv
  refine mL _ _ _ V _ ⟨fun _=>⟨rfl,rfl,decide (q.num<0),p,n,c,a.add 0,rfl,?_,?_,rfl,rfl,i,j,l,⟨_,rfl,u⟩,fun y e=>(vV _ (z.le e) (Nat.le_trans (ae hs.1) hk)).mono ?_⟩,(fun d=>nomatch d)⟩
  ·exact s
  ·simpa [Addr.add] using t
  ·rintro r V2 A m
   rw [aA] at m
   obtain ⟨B,C,D,rfl,g⟩:=m
   refine ⟨_,_,_,_,rfl,fun F o E f=>.inr ⟨⟨E,0,none⟩,decide (-q.num<0),B,C,D,i,j,l,rfl,?_,?_,?_,?_,?_,?_⟩⟩
   ·rw [add_zero'];exact blk_at (xs:=[_,_,_]) f rfl
   ·rw [add_zero'];exact blk_at (xs:=[_,_,_]) f rfl
   ·rw [add_zero'];exact blk_at (xs:=[_,_,_]) f rfl
   ·exact ⟨_,_,_,rfl,g.le o⟩
   ·exact x.le (e.trans (A.trans o))
   ·unfold Wd;rw [Rat.neg_num,Rat.neg_den,Int.natAbs_neg];exact hw
theorem _root_.Go.Eng.Sz.neg {k:Nat}{q:Rat}(h:Sz k q):Sz k (-q):=by unfold Sz;rw [Rat.neg_num,Rat.neg_den,Int.natAbs_neg];exact h
theorem uz (z:Int)(g:Nat)(h:(g:Int)∣z):(z / g).natAbs<=z.natAbs:=by
 rw [Int.natAbs_ediv_of_dvd h,Int.natAbs_natCast];exact Nat.div_le_self _ _
theorem _root_.Go.Eng.Sz.mkRat {k:Nat}{z:Int}{d:Nat}(h1:z.natAbs<2^k)(h2:d<2^k)(hk:0<k):Sz k (mkRat z d):=by
 have a:1<2^k:=Nat.one_lt_two_pow (by omega)
 unfold Sz
 rw [Rat.num_mkRat,Rat.den_mkRat]
 split
 ·exact ⟨Nat.two_pow_pos k,a⟩
 ·refine ⟨Nat.lt_of_le_of_lt (uz _ _ (Int.ofNat_dvd_left.2 (Nat.gcd_dvd_right _ _))) h1,Nat.lt_of_le_of_lt (Nat.div_le_self _ _) h2⟩
theorem bo {a b k m:Nat}(h1:a<2^k)(h2:b<2^m):a*b<2^(k+m):=by rw [Nat.pow_add];exact Nat.mul_lt_mul'' h1 h2
theorem s_ {x y:Rat}{k m:Nat}(hx:Sz k x)(hy:Sz m y):(x.num*y.den).natAbs<2^(k+m)/\(y.num*x.den).natAbs<2^(k+m)/\(x.num*y.den+y.num*x.den).natAbs<2^(k+m+1)/\x.den*y.den<2^(k+m):=by
 have a:(x.num*y.den).natAbs<2^(k+m):=by rw [Int.natAbs_mul,Int.natAbs_natCast];exact bo hx.1 hy.2
 have b:(y.num*x.den).natAbs<2^(k+m):=by rw [Int.natAbs_mul,Int.natAbs_natCast,Nat.add_comm];exact bo hy.1 hx.2
 refine ⟨a,b,?_,bo hx.2 hy.2⟩
 rw [Nat.pow_succ];omega
theorem _root_.Go.Eng.Sz.add {x y:Rat}{k m:Nat}(hx:Sz k x)(hy:Sz m y):Sz (k+m+1) (x+y):=by
 obtain ⟨-,-,a,b⟩:=s_ hx hy
 rw [Rat.add_def']
 exact Go.Eng.Sz.mkRat a (Nat.lt_of_lt_of_le b (Nat.pow_le_pow_right (by omega) (by omega))) (by omega)
theorem _root_.Go.Eng.Sz.sub {x y:Rat}{k m:Nat}(hx:Sz k x)(hy:Sz m y):Sz (k+m+1) (x-y):=by
 rw [Rat.sub_eq_add_neg];exact hx.add hy.neg
theorem _root_.Go.Eng.Sz.mul {x y:Rat}{k m:Nat}(hx:Sz k x)(hy:Sz m y):Sz (k+m+1) (x*y):=by
 rw [Rat.mul_def']
 refine (Go.Eng.Sz.mkRat (k:=k+m+1) ?_ ?_ (by omega))
 ·rw [Int.natAbs_mul];exact Nat.lt_of_lt_of_le (bo hx.1 hy.1) (Nat.pow_le_pow_right (by omega) (by omega))
 ·exact Nat.lt_of_lt_of_le (bo hx.2 hy.2) (Nat.pow_le_pow_right (by omega) (by omega))
theorem j7 {V:View}{v w:Value}{x y:Rat}(hx:RR V v x)(hy:RR V w y){k m:Nat}(hk:Sz k x)(hm:Sz m y)(hkm:k+m<1099511627776) :
  Acts prog 188 #[v,w] V fun r V'=>RR V' r (x+y):=by
 obtain ⟨Q,R,S,rfl⟩:=hx.shape
 obtain ⟨T,s1,s2,rfl⟩:=hy.shape
 have o:x+y=mkRat (x.num*y.den+y.num*x.den) (x.den*y.den):=Rat.add_def' x y
 obtain ⟨b1,b2,b3,b4⟩:=s_ hk hm
 have gen:(∀QS:View,V.Le QS->Acts prog 139 #[.agg #[.int .i64 Q,.int .i64 R,.pointer S]] QS fun S4 TU=>∃N2:Bool,∃(Ik:OA)(H3 GZ:Nat),S4=.agg #[.bool N2,.slice Ik H3 GZ]/\(∀QT:View,TU.Le QT->Acts prog 207 #[.agg #[.int .i64 T,.int .i64 s1,.pointer s2]] QT fun S5 TV=>∃(PH:OA)(Pr Oa:Nat),S5=.slice PH Pr Oa/\(∀TW:View,TV.Le TW->Acts prog 229 #[.agg #[.bool N2,.slice Ik H3 GZ],.agg #[.bool false,.slice PH Pr Oa]] TW fun S6 Wb=>∃N3:Bool,∃(Il:OA)(H4 G0:Nat),S6=.agg #[.bool N3,.slice Il H4 G0]/\(∀TX:View,Wb.Le TX->Acts prog 139 #[.agg #[.int .i64 T,.int .i64 s1,.pointer s2]] TX fun S7 Wc=>∃N4:Bool,∃(PK:OA)(Pu Od:Nat),S7=.agg #[.bool N4,.slice PK Pu Od]/\(∀TY:View,Wc.Le TY->Acts prog 207 #[.agg #[.int .i64 Q,.int .i64 R,.pointer S]] TY fun S8 We=>∃(Im:OA)(H5 G3:Nat),S8=.slice Im H5 G3/\(∀TZ:View,We.Le TZ->Acts prog 229 #[.agg #[.bool N4,.slice PK Pu Od],.agg #[.bool false,.slice Im H5 G3]] TZ fun S9 Wf=>∃N5:Bool,∃(Io:OA)(H6 G4:Nat),S9=.agg #[.bool N5,.slice Io H6 G4]/\(∀T0:View,Wf.Le T0->Acts prog 228 #[.agg #[.bool N3,.slice Il H4 G0],.agg #[.bool N5,.slice Io H6 G4]] T0 fun S_ Wg=>∃N6:Bool,∃(PN:OA)(Px Og:Nat),S_=.agg #[.bool N6,.slice PN Px Og]/\(∀T1:View,Wg.Le T1->Acts prog 207 #[.agg #[.int .i64 Q,.int .i64 R,.pointer S]] T1 fun Ta Wh=>∃(PO:OA)(Py Oh:Nat),Ta=.slice PO Py Oh/\(∀T2:View,Wh.Le T2->Acts prog 207 #[.agg #[.int .i64 T,.int .i64 s1,.pointer s2]] T2 fun Tb Wi=>∃(Ip:OA)(Pz Oi:Nat),Tb=.slice Ip Pz Oi/\(∀T3:View,Wi.Le T3->Acts prog 206 #[.slice PO Py Oh,.slice Ip Pz Oi] T3 fun Tc Wj=>∃(PR:OA)(PA Oj:Nat),Tc=.slice PR PA Oj/\(∀T4:View,Wj.Le T4->Acts prog 144 #[.agg #[.bool N6,.slice PN Px Og],.slice PR PA Oj] T4 fun Td Wk=>∃Qc:Int,∃Qd:Int,∃PS:OA,Td=.agg #[.int .i64 Qc,.int .i64 Qd,.pointer PS]/\(∀T5:View,Wk.Le T5->RR T5 (.agg #[.int .i64 Qc,.int .i64 Qd,.pointer PS]) (x+y))))))))))))):=by
  intro u g
  refine (eX (hx.le g) hk (by omega)).mono ?_
  rintro r V2 i ⟨p1,n1,c1,rfl,B⟩
  refine ⟨_,_,_,_,rfl,fun V3 j=>(eg (hy.le (g.trans (i.trans j))) hm (by omega)).mono ?_⟩
  rintro r V4 C ⟨p2,n2,c2,rfl,D⟩
  have q1:=ae hk.1
  have q2:=ae hk.2
  have q3:=ae hm.1
  have q4:=ae hm.2
  refine ⟨_,_,_,rfl,fun V5 z=>(fJ _ false (B.le (j.trans (C.trans z))) (D.le z) (by omega)).mono ?_⟩
  rintro r V6 K h6
  rw [aA,nf,ab] at h6
  obtain ⟨p3,n3,c3,rfl,A⟩:=h6
  refine ⟨_,_,_,_,rfl,fun V7 E=>(eX (hy.le (g.trans (i.trans (j.trans (C.trans (z.trans (K.trans E))))))) hm (by omega)).mono ?_⟩
  rintro r V8 L ⟨p4,n4,c4,rfl,M⟩
  refine ⟨_,_,_,_,rfl,fun V9 F=>(eg (hx.le (g.trans (i.trans (j.trans (C.trans (z.trans (K.trans (E.trans (L.trans F))))))))) hk (by omega)).mono ?_⟩
  rintro r U l ⟨p5,n5,c5,rfl,N⟩
  refine ⟨_,_,_,rfl,fun W f=>(fJ _ false (M.le (F.trans (l.trans f))) (N.le f) (by omega)).mono ?_⟩
  rintro r a3 G H
  rw [aA,nf,ab] at H
  obtain ⟨p6,n6,c6,rfl,g6⟩:=H
  have q5:=ae b1
  have q6:=ae b2
  refine ⟨_,_,_,_,rfl,fun a4 q=>(vU _ _ (A.le (E.trans (L.trans (F.trans (l.trans (f.trans (G.trans q))))))) (g6.le q) (by omega) (by omega)).mono ?_⟩
  rintro r a5 dL Gy
  rw [aA,aA] at Gy
  obtain ⟨p7,n7,c7,rfl,g7⟩:=Gy
  have GH:=g.trans (i.trans (j.trans (C.trans (z.trans (K.trans (E.trans (L.trans (F.trans (l.trans (f.trans (G.trans (q.trans dL))))))))))))
  refine ⟨_,_,_,_,rfl,fun a6 X=>(eg (hx.le (GH.trans X)) hk (by omega)).mono ?_⟩
  rintro r lW cY ⟨p8,n8,c8,rfl,g8⟩
  refine ⟨_,_,_,rfl,fun nQ Y=>(eg (hy.le (GH.trans (X.trans (cY.trans Y)))) hm (by omega)).mono ?_⟩
  rintro r qG dU ⟨p9,n9,c9,rfl,g9⟩
  refine ⟨_,_,_,rfl,fun sZ Z=>(fC (g8.le (Y.trans (dU.trans Z))) (g9.le Z) (by omega)).mono ?_⟩
  rintro r C3 jg ⟨NT,a7,a8,rfl,I⟩
  rw [ab,ab] at I
  have q7:=ae b3
  have q8:=ae b4
  refine ⟨_,_,_,rfl,fun vS gj=>(bW _ (g7.le (X.trans (cY.trans (Y.trans (dU.trans (Z.trans (jg.trans gj))))))) (I.le gj) (by omega) (by omega)).mono ?_⟩
  rintro r yA kJ s
  rw [aA,ab,←o] at s
  obtain ⟨n,d,p,rfl⟩:=s.shape
  exact ⟨_,_,_,rfl,fun xj gS=>s.le gS⟩
 have lift:∀u:View,V.Le u->∀V2:View,u.Le V2->V.Le V2:=fun _ h _ h'=>h.trans h'
 rcases hx with ⟨ex,wx⟩|⟨a,b,p,n,c,p',n',c',ex,-,-,-,-,-,wx⟩
 ·rcases hy with ⟨J,wy⟩|⟨a,b,p,n,c,p',n',c',J,-,-,-,-,-,wy⟩
  ·simp only [Value.agg.injEq,Array.mk.injEq,List.cons.injEq,Value.int.injEq,Value.pointer.injEq,true_and,and_true] at ex J
   obtain ⟨rfl,rfl,rfl⟩:=ex
   obtain ⟨rfl,rfl,rfl⟩:=J
   obtain ⟨P7,VQ⟩:=wx
   obtain ⟨P8,VS⟩:=wy
   have dx:=x.den_nz
   have dy:=y.den_nz
   have e1:i64.wrap ((x.den:Int)-1+1)=x.den:=by rw [i64w (by omega)];omega
   have e2:i64.wrap ((y.den:Int)-1+1)=y.den:=by rw [i64w (by omega)];omega
   refine jr _ _ _ _ _ _ V _ ⟨fun _=>⟨fun _ _=>True,⟨fun _=>⟨fun O=>⟨fun P u g=>?_,fun P=>?_⟩,fun O=>?_⟩,(fun h=>nomatch h)⟩,fun _ u g _=>⟨by trivial,fun V2 i=>gen V2 (g.trans i)⟩⟩,(fun h=>nomatch h)⟩
   ·have O:x.den=1:=by rw [beq_iff_eq] at O;omega
    have P:y.den=1:=by rw [beq_iff_eq] at P;omega
    rw [i64w (by omega)]
    refine (gZ _ (by omega) (by omega)).mono ?_
    rintro r V2 i t
    have e:((x.num+y.num:Int):Rat)=x+y:=by
     rw [o,O,P]
     simp only [Nat.mul_one,Int.natCast_one,Int.mul_one]
     exact (mkRat_one _).symm
    rw [e] at t
    obtain ⟨n,d,p,rfl⟩:=t.shape
    exact ⟨_,_,_,rfl,fun V3 j=>t.le j⟩
   all_goals
    rw [e1,e2]
    refine fun V4 C=>(eY _ _ P7 (by omega)).mono ?_
    rintro r V5 z ⟨z1,rfl,a0⟩
    refine ⟨_,_,rfl,fun V6 K=>(eY _ _ P8 (by omega)).mono ?_⟩
    rintro r V7 E ⟨z2,rfl,a1⟩
    refine ⟨_,_,rfl,fun V8 L=>(eY _ _ (by omega) (by omega)).mono ?_⟩
    rintro r V9 F ⟨z3,rfl,a2⟩
    refine ⟨_,_,rfl,fun B=>⟨fun D=>⟨fun A=>⟨fun M=>⟨fun N U l=>?_,fun _=>⟨(),by and_intros<;>rfl,trivial⟩⟩,fun _=>⟨(),by and_intros<;>rfl,trivial⟩⟩,fun _=>⟨(),by and_intros<;>rfl,trivial⟩⟩,fun _=>⟨(),by and_intros<;>rfl,trivial⟩⟩,fun _=>⟨(),by and_intros<;>rfl,trivial⟩⟩
    rw [decide_eq_true_eq] at B D A M N
    have k1:=a0 B
    have k2:=a1 D
    have k3:=a2 A
    rw [←k1] at B
    rw [←k2] at D
    rw [←Int.natCast_mul,Int.natAbs_natCast] at A
    rw [←Int.natCast_mul] at k3
    rw [i64w (by omega)] at M N ⊢
    rw [k3]
    refine (mC _ _ (by omega) A (Nat.mul_ne_zero dx dy)).mono ?_
    rintro r W f t
    rw [k1,k2,←o] at t
    obtain ⟨n,d,p,rfl⟩:=t.shape
    exact ⟨_,_,_,rfl,fun V3 j=>t.le j⟩
  ·simp only [Value.agg.injEq,Array.mk.injEq,List.cons.injEq,Value.int.injEq,Value.pointer.injEq,true_and,and_true] at ex J
   obtain ⟨rfl,rfl,rfl⟩:=ex
   obtain ⟨rfl,rfl,rfl⟩:=J
   exact jr _ _ _ _ _ _ V _ ⟨fun _=>⟨fun _ _=>True,⟨(fun h=>nomatch h),fun _=>⟨(),by and_intros<;>rfl,trivial⟩⟩,fun _ u g _=>⟨by trivial,fun V2 i=>gen V2 (g.trans i)⟩⟩,(fun h=>nomatch h)⟩
 ·simp only [Value.agg.injEq,Array.mk.injEq,List.cons.injEq,Value.int.injEq,Value.pointer.injEq,true_and,and_true] at ex
  obtain ⟨rfl,rfl,rfl⟩:=ex
  exact jr _ _ _ _ _ _ V _ ⟨(fun h=>nomatch h),fun _=>gen⟩
end Go.Proofs.Tryz
namespace Go.Big
def fE (x y:Rat):Int:=(x-y).num.sign
def fX (x y:Rat):Rat:=mkRat (Nat.gcd (x.num.natAbs*y.den) (y.num.natAbs*x.den):Nat) (x.den*y.den)
theorem BV {q:Rat}:q.num<0↔q<0:=by
 have:=@Rat.num_nonneg q
 rw [←Rat.not_le,←this];omega
theorem BW {q:Rat}:0<q.num↔0<q:=by
 have b:=@Rat.num_nonneg q
 have c:=@Rat.num_eq_zero q
 rw [Rat.lt_iff_le_and_ne,←b]
 constructor
 ·intro h;exact ⟨by omega,fun e=>by rw [←e] at h;simp at h⟩
 ·rintro ⟨h,a⟩
  have:q.num≠0:=fun e=>a (c.1 e).symm
  omega
theorem EI {x y:Rat}:x<y↔fE x y=-1:=by
 unfold fE
 rw [Int.sign_eq_neg_one_iff_neg,BV,Rat.lt_iff_sub_pos x y,←Rat.neg_sub y x]
 constructor
 ·intro h;have:=Rat.neg_lt_neg h;simpa using this
 ·intro h;have:=Rat.neg_lt_neg h;rw [Rat.neg_neg] at this;simpa using this
theorem EH {x y:Rat}:y<x↔fE x y=1:=by
 unfold fE
 rw [Int.sign_eq_one_iff_pos,BW,Rat.lt_iff_sub_pos y x]
theorem iO {x y:Rat}:x=y↔fE x y=0:=by
 unfold fE
 rw [Int.sign_eq_zero_iff_zero,Rat.num_eq_zero]
 constructor
 ·intro h;subst h;exact Rat.sub_self
 ·intro h
  have:=congrArg (·+ y) h
  simpa [Rat.sub_add_cancel,Rat.zero_add] using this
end Go.Big
namespace Go.Proofs.Tryz
open Go.Eng Go.Big
theorem yM {V:View}{v w:Value}{x y:Rat}(hx:RR V v x)(hy:RR V w y){k m:Nat}(hk:Sz k x)(hm:Sz m y)(hkm:k+m<1099511627776) :
  Acts prog 232 #[v,w] V fun r V'=>RR V' r (x-y):=by
 obtain ⟨h,i,j,rfl⟩:=hx.shape
 obtain ⟨l,s1,s2,rfl⟩:=hy.shape
 refine wH _ _ _ _ _ _ V _ fun o b=>(iK (hy.le b) hm (by omega)).mono ?_
 rintro r V2 f c
 obtain ⟨n,d,p,rfl⟩:=c.shape
 refine ⟨_,_,_,rfl,fun q e=>(j7 (hx.le (b.trans (f.trans e))) (c.le e) hk hm.neg hkm).mono ?_⟩
 rintro r s t a
 rw [←Rat.sub_eq_add_neg] at a
 obtain ⟨n,d,p,rfl⟩:=a.shape
 exact ⟨_,_,_,rfl,fun u g=>a.le g⟩
theorem j8 {V:View}{v w:Value}{x y:Rat}(hx:RR V v x)(hy:RR V w y){k m:Nat}(hk:Sz k x)(hm:Sz m y)(hkm:k+m<1099511627776) :
  Acts prog 208 #[v,w] V fun r V'=>r=.int .i64 (fE x y):=by
 obtain ⟨u,z,A,rfl⟩:=hx.shape
 obtain ⟨B,s1,s2,rfl⟩:=hy.shape
 have gen:∀V14:View,V.Le V14->Acts prog 232 #[.agg #[.int .i64 u,.int .i64 z,.pointer A],.agg #[.int .i64 B,.int .i64 s1,.pointer s2]] V14 fun C i=>∃VV:Int,∃P9:Int,∃PE:OA,C=.agg #[.int .i64 VV,.int .i64 P9,.pointer PE]/\(∀lW:View,i.Le lW->Acts prog 146 #[.agg #[.int .i64 VV,.int .i64 P9,.pointer PE]] lW fun D E=>∃P_:Int,D=.int .i64 P_/\(∀qG:View,E.Le qG->Value.int .i64 P_=.int .i64 (fE x y))):=by
  intro j f
  refine (yM (hx.le f) (hy.le f) hk hm hkm).mono ?_
  rintro r V2 O s
  obtain ⟨n,d,p,rfl⟩:=s.shape
  refine ⟨_,_,_,rfl,fun P F=>(dR (s.le F) (hk.sub hm) (by omega)).mono ?_⟩
  rintro r Q R rfl
  exact ⟨_,rfl,fun _ _=>rfl⟩
 rcases hx with ⟨ex,G⟩|⟨a,b,p,n,c,H,I,J,ex,-,-,-,-,-,G⟩
 ·rcases hy with ⟨g,K⟩|⟨a,b,p,n,c,H,I,J,g,-,-,-,-,-,K⟩
  ·simp only [Value.agg.injEq,Array.mk.injEq,List.cons.injEq,Value.int.injEq,Value.pointer.injEq,true_and,and_true] at ex g
   obtain ⟨rfl,rfl,rfl⟩:=ex
   obtain ⟨rfl,rfl,rfl⟩:=g
   have l:x.den=y.den->((x<y↔x.num<y.num)/\(y<x↔y.num<x.num)/\(x=y↔x.num=y.num)):=by
    intro e
    have t:(0:Int)<y.den:=by have:=y.den_nz;omega
    refine ⟨?_,?_,fun h=>by rw [h],fun h=>Rat.ext h e⟩
    ·rw [Rat.lt_iff,e];exact ⟨fun h=>Int.lt_of_mul_lt_mul_right h (by omega),fun h=>Int.mul_lt_mul_of_pos_right h t⟩
    ·rw [Rat.lt_iff,e];exact ⟨fun h=>Int.lt_of_mul_lt_mul_right h (by omega),fun h=>Int.mul_lt_mul_of_pos_right h t⟩
   refine js _ _ _ _ _ _ V _ ⟨fun _=>⟨fun _=>⟨fun o=>?_,fun _=>gen⟩,(fun h=>nomatch h)⟩,(fun h=>nomatch h)⟩
   have o:x.den=y.den:=by rw [beq_iff_eq] at o;omega
   obtain ⟨L,M,N⟩:=l o
   refine ⟨fun h j f=>?_,fun h=>⟨fun q j f=>?_,fun q j f=>?_⟩⟩
   ·rw [EI.1 (L.2 (by simpa using h))]
   ·rw [EH.1 (M.2 (by simpa using q))]
   ·rw [iO.1 (N.2 (by rw [decide_eq_false_iff_not] at h q;omega))]
  ·simp only [Value.agg.injEq,Array.mk.injEq,List.cons.injEq,Value.int.injEq,Value.pointer.injEq,true_and,and_true] at ex g
   obtain ⟨rfl,rfl,rfl⟩:=ex
   obtain ⟨rfl,rfl,rfl⟩:=g
   exact js _ _ _ _ _ _ V _ ⟨fun _=>⟨(fun h=>nomatch h),fun _=>gen⟩,(fun h=>nomatch h)⟩
 ·simp only [Value.agg.injEq,Array.mk.injEq,List.cons.injEq,Value.int.injEq,Value.pointer.injEq,true_and,and_true] at ex
  obtain ⟨rfl,rfl,rfl⟩:=ex
  exact js _ _ _ _ _ _ V _ ⟨(fun h=>nomatch h),fun _=>gen⟩
theorem xD {V:View}{v w:Value}{x y:Rat}(hx:RR V v x)(hy:RR V w y){k m:Nat}(hk:Sz k x)(hm:Sz m y)(hkm:k+m<1099511627776) :
  Acts prog 163 #[v,w] V fun r V'=>r=.bool (decide (x=y)):=by
 obtain ⟨b,c,d,rfl⟩:=hx.shape
 obtain ⟨e,s1,s2,rfl⟩:=hy.shape
 refine se _ _ _ _ _ _ V _ fun f a=>(j8 (hx.le a) (hy.le a) hk hm hkm).mono ?_
 rintro r V2 g rfl
 refine ⟨_,rfl,fun h i=>?_⟩
 congr 1
 rw [Bool.eq_iff_iff,beq_iff_eq,decide_eq_true_eq,iO]
theorem Bl {x y:Rat}{k m:Nat}(hx:Sz k x)(hy:Sz m y):x.num.natAbs*y.den<2^(k+m)/\y.num.natAbs*x.den<2^(k+m)/\Nat.gcd (x.num.natAbs*y.den) (y.num.natAbs*x.den)<2^(k+m)/\x.den*y.den<2^(k+m):=by
 have a:x.num.natAbs*y.den<2^(k+m):=bo hx.1 hy.2
 have b:y.num.natAbs*x.den<2^(k+m):=by rw [Nat.add_comm];exact bo hy.1 hx.2
 refine ⟨a,b,?_,bo hx.2 hy.2⟩
 rcases Nat.eq_zero_or_pos (x.num.natAbs*y.den) with e|e
 ·rw [e,Nat.gcd_zero_left];exact b
 ·exact Nat.lt_of_le_of_lt (Nat.le_of_dvd e (Nat.gcd_dvd_left _ _)) a
theorem lV {x y:Rat}{k m:Nat}(hx:Sz k x)(hy:Sz m y):Sz (k+m+1) (fX x y):=by
 obtain ⟨-,-,a,b⟩:=Bl hx hy
 have c:2^(k+m)<=2^(k+m+1):=Nat.pow_le_pow_right (by omega) (by omega)
 exact Go.Eng.Sz.mkRat (by rw [Int.natAbs_natCast];omega) (by omega) (by omega)
theorem j9 {V:View}{v w:Value}{x y:Rat}(hx:RR V v x)(hy:RR V w y){k m:Nat}(hk:Sz k x)(hm:Sz m y)(hkm:k+m<1099511627776) :
  Acts prog 162 #[v,w] V fun r V'=>RR V' r (fX x y):=by
 obtain ⟨C,D,E,rfl⟩:=hx.shape
 obtain ⟨F,s1,s2,rfl⟩:=hy.shape
 obtain ⟨b1,b2,b3,b4⟩:=Bl hk hm
 have q1:=ae hk.1
 have q2:=ae hk.2
 have q3:=ae hm.1
 have q4:=ae hm.2
 have q5:=ae b1
 have q6:=ae b2
 have q7:=ae b3
 have q8:=ae b4
 have gen:(∀T6:View,V.Le T6->Acts prog 207 #[.agg #[.int .i64 C,.int .i64 D,.pointer E]] T6 fun Te Wl=>∃(PF:OA)(Pp N9:Nat),Te=.slice PF Pp N9/\(∀T7:View,Wl.Le T7->Acts prog 207 #[.agg #[.int .i64 F,.int .i64 s1,.pointer s2]] T7 fun Tf Wm=>∃(PG:OA)(Pq N_:Nat),Tf=.slice PG Pq N_/\(∀T8:View,Wm.Le T8->Acts prog 206 #[.slice PF Pp N9,.slice PG Pq N_] T8 fun Tg Wn=>∃(Ik:OA)(H3 GZ:Nat),Tg=.slice Ik H3 GZ/\(∀T9:View,Wn.Le T9->Acts prog 139 #[.agg #[.int .i64 C,.int .i64 D,.pointer E]] T9 fun Th Wo=>∃QY:Bool,∃(PI:OA)(Ps Ob:Nat),Th=.agg #[.bool QY,.slice PI Ps Ob]/\(∀T_:View,Wo.Le T_->Acts prog 207 #[.agg #[.int .i64 F,.int .i64 s1,.pointer s2]] T_ fun Ti Wp=>∃(Il:OA)(H4 G0:Nat),Ti=.slice Il H4 G0/\(∀Ua:View,Wp.Le Ua->Acts prog 206 #[.slice PI Ps Ob,.slice Il H4 G0] Ua fun Tj Wq=>∃(PJ:OA)(Pt Oc:Nat),Tj=.slice PJ Pt Oc/\(∀Ub:View,Wq.Le Ub->Acts prog 139 #[.agg #[.int .i64 F,.int .i64 s1,.pointer s2]] Ub fun Tk Wr=>∃QZ:Bool,∃(Im:OA)(H5 G3:Nat),Tk=.agg #[.bool QZ,.slice Im H5 G3]/\(∀Uc:View,Wr.Le Uc->Acts prog 207 #[.agg #[.int .i64 C,.int .i64 D,.pointer E]] Uc fun Tl Ws=>∃(PL:OA)(Pv Oe:Nat),Tl=.slice PL Pv Oe/\(∀Ud:View,Ws.Le Ud->Acts prog 206 #[.slice Im H5 G3,.slice PL Pv Oe] Ud fun Tn Wt=>∃(Io:OA)(H6 G4:Nat),Tn=.slice Io H6 G4/\(∀Ue:View,Wt.Le Ue->Acts prog 183 #[.slice PJ Pt Oc,.slice Io H6 G4] Ue fun To Wu=>∃(PM:OA)(Pw Of:Nat),To=.slice PM Pw Of/\(∀Uf:View,Wu.Le Uf->Acts prog 144 #[.agg #[.bool false,.slice PM Pw Of],.slice Ik H3 GZ] Uf fun Tp Wv=>∃Qa:Int,∃Qb:Int,∃Ip:OA,Tp=.agg #[.int .i64 Qa,.int .i64 Qb,.pointer Ip]/\(∀NZ:View,Wv.Le NZ->RR NZ (.agg #[.int .i64 Qa,.int .i64 Qb,.pointer Ip]) (fX x y))))))))))))):=by
  intro O l
  refine (eg (hx.le l) hk (by omega)).mono ?_
  rintro r V2 o ⟨p1,n1,c1,rfl,g1⟩
  refine ⟨_,_,_,rfl,fun V3 z=>(eg (hy.le (l.trans (o.trans z))) hm (by omega)).mono ?_⟩
  rintro r V4 G ⟨p2,n2,c2,rfl,g2⟩
  refine ⟨_,_,_,rfl,fun V5 A=>(fC (g1.le (z.trans (G.trans A))) (g2.le A) (by omega)).mono ?_⟩
  rintro r V6 P ⟨p3,n3,c3,rfl,Q⟩
  rw [ab,ab] at Q
  have H:=l.trans (o.trans (z.trans (G.trans (A.trans P))))
  refine ⟨_,_,_,rfl,fun V7 q=>(eX (hx.le (H.trans q)) hk (by omega)).mono ?_⟩
  rintro r V8 I ⟨p4,n4,c4,rfl,g4⟩
  refine ⟨_,_,_,_,rfl,fun V9 B=>(eg (hy.le (H.trans (q.trans (I.trans B)))) hm (by omega)).mono ?_⟩
  rintro r a0 g ⟨p5,n5,c5,rfl,g5⟩
  refine ⟨_,_,_,rfl,fun a1 f=>(fC (g4.le (B.trans (g.trans f))) (g5.le f) (by omega)).mono ?_⟩
  rintro r a2 s ⟨p6,n6,c6,rfl,R⟩
  rw [ab,ab] at R
  have S:=H.trans (q.trans (I.trans (B.trans (g.trans (f.trans s)))))
  refine ⟨_,_,_,rfl,fun a3 i=>(eX (hy.le (S.trans i)) hm (by omega)).mono ?_⟩
  rintro r a4 T ⟨p7,n7,c7,rfl,g7⟩
  refine ⟨_,_,_,_,rfl,fun a5 J=>(eg (hx.le (S.trans (i.trans (T.trans J)))) hk (by omega)).mono ?_⟩
  rintro r lW U ⟨p8,n8,c8,rfl,g8⟩
  refine ⟨_,_,_,rfl,fun nQ K=>(fC (g7.le (J.trans (U.trans K))) (g8.le K) (by omega)).mono ?_⟩
  rintro r qG dU ⟨p9,n9,c9,rfl,W⟩
  rw [ab,ab] at W
  have X:=i.trans (T.trans (J.trans (U.trans (K.trans dU))))
  refine ⟨_,_,_,rfl,fun sZ L=>(xG (R.le (X.trans L)) (W.le L) (by omega) (by omega)).mono ?_⟩
  rintro r C3 jg ⟨NT,a6,a7,rfl,t⟩
  rw [ab,ab] at t
  refine ⟨_,_,_,rfl,fun vS Y=>(bW false (t.le Y) (Q.le (q.trans (I.trans (B.trans (g.trans (f.trans (s.trans (X.trans (L.trans (jg.trans Y)))))))))) (by omega) (by omega)).mono ?_⟩
  rintro r yA kJ j
  rw [nf,ab,ab] at j
  obtain ⟨n,d,p,rfl⟩:=j.shape
  exact ⟨_,_,_,rfl,fun xj gS=>j.le gS⟩
 rcases hx with ⟨ex,Z⟩|⟨a,b,p,n,c,p',n',c',ex,-,-,-,-,-,Z⟩
 ·rcases hy with ⟨u,wy⟩|⟨a,b,p,n,c,p',n',c',u,-,-,-,-,-,wy⟩
  ·simp only [Value.agg.injEq,Array.mk.injEq,List.cons.injEq,Value.int.injEq,Value.pointer.injEq,true_and,and_true] at ex u
   obtain ⟨rfl,rfl,rfl⟩:=ex
   obtain ⟨rfl,rfl,rfl⟩:=u
   obtain ⟨P7,VQ⟩:=Z
   obtain ⟨P8,VS⟩:=wy
   refine lP _ _ _ _ _ _ V _ ⟨fun _=>⟨fun _=>⟨fun M=>⟨fun _ _=>True,⟨fun N O l=>?_,fun _=>⟨(),by and_intros<;>rfl,trivial⟩⟩,fun _ O l _=>⟨by trivial,fun V2 o=>gen V2 (l.trans o)⟩⟩,fun _=>gen⟩,(fun h=>nomatch h)⟩,(fun h=>nomatch h)⟩
   have M:x.den=1:=by rw [beq_iff_eq] at M;omega
   have N:y.den=1:=by rw [beq_iff_eq] at N;omega
   refine (g_ _ (by omega) (by omega)).mono ?_
   rintro r V2 o rfl
   refine ⟨_,rfl,fun V3 z=>(g_ _ (by omega) (by omega)).mono ?_⟩
   rintro r V4 G rfl
   refine ⟨_,rfl,fun V5 A=>(tC _ _ (by omega) (by omega)).mono ?_⟩
   rintro r V6 P rfl
   refine ⟨_,rfl,fun V7 q=>.inl ?_⟩
   have e:fX x y=((Nat.gcd x.num.natAbs y.num.natAbs:Nat):Int):=by
    unfold fX
    rw [M,N,Nat.mul_one,Nat.mul_one,Nat.mul_one]
    exact mkRat_one _
   have hl:Nat.gcd x.num.natAbs y.num.natAbs<4611686018427387904:=by
    rcases Nat.eq_zero_or_pos x.num.natAbs with e|e
    ·rw [e,Nat.gcd_zero_left];exact P8
    ·exact Nat.lt_of_le_of_lt (Nat.le_of_dvd e (Nat.gcd_dvd_left _ _)) P7
   rw [e,i64w (by omega)]
   exact ⟨rfl,ug (by rw [Int.natAbs_natCast];exact hl)⟩
  ·simp only [Value.agg.injEq,Array.mk.injEq,List.cons.injEq,Value.int.injEq,Value.pointer.injEq,true_and,and_true] at ex u
   obtain ⟨rfl,rfl,rfl⟩:=ex
   obtain ⟨rfl,rfl,rfl⟩:=u
   exact lP _ _ _ _ _ _ V _ ⟨fun _=>⟨(fun h=>nomatch h),fun _=>gen⟩,(fun h=>nomatch h)⟩
 ·simp only [Value.agg.injEq,Array.mk.injEq,List.cons.injEq,Value.int.injEq,Value.pointer.injEq,true_and,and_true] at ex
  obtain ⟨rfl,rfl,rfl⟩:=ex
  exact lP _ _ _ _ _ _ V _ ⟨(fun h=>nomatch h),fun _=>gen⟩
def RA (V:View)(v:Value)(q:Rat):Prop:=∃p n c p' n' c',v=.agg #[.bool (decide (q.num<0)),.slice p n c,.slice p' n' c']/\RD V p n c (af q.num.natAbs)/\RD V p' n' c' (af q.den)
theorem RA.le {V V':View}{v:Value}{q:Rat}(h:RA V v q)(l:V.Le V'):RA V' v q:=by
 obtain ⟨p,n,c,a,b,d,e,f,g⟩:=h
 exact ⟨p,n,c,a,b,d,e,f.le l,g.le l⟩
theorem mQ {V:View}(b:Bool){p q:OA}{n c m e:Nat}{xs ys:List Nat}(hx:RD V p n c xs)(hy:RD V q m e ys)(hm:xs.length<=1099511627776)(hn:ys.length<=1099511627776) :
  Acts prog 105 #[.agg #[.bool b,.slice p n c,.slice q m e]] V fun r V'=>RR V' r (mkRat (aO b xs) (val ys)):=by
 refine D_ b p n c q m e V _ fun f a=>(bW b (hx.le a) (hy.le a) hm hn).mono ?_
 rintro r V2 g h
 obtain ⟨u,v,w,rfl⟩:=h.shape
 exact ⟨_,_,_,rfl,fun i d=>h.le d⟩
theorem xE {V:View}{v:Value}{q:Rat}(h:RA V v q){k:Nat}(hs:Sz k q)(hk:k<=1099511627776):Acts prog 105 #[v] V fun r V'=>RR V' r q:=by
 obtain ⟨p,n,c,d,e,f,rfl,a,b⟩:=h
 have g:=ae hs.1
 have i:=ae hs.2
 refine (mQ _ a b (by omega) (by omega)).mono ?_
 rintro r V' _ h
 rw [aA,ab,Rat.mkRat_self] at h
 exact h
theorem iJ {V:View}{v w:Value}{x y:Rat}(hx:RR V v x)(hy:RR V w y){k m:Nat}(hk:Sz k x)(hm:Sz m y)(hkm:k+m<1099511627776) :
  Acts prog 219 #[v,w] V fun r V'=>RR V' r (x*y):=by
 obtain ⟨Y,Z,r2,rfl⟩:=hx.shape
 obtain ⟨s0,s1,s2,rfl⟩:=hy.shape
 have j:x*y=mkRat (x.num*y.num) (x.den*y.den):=Rat.mul_def' x y
 have b1:(x.num*y.num).natAbs<2^(k+m):=by rw [Int.natAbs_mul,Nat.pow_add];exact Nat.mul_lt_mul'' hk.1 hm.1
 have b2:x.den*y.den<2^(k+m):=by rw [Nat.pow_add];exact Nat.mul_lt_mul'' hk.2 hm.2
 have q1:=ae hk.1
 have q2:=ae hk.2
 have q3:=ae hm.1
 have q4:=ae hm.2
 have q5:=ae b1
 have q6:=ae b2
 refine wF Y Z r2 s0 s1 s2 V _ ⟨fun hr=>⟨fun _ _=>True,⟨fun hs=>?_,fun _=>⟨(),by (try dsimp only);and_intros<;>trivial,trivial⟩⟩,fun _ V8 l8 _=>⟨rfl,fun V9 XZ=>?_⟩⟩,fun _ V9 l=>?_⟩
 ·rcases hx with ⟨ex,W⟩|⟨a,b,p,n,c,p',n',c',ex,-,-,-,-,-,W⟩
  ·rcases hy with ⟨t,X⟩|⟨a,b,p,n,c,p',n',c',t,-,-,-,-,-,X⟩
   ·simp only [Value.agg.injEq,Array.mk.injEq,List.cons.injEq,Value.int.injEq,Value.pointer.injEq,true_and,and_true] at ex t
    obtain ⟨rfl,rfl,rfl⟩:=ex
    obtain ⟨rfl,rfl,rfl⟩:=t
    obtain ⟨P7,VQ⟩:=W
    obtain ⟨P8,VS⟩:=X
    have dx:=x.den_nz
    have dy:=y.den_nz
    have e1:i64.wrap ((x.den:Int)-1+1)=x.den:=by rw [i64w (by omega)];omega
    have e2:i64.wrap ((y.den:Int)-1+1)=y.den:=by rw [i64w (by omega)];omega
    rw [e1,e2]
    intro V1 l1
    refine (eY _ _ P7 P8).mono ?_
    rintro r V2 l2 ⟨z1,rfl,E⟩
    refine ⟨_,_,rfl,fun V3 l3=>(eY _ _ (by omega) (by omega)).mono ?_⟩
    rintro r V4 l4 ⟨z2,rfl,F⟩
    refine ⟨_,_,rfl,fun t1=>⟨fun t2 V5 l5=>?_,fun _=>⟨(),by (try dsimp only);and_intros<;>trivial,trivial⟩⟩,fun _=>⟨(),by (try dsimp only);and_intros<;>trivial,trivial⟩⟩
    have t1:=of_decide_eq_true t1
    have t2:=of_decide_eq_true t2
    rw [E t1,F t2]
    have hd:((x.den:Int)*(y.den:Int))=((x.den*y.den:Nat):Int):=(Int.natCast_mul ..).symm
    rw [hd] at t2 ⊢
    refine (mC _ _ t1 (by rwa [Int.natAbs_natCast] at t2) (Nat.mul_ne_zero dx dy)).mono ?_
    rintro r V6 l6 G
    rw [←j] at G
    obtain ⟨n,d,p,rfl⟩:=G.shape
    exact ⟨_,_,_,rfl,fun V7 l7=>G.le l7⟩
   ·simp only [Value.agg.injEq,Array.mk.injEq,List.cons.injEq,Value.int.injEq,Value.pointer.injEq,true_and,and_true] at t
    obtain ⟨rfl,rfl,rfl⟩:=t
    cases hs
  ·simp only [Value.agg.injEq,Array.mk.injEq,List.cons.injEq,Value.int.injEq,Value.pointer.injEq,true_and,and_true] at ex
   obtain ⟨rfl,rfl,rfl⟩:=ex
   cases hr
 ·have l:=l8.trans XZ
  refine (eX (hx.le l) hk (by omega)).mono ?_
  rintro r H h ⟨p1,n1,c1,rfl,I⟩
  refine ⟨_,_,_,_,rfl,fun J e=>(eX (hy.le (l.trans (h.trans e))) hm (by omega)).mono ?_⟩
  rintro r K i ⟨p2,n2,c2,rfl,L⟩
  refine ⟨_,_,_,_,rfl,fun M f=>(fJ _ _ (I.le (e.trans (i.trans f))) (L.le f) (by omega)).mono ?_⟩
  rintro r N O u
  rw [aA,aA] at u
  obtain ⟨p3,n3,c3,rfl,P⟩:=u
  have z:=l.trans (h.trans (e.trans (i.trans (f.trans O))))
  refine ⟨_,_,_,_,rfl,fun Q o=>(eg (hx.le (z.trans o)) hk (by omega)).mono ?_⟩
  rintro r lW A ⟨p4,n4,c4,rfl,R⟩
  refine ⟨_,_,_,rfl,fun nQ q=>(eg (hy.le (z.trans (o.trans (A.trans q)))) hm (by omega)).mono ?_⟩
  rintro r qG B ⟨p5,n5,c5,rfl,S⟩
  refine ⟨_,_,_,rfl,fun sZ s=>(fC (R.le (q.trans (B.trans s))) (S.le s) (by omega)).mono ?_⟩
  rintro r C3 T ⟨p6,n6,c6,rfl,C⟩
  rw [ab,ab] at C
  refine ⟨_,_,_,rfl,fun vS D=>(bW _ (P.le (o.trans (A.trans (q.trans (B.trans (s.trans (T.trans D))))))) (C.le D) (by omega) (by omega)).mono ?_⟩
  rintro r yA kJ g
  rw [aA,ab,←j] at g
  obtain ⟨n,d,p,rfl⟩:=g.shape
  exact ⟨_,_,_,rfl,fun xj U=>g.le U⟩
 ·skip
  refine (eX (hx.le l) hk (by omega)).mono ?_
  rintro r H h ⟨p1,n1,c1,rfl,I⟩
  refine ⟨_,_,_,_,rfl,fun J e=>(eX (hy.le (l.trans (h.trans e))) hm (by omega)).mono ?_⟩
  rintro r K i ⟨p2,n2,c2,rfl,L⟩
  refine ⟨_,_,_,_,rfl,fun M f=>(fJ _ _ (I.le (e.trans (i.trans f))) (L.le f) (by omega)).mono ?_⟩
  rintro r N O u
  rw [aA,aA] at u
  obtain ⟨p3,n3,c3,rfl,P⟩:=u
  have z:=l.trans (h.trans (e.trans (i.trans (f.trans O))))
  refine ⟨_,_,_,_,rfl,fun Q o=>(eg (hx.le (z.trans o)) hk (by omega)).mono ?_⟩
  rintro r lW A ⟨p4,n4,c4,rfl,R⟩
  refine ⟨_,_,_,rfl,fun nQ q=>(eg (hy.le (z.trans (o.trans (A.trans q)))) hm (by omega)).mono ?_⟩
  rintro r qG B ⟨p5,n5,c5,rfl,S⟩
  refine ⟨_,_,_,rfl,fun sZ s=>(fC (R.le (q.trans (B.trans s))) (S.le s) (by omega)).mono ?_⟩
  rintro r C3 T ⟨p6,n6,c6,rfl,C⟩
  rw [ab,ab] at C
  refine ⟨_,_,_,rfl,fun vS D=>(bW _ (P.le (o.trans (A.trans (q.trans (B.trans (s.trans (T.trans D))))))) (C.le D) (by omega) (by omega)).mono ?_⟩
  rintro r yA kJ g
  rw [aA,ab,←j] at g
  obtain ⟨n,d,p,rfl⟩:=g.shape
  exact ⟨_,_,_,rfl,fun xj U=>g.le U⟩
theorem inv_neg {q:Rat}(h:q.num<0):(q⁻¹).num=-(q.den:Int)/\(q⁻¹).den=q.num.natAbs:=by
 show (Rat.inv q).num=_/\(Rat.inv q).den=_
 unfold Rat.inv
 rw [dif_pos h]
 exact ⟨rfl,rfl⟩
theorem inv_pos {q:Rat}(h:0<q.num):(q⁻¹).num=(q.den:Int)/\(q⁻¹).den=q.num.natAbs:=by
 show (Rat.inv q).num=_/\(Rat.inv q).den=_
 unfold Rat.inv
 rw [dif_neg (by omega),dif_pos h]
 exact ⟨rfl,rfl⟩
theorem inv_zero {q:Rat}(h:q.num=0):q⁻¹=0:=by
 have:q=0:=Rat.num_eq_zero.1 h
 subst this
 exact Rat.inv_zero
theorem fl {k:Nat}{q:Rat}(h:Sz k q):Sz k q⁻¹:=by
 rcases Int.lt_trichotomy q.num 0 with a|a|a
 ·obtain ⟨b,c⟩:=inv_neg a
  refine ⟨?_,?_⟩
  ·rw [b,Int.natAbs_neg];exact h.2
  ·rw [c];exact h.1
 ·rw [inv_zero a]
  exact ⟨Nat.two_pow_pos _,Nat.lt_of_le_of_lt (Nat.pos_of_ne_zero q.den_nz) h.2⟩
 ·obtain ⟨b,c⟩:=inv_pos a
  exact ⟨by rw [b];exact h.2,by rw [c];exact h.1⟩
theorem Jt {V:View}{v:Value}{q:Rat}(h:RR V v q){k:Nat}(hs:Sz k q)(hk:k<=1099511627776):Acts prog 236 #[v] V fun r V'=>RR V' r q⁻¹:=by
 rcases h with ⟨rfl,hw⟩|⟨a,b,p,n,c,s,t,y,rfl,z,A,B,C,D,hw⟩
 ·obtain ⟨l,m⟩:=hw
  have H:=q.den_nz
  refine mK _ _ _ V _ ⟨(fun d=>nomatch d),fun _=>⟨fun g I J=>?_,fun g=>⟨fun j K L=>?_,fun j M N=>?_⟩⟩⟩
  ·have g:=of_decide_eq_true g
   obtain ⟨f,i⟩:=inv_neg g
   refine .inl ⟨?_,?_⟩
   ·rw [f,i,i64w (x:=(q.den:Int)-1+1) (by omega),i64w (x:=0-q.num) (by omega),i64w (x:=0-((q.den:Int)-1+1)) (by omega),i64w (by omega)]
    congr 4
    ·omega
    ·congr 1;omega
   ·unfold Wd;rw [f,i,Int.natAbs_neg];exact ⟨m,l⟩
  ·have j:q.num=0:=by simpa using j
   rw [inv_zero j]
   exact .inl ⟨rfl,by decide,by decide⟩
  ·have g:¬q.num<0:=of_decide_eq_false g
   have j:q.num≠0:=by simpa using j
   obtain ⟨f,i⟩:=inv_pos (q:=q) (by omega)
   refine .inl ⟨?_,?_⟩
   ·rw [f,i,i64w (x:=(q.den:Int)-1+1) (by omega),i64w (by omega)]
    congr 4
    ·omega
    ·congr 1;omega
   ·unfold Wd;rw [f,i];exact ⟨m,l⟩
 ·obtain ⟨rfl,E⟩:=C.inv
  have O:=ae hs.1
  have P:=ae hs.2
  refine mK _ _ _ V _ ⟨fun _=>⟨rfl,rfl,rfl,decide (q.num<0),⟨a.add 0,by simp [addrAdd,Addr.add],z⟩,rfl,rfl,s,t,y,⟨a.add 2,rfl,B⟩,rfl,rfl,rfl,p,n,c,⟨a.add 1,by simp [addrAdd,Addr.add],A⟩,fun Q o=>(bW _ (D.le o) (E.le o) (by omega) (by omega)).mono ?_⟩,fun d=>nomatch d⟩
  rintro r V2 R h
  have e:mkRat (aO (decide (q.num<0)) (af q.den)) (val (af q.num.natAbs))=q⁻¹:=by
   rw [ab]
   have F:aO (decide (q.num<0)) (af q.den)=if q.num<0 then -(q.den:Int) else (q.den:Int):=by
    unfold aO
    rw [ab]
    by_cases g:q.num<0<;>simp [g]
   rw [F]
   rcases Int.lt_trichotomy q.num 0 with d|d|d
   ·obtain ⟨f,i⟩:=inv_neg d
    rw [if_pos d,←f,←i,Rat.mkRat_self]
   ·rw [inv_zero d,d];simp
   ·obtain ⟨f,i⟩:=inv_pos d
    rw [if_neg (by omega),←f,←i,Rat.mkRat_self]
  rw [e] at h
  obtain ⟨u,v,w,rfl⟩:=h.shape
  exact ⟨_,_,_,rfl,fun S G=>h.le G⟩
theorem yL {V:View}{v w:Value}{x y:Rat}(hx:RR V v x)(hy:RR V w y){k m:Nat}(hk:Sz k x)(hm:Sz m y)(hkm:k+m<1099511627776) :
  Acts prog 213 #[v,w] V fun r V'=>RR V' r (x*y⁻¹):=by
 have a:=hx
 have b:=hy
 obtain ⟨h,i,j,rfl⟩:=hx.shape
 obtain ⟨l,s1,s2,rfl⟩:=hy.shape
 refine wG h i j l s1 s2 V _ fun q d=>(Jt (b.le d) hm (by omega)).mono ?_
 rintro r V2 n e
 have c:=e
 obtain ⟨u,v,w,rfl⟩:=e.shape
 refine ⟨_,_,_,rfl,fun s f=>(iJ (a.le (d.trans (n.trans f))) (c.le f) hk (fl hm) hkm).mono ?_⟩
 rintro r t z g
 have o:=g
 obtain ⟨u,v,w,rfl⟩:=g.shape
 exact ⟨_,_,_,rfl,fun A p=>o.le p⟩
theorem KW (a b:Nat)(ha:a<4294967296)(hb:b<4294967296):aX .and .u32 (a:Int) (b:Int)=((a &&& b:Nat):Int):=by
 have c:(BitVec.ofInt IntKind.u32.bits ((a:Nat):Int) &&& BitVec.ofInt IntKind.u32.bits ((b:Nat):Int)).toNat=a &&& b:=by
  show (BitVec.ofInt 32 ((a:Nat):Int) &&& BitVec.ofInt 32 ((b:Nat):Int)).toNat=_
  rw [BitVec.ofInt_natCast,BitVec.ofInt_natCast,BitVec.toNat_and,BitVec.toNat_ofNat,BitVec.toNat_ofNat,Nat.mod_eq_of_lt (by omega),Nat.mod_eq_of_lt (by omega)]
 have d:a &&& b<2^32:=Nat.and_lt_two_pow a (by omega)
 rw [aX,gI,c]
 omega
theorem SX (a b:Nat)(ha:a<4294967296)(hb:b<4294967296):aX .or .u32 (a:Int) (b:Int)=((a ||| b:Nat):Int):=by
 have c:(BitVec.ofInt IntKind.u32.bits ((a:Nat):Int) ||| BitVec.ofInt IntKind.u32.bits ((b:Nat):Int)).toNat=a ||| b:=by
  show (BitVec.ofInt 32 ((a:Nat):Int) ||| BitVec.ofInt 32 ((b:Nat):Int)).toNat=_
  rw [BitVec.ofInt_natCast,BitVec.ofInt_natCast,BitVec.toNat_or,BitVec.toNat_ofNat,BitVec.toNat_ofNat,Nat.mod_eq_of_lt (by omega),Nat.mod_eq_of_lt (by omega)]
 have d:a ||| b<2^32:=Nat.or_lt_two_pow (by omega) (by omega)
 rw [aX,gI,c]
 omega
theorem I8 (a b:Nat)(ha:a<4294967296)(hb:b<4294967296):aX .xor .u32 (a:Int) (b:Int)=((a ^^^ b:Nat):Int):=by
 have c:(BitVec.ofInt IntKind.u32.bits ((a:Nat):Int) ^^^ BitVec.ofInt IntKind.u32.bits ((b:Nat):Int)).toNat=a ^^^ b:=by
  show (BitVec.ofInt 32 ((a:Nat):Int) ^^^ BitVec.ofInt 32 ((b:Nat):Int)).toNat=_
  rw [BitVec.ofInt_natCast,BitVec.ofInt_natCast,BitVec.toNat_xor,BitVec.toNat_ofNat,BitVec.toNat_ofNat,Nat.mod_eq_of_lt (by omega),Nat.mod_eq_of_lt (by omega)]
 have d:a ^^^ b<2^32:=Nat.xor_lt_two_pow (by omega) (by omega)
 rw [aX,gI,c]
 omega
theorem P4 {n:Nat}(h:n<4294967296):n / 2147483648=if n.testBit 31 then 1 else 0:=by
 rw [Nat.testBit_eq_decide_div_mod_eq]
 have:(2:Nat)^31=2147483648:=by decide
 rw [this]
 split
 ·rename_i a;simp at a;omega
 ·rename_i a;simp at a;omega
theorem EB {n:Nat}(h:n<4294967296):n.testBit 31=decide (2147483648<=n):=by
 rw [Nat.testBit_eq_decide_div_mod_eq]
 have:(2:Nat)^31=2147483648:=by decide
 rw [this]
 congr 1
 simp;omega
theorem GX (x y c:Nat)(hx:x<4294967296)(hy:y<4294967296)(hc:c<=1){d:Nat}(hd:(d:Int)=((x:Int)-y-c)%4294967296) :
  (((4294967295 ^^^ x) &&& y) ||| ((4294967295 ^^^ (x ^^^ y)) &&& d)) / 2147483648=if x<y+c then 1 else 0:=by
 have k:(4294967295 ^^^ x)<2^32:=Nat.xor_lt_two_pow (by omega) (by omega)
 have b:x ^^^ y<2^32:=Nat.xor_lt_two_pow (by omega) (by omega)
 have l:(4294967295 ^^^ (x ^^^ y))<2^32:=Nat.xor_lt_two_pow (by omega) b
 have e:(4294967295 ^^^ x) &&& y<2^32:=Nat.and_lt_two_pow _ (by omega)
 have f:(4294967295 ^^^ (x ^^^ y)) &&& d<2^32:=Nat.and_lt_two_pow _ (by omega)
 have g:=Nat.or_lt_two_pow e f
 rw [P4 g]
 have a:d<4294967296:=by omega
 rw [Nat.testBit_or,Nat.testBit_and,Nat.testBit_and,Nat.testBit_xor,Nat.testBit_xor,Nat.testBit_xor,EB hx,EB hy,EB a,EB (n:=4294967295) (by omega)]
 by_cases h:2147483648<=x<;>by_cases i:2147483648<=y<;>by_cases j:2147483648<=d<;>simp [h,i,j]<;>omega
theorem Ju {V:View}(x y c:Nat)(hx:x<4294967296)(hy:y<4294967296)(hc:c<=1) :
  Acts prog 193 #[.int .u32 (x:Int),.int .u32 (y:Int),.int .u32 (c:Int)] V fun r V'=>∃d b:Nat,r=.tuple #[.int .u32 (d:Int),.int .u32 (b:Int)]/\d<4294967296/\b<=1/\d+(y+c)=x+4294967296*b:=by
 refine nN _ _ _ V _ ⟨by omega,fun n o=>?_⟩
 obtain ⟨d,g⟩:∃d:Nat,(d:Int)=((x:Int)-y-c)%4294967296:=⟨(((x:Int)-y-c)%4294967296).toNat,by omega⟩
 have a:d<4294967296:=by omega
 have h:u32.wrap (u32.wrap ((x:Int)-y)-c)=(d:Int):=by rw [gI,gI];omega
 have i:IntKind.u32.max=((4294967295:Nat):Int):=rfl
 have j:(4294967295 ^^^ x)<2^32:=Nat.xor_lt_two_pow (by omega) (by omega)
 have f:x ^^^ y<2^32:=Nat.xor_lt_two_pow (by omega) (by omega)
 have k:(4294967295 ^^^ (x ^^^ y))<2^32:=Nat.xor_lt_two_pow (by omega) f
 have l:(4294967295 ^^^ x) &&& y<2^32:=Nat.and_lt_two_pow _ (by omega)
 have m:(4294967295 ^^^ (x ^^^ y)) &&& d<2^32:=Nat.and_lt_two_pow _ (by omega)
 rw [h,i,I8 _ _ (by omega) hx,KW _ _ j hy,I8 _ _ hx hy,I8 _ _ (by omega) f,KW _ _ k a,SX _ _ l m,e_]
 have e:(2:Nat)^31=2147483648:=by decide
 rw [e,GX x y c hx hy hc g]
 refine ⟨d,_,rfl,a,?_,?_⟩
 ·split<;>omega
 ·split<;>omega
theorem Jq {V:View}(hi lo y:Nat)(hh:hi<y)(hl:lo<4294967296)(hy:y<4294967296) :
  Acts prog 154 #[.int .u32 (hi:Int),.int .u32 (lo:Int),.int .u32 (y:Int)] V fun r V'=>r=.tuple #[.int .u32 (((hi*4294967296+lo) / y:Nat):Int),.int .u32 (((hi*4294967296+lo)%y:Nat):Int)]:=by
 have key:∀b:View,Value.tuple #[.int .u32 (u32.wrap (u64.wrap ((aX .or .u64 (u64.wrap ((u64.wrap (hi:Int))*2^32)) (u64.wrap (lo:Int))).tdiv (u64.wrap (y:Int))))),.int .u32 (u32.wrap ((aX .or .u64 (u64.wrap ((u64.wrap (hi:Int))*2^32)) (u64.wrap (lo:Int))).tmod (u64.wrap (y:Int))))]=.tuple #[.int .u32 (((hi*4294967296+lo) / y:Nat):Int),.int .u32 (((hi*4294967296+lo)%y:Nat):Int)]:=by
  intro _
  have c:((2:Int)^32)=4294967296:=by decide
  have d:u64.wrap (hi:Int)=hi:=aH (by omega)
  have e:u64.wrap (lo:Int)=lo:=aH (by omega)
  have a:u64.wrap (y:Int)=y:=aH (by omega)
  have f:u64.wrap ((hi:Int)*4294967296)=(hi:Int)*4294967296:=aH (by omega)
  rw [d,c,f,e,a,B1 _ _ (by omega) hl]
  have g:(hi:Int)*4294967296+lo=((hi*4294967296+lo:Nat):Int):=by omega
  rw [g,←Int.ofNat_tdiv,←Int.ofNat_tmod]
  have m:(hi*4294967296+lo) / y<4294967296:=by
   rw [Nat.div_lt_iff_lt_mul (by omega)]
   have:(hi+1)*4294967296<=y*4294967296:=Nat.mul_le_mul_right _ hh
   omega
  have n:(hi*4294967296+lo)%y<y:=Nat.mod_lt _ (by omega)
  generalize (hi*4294967296+lo) / y=q at *
  generalize (hi*4294967296+lo)%y=r at *
  have i:u64.wrap (q:Int)=q:=aH (by omega)
  have j:u32.wrap (q:Int)=q:=oY (by omega)
  have k:u32.wrap (r:Int)=r:=oY (by omega)
  rw [i,j,k]
 have a:u64.wrap (y:Int)=y:=aH (by omega)
 refine nK _ _ _ V _ ⟨fun _=>⟨fun h=>?_,fun _=>⟨by omega,by rw [a];omega,by rw [a];omega,fun b l=>key b⟩⟩,fun _=>⟨by omega,by rw [a];omega,by rw [a];omega,fun b l=>key b⟩⟩
 simp at h;omega
theorem cL {V:View}{p:OA}{n c:Nat}{ds:List Nat}(h:RD V p n c ds)(hm:ds.length<=4611686018427387904) :
  Acts prog 116 #[.slice p n c] V fun r V'=>∃k,r=.slice p k c/\RD V' p k c (bR ds):=by
 have j:=h.len
 have l:=h.cap
 refine CS p n c V _ ?_
 refine ⟨fun z V'=>0<=z/\z<=n/\bR (ds.take z.toNat)=bR ds,fun z=>z.toNat,⟨n,by (try dsimp only);and_intros<;>first|exact True.intro|rfl,by (try dsimp only);omega,by (try dsimp only);omega,?_⟩,?_⟩
 ·simp [j]
 ·rintro k o e ⟨f,m,d⟩
  obtain ⟨k,rfl⟩:=Int.eq_ofNat_of_zero_le f
  dsimp only at m d ⊢
  simp only [Int.toNat_natCast] at d
  refine ⟨rfl,fun a=>?_,fun a=>?_⟩
  ·have a:0<k:=by simpa using a
   have w:i64.wrap ((k:Int)-1)=((k-1:Nat):Int):=by rw [i64w (by omega)];omega
   simp only [w]
   have g:ds.take k=ds.take (k-1)++[ds[k-1]]:=by rw [←List.take_succ_eq_append_getElem (by omega),Nat.sub_add_cancel a]
   refine (h.le e).rd (k-1) rfl (by omega) ⟨fun b=>?_,fun b=>?_⟩
   ·have b:ds[k-1]=0:=by simpa using b
    refine ⟨_,?_,by (try dsimp only);and_intros<;>first|exact True.intro|rfl,?_,?_,?_⟩
    ·(try dsimp only);omega
    ·(try dsimp only);omega
    ·(try dsimp only);omega
    ·(try dsimp only)
     rw [←d,g,b,f_];rfl
   ·have b:ds[k-1]≠0:=by simpa using b
    refine ⟨⟨by omega,by omega⟩,fun V2 i=>⟨k,rfl,?_⟩⟩
    rw [←d,g,nE _ _ b,←g]
    exact ((h.le e).le i).take (by omega)
  ·have a:k=0:=by simpa using a
   subst a
   refine ⟨⟨by omega,by omega⟩,fun V2 i=>⟨0,rfl,?_⟩⟩
   rw [←d]
   exact ((h.le e).le i).take (by omega)
theorem dk {V:View}(u:Nat)(h1:u<18446744073709551616) :
  Acts prog 115 #[.int .u64 (u:Int)] V fun r V'=>∃q k c',r=.slice q k c'/\RN V' q k c' u:=by
 refine CT _ V _ ⟨by omega,fun e h f a=>?_⟩
 rw [kF,gI,oY (by omega)] at a
 have a:e.aW f (.cells (ay [u%4294967296,u / 4294967296]).toArray 225 (0,0)):=by
  simpa [ay] using a
 have d:bI [u%4294967296,u / 4294967296]:=by simp [bI];omega
 refine (cL (RD.aW a d (n:=2) (c:=2) rfl (Nat.le_refl _)) (by simp)).mono ?_
 rintro r V2 i ⟨k,rfl,b⟩
 refine ⟨_,_,_,rfl,fun _ j g=>⟨_,_,_,rfl,?_⟩⟩
 rw [aJ d] at b
 have:val [u%4294967296,u / 4294967296]=u:=by simp;omega
 rw [this] at b
 exact b.le g
theorem lY {V:View} :
  Acts prog 117 #[] V fun r V'=>∃q k c',r=.slice q k c'/\RN V' q k c' 1:=by
 refine Eo V _ fun b e c a=>⟨_,_,_,rfl,?_⟩
 have d:af 1=[1]:=Jz (by omega) (by omega)
 unfold RN
 rw [d]
 have a:b.aW c (.cells (ay [1]).toArray 225 (0,0)):=by
  simpa [ay] using a
 exact RD.aW a (by simp [bI]) rfl (Nat.le_refl _)
def Gj (x:Int):Int:=if 0<x then 1 else if x<0 then -1 else 0
theorem Dg {V:View}(x:Int) :
  Acts prog 191 #[.int .i64 x] V fun r V'=>r=.int .i64 (Gj x):=by
 refine CV x V _ ⟨fun h b c=>?_,fun h=>⟨fun a b c=>?_,fun a b c=>?_⟩⟩
 ·have h:0<x:=by simpa using h
  rw [Gj,if_pos h]
 ·have h:x<0:=by simpa using a
  rw [Gj,if_neg (by omega),if_pos h]
 ·have h:¬0<x:=by simpa using h
  have a:¬x<0:=by simpa using a
  rw [Gj,if_neg h,if_neg a]
theorem gO {V:View}{p q:OA}{n c m e:Nat}{x y:Nat}(ha:RN V p n c x)(hb:RN V q m e y)(hm:(af x).length<=1099511627776)(hn:(af y).length<=1099511627776) :
  Acts prog 150 #[.slice p n c,.slice q m e] V fun r V'=>r=.int .i64 (jC x y):=by
 have v:=ha.len
 have A:=hb.len
 refine Ej p n c q m e V _ ⟨fun g D E=>?_,fun g=>?_⟩
 ·have w:i64.wrap ((n:Int)-m)=(n:Int)-m:=i64w (by omega)
  simp only [w]
  refine (Dg _).mono ?_
  rintro r V2 F rfl
  refine ⟨_,rfl,fun G H=>?_⟩
  have g:n≠m:=by simp at g;omega
  congr 1
  rcases Nat.lt_or_ge n m with h|h
  ·have:=jI (a:=x) (b:=y) (by omega)
   rw [jC,if_pos this,Gj,if_neg (by omega),if_pos (by omega)]
  ·have:=jI (a:=y) (b:=x) (by omega)
   rw [jC,if_neg (by omega),if_pos this,Gj,if_pos (by omega)]
 ·have g:n=m:=by simp at g;omega
  subst g
  have w:i64.wrap ((n:Int)-1)=(n:Int)-1:=i64w (by omega)
  simp only [w]
  refine ⟨fun z V'=>-1<=z/\z<n/\(af x).drop (z+1).toNat=(af y).drop (z+1).toNat,fun z=>(z+1).toNat,⟨_,by (try dsimp only);and_intros<;>first|exact True.intro|rfl,by (try dsimp only);omega,by (try dsimp only);omega,?_⟩,?_⟩
  ·(try dsimp only)
   rw [List.drop_of_length_le (by omega),List.drop_of_length_le (by omega)]
  ·rintro i I j ⟨k,o,s⟩
   dsimp only at k o s ⊢
   refine ⟨by trivial,fun d=>?_,fun d J K=>?_⟩
   ·have d:0<=i:=by simpa using d
    obtain ⟨i,rfl⟩:=Int.eq_ofNat_of_zero_le d
    have w:i64.wrap ((i:Int)-1)=(i:Int)-1:=i64w (by omega)
    simp only [w]
    have f:(af x).drop (i+1)=(af y).drop (i+1):=s
    refine (ha.le j).rd i rfl (by omega) ((hb.le j).rd i rfl (by omega) ⟨fun t B C=>?_,fun t=>?_⟩)
    ·have:=iU (ax y) (by omega) (by omega) f.symm (by simpa using t)
     rw [ab,ab] at this
     rw [jC,if_neg (by omega),if_pos this]
    ·refine (ha.le j).rd i rfl (by omega) ((hb.le j).rd i rfl (by omega) ⟨fun u B C=>?_,fun u=>?_⟩)
     ·have:=iU (ax x) (by omega) (by omega) f (by simpa using u)
      rw [ab,ab] at this
      rw [jC,if_pos this]
     ·refine ⟨_,?_,by (try dsimp only);and_intros<;>first|exact True.intro|rfl,?_,?_,?_⟩
      ·(try dsimp only);omega
      ·(try dsimp only);omega
      ·(try dsimp only);omega
      ·(try dsimp only)
       have:((i:Int)-1+1).toNat=i:=by omega
       rw [this,List.drop_eq_getElem_cons (by omega),List.drop_eq_getElem_cons (l:=af y) (by omega),f]
       congr 1
       simp at t u
       omega
   ·have d:i=-1:=by simp at d;omega
    subst d
    have:af x=af y:=by simpa using s
    have:=tP this
    subst this
    simp [jC]
theorem HV (a b:Nat):maxI (a:Int) (b:Int)=((max a b:Nat):Int):=by
 unfold maxI
 split<;>omega
theorem Fz {V:View}{p q:OA}{n c m e:Nat}{xs ys:List Nat}(hx:RD V p n c xs)(hy:RD V q m e ys)(hm:xs.length<=1099511627776)(hn:ys.length<=1099511627776) :
  Acts prog 151 #[.slice p n c,.slice q m e] V fun r V'=>∃p' n' c',r=.slice p' n' c'/\RN V' p' n' c' (val xs+val ys):=by
 have H:=hx.len
 have O:=hy.len
 have vc:=Et p n c q m e V
 have w:i64.wrap (((max n m:Nat):Int)+1)=((max n m+1:Nat):Int):=by rw [i64w (by omega)];omega
 simp only [HV,w,Int.toNat_natCast] at vc
 obtain ⟨k,I⟩:∃k,k=max n m:=⟨_,rfl⟩
 rw [←I] at vc
 refine vc _ ⟨by omega,by omega,by omega,fun z V'=>0<=z.1/\z.1<=1/\0<=z.2.1/\z.2.1<=k/\∃es:List Nat,z.2.2=ay es/\es.length=k+1/\bI es /\
   val (es.take z.2.1.toNat)+4294967296^z.2.1.toNat*z.1.toNat=val (xs.take z.2.1.toNat)+val (ys.take z.2.1.toNat),fun z=>k-z.2.1.toNat,⟨(0,0,ay (List.replicate (k+1) 0)),by (try dsimp only);and_intros<;>first|exact True.intro|rfl|exact cq _,by (try dsimp only);omega,by (try dsimp only);omega,by (try dsimp only);omega,by (try dsimp only);omega,_,rfl,by simp,bI.rep _,by simp⟩,?_⟩
 rintro ⟨b,i,P⟩ V2 D ⟨f,o,g,s,es,rfl,t,h,l⟩
 dsimp only at f o g s l ⊢
 obtain ⟨i,rfl⟩:=Int.eq_ofNat_of_zero_le g
 obtain ⟨b,rfl⟩:=Int.eq_ofNat_of_zero_le f
 simp only [Int.toNat_natCast] at l
 refine ⟨by trivial,fun d=>?_,fun d=>?_⟩
 ·have d:i<k:=by simpa using d
  refine ⟨fun z V'=>∃x:Nat,z=x/\x<4294967296/\val (xs.take (i+1))=val (xs.take i)+4294967296^i*x,⟨fun a=>?_,fun a=>?_⟩,?_⟩
  ·have a:i<n:=by simpa using a
   refine (hx.le D).rd i rfl (by omega) ?_
   exact ⟨_,by (try dsimp only);and_intros<;>first|exact True.intro|rfl,xs[i],rfl,hx.eI.get (by omega),aq _ _ (by omega)⟩
  ·have a:n<=i:=by simpa using a
   exact ⟨_,by (try dsimp only);and_intros<;>first|exact True.intro|rfl,0,rfl,by omega,by rw [ai (by omega),ai (by omega)];simp⟩
  rintro _ J E ⟨x,rfl,u,v⟩
  refine ⟨by trivial,fun z V'=>∃y:Nat,z=y/\y<4294967296/\val (ys.take (i+1))=val (ys.take i)+4294967296^i*y,⟨fun a=>?_,fun a=>?_⟩,?_⟩
  ·have a:i<m:=by simpa using a
   refine ((hy.le D).le E).rd i rfl (by omega) ?_
   exact ⟨_,by (try dsimp only);and_intros<;>first|exact True.intro|rfl,ys[i],rfl,hy.eI.get (by omega),aq _ _ (by omega)⟩
  ·have a:m<=i:=by simpa using a
   exact ⟨_,by (try dsimp only);and_intros<;>first|exact True.intro|rfl,0,rfl,by omega,by rw [ai (by omega),ai (by omega)];simp⟩
  rintro _ K L ⟨y,rfl,A,B⟩
  refine ⟨by trivial,fun M F=>(Jp x y b u A (by omega)).mono ?_⟩
  rintro r Q R rfl
  have w:i64.wrap ((i:Int)+1)=((i+1:Nat):Int):=by rw [i64w (by omega)];omega
  simp only [w,Int.toNat_natCast]
  refine ⟨_,_,rfl,⟨by omega,by omega⟩,by simp;omega,(((x+y+b) / 4294967296:Nat),((i+1:Nat):Int),ay (es.set i ((x+y+b)%4294967296))),?_,by (try dsimp only);and_intros<;>first|exact True.intro|rfl|(rw [←aZ];simp),?_⟩
  ·(try dsimp only);omega
  ·(try dsimp only)
   refine ⟨by omega,by omega,by omega,by omega,_,rfl,by simpa using t,h.set _ _ (by omega),?_⟩
   simp only [Int.toNat_natCast]
   rw [aE _ _ _ (by omega),Nat.pow_succ,v,B]
   exact te l (by omega)
 ·have d:i=k:=by simp at d;omega
  subst d
  refine ⟨⟨by omega,by omega⟩,by simp;omega,fun J E S C=>?_⟩
  have G:(ay es).set (0+((i:Int).toNat)*1) (.int .u32 (b:Int))=ay (es.set i b):=by rw [←aZ];simp
  simp only [Int.toNat_natCast] at G
  try simp only [Int.toNat_natCast] at C
  rw [G] at C
  have j:=h.set i b (by omega)
  refine (cL (RD.aW C j (n:=i+1) (c:=i+1) (by simp;omega) (Nat.le_refl _)) (by simp;omega)).mono ?_
  rintro r K L ⟨k,rfl,a⟩
  refine ⟨_,_,_,rfl,fun _ M F=>⟨_,_,_,rfl,?_⟩⟩
  rw [aJ j] at a
  have N:val (es.set i b)=val xs+val ys:=by
   have:=aE es i b (by omega)
   rw [ai (by simp;omega)] at this
   rw [this,l,ai (by omega),ai (by omega)]
  rw [N] at a
  exact a.le F
theorem D5 {E A B c x y W d b:Nat}(h:E+B=A+W*c)(hv:d+(y+c)=x+4294967296*b) :
  E+W*d+(B+W*y)=A+W*x+W*4294967296*b:=by
 have:=congrArg (W*·) hv
 simp only [Nat.mul_add,←Nat.mul_assoc] at this
 omega
theorem mT {V:View}{p q:OA}{n c m e:Nat}{xs ys:List Nat}(hx:RD V p n c xs)(hy:RD V q m e ys)(hm:xs.length<=1099511627776)(hl:ys.length<=xs.length)(hle:val ys<=val xs) :
  Acts prog 152 #[.slice p n c,.slice q m e] V fun r V'=>∃p' n' c',r=.slice p' n' c'/\RN V' p' n' c' (val xs-val ys):=by
 have G:=hx.len
 have N:=hy.len
 refine CN p n c q m e V _ ⟨by omega,by omega,by omega,fun z V'=>0<=z.1/\z.1<=1/\0<=z.2.1/\z.2.1<=n/\∃es:List Nat,z.2.2=ay es/\es.length=n/\bI es /\
   val (es.take z.2.1.toNat)+val (ys.take z.2.1.toNat)=val (xs.take z.2.1.toNat)+4294967296^z.2.1.toNat*z.1.toNat,fun z=>n-z.2.1.toNat,
   ⟨(0,0,List.replicate n (.int .u32 0)),by (try dsimp only);and_intros<;>first|exact True.intro|rfl,by (try dsimp only);omega,by (try dsimp only);omega,by (try dsimp only);omega,by (try dsimp only);omega,List.replicate n 0,cq n,by simp,bI.rep _,by simp⟩,?_⟩
 rintro ⟨l,i,O⟩ V2 C ⟨o,u,s,v,es,rfl,g,a,t⟩
 dsimp only at o u s v t ⊢
 obtain ⟨i,rfl⟩:=Int.eq_ofNat_of_zero_le s
 obtain ⟨l,rfl⟩:=Int.eq_ofNat_of_zero_le o
 simp only [Int.toNat_natCast] at t
 refine ⟨by trivial,fun j=>?_,fun j=>?_⟩
 ·have j:i<n:=by simpa using j
  refine ⟨fun z V'=>∃y:Nat,z=y/\y<4294967296/\val (ys.take (i+1))=val (ys.take i)+4294967296^i*y,⟨fun f=>?_,fun f=>?_⟩,?_⟩
  ·have f:i<m:=by simpa using f
   refine (hy.le C).rd i rfl (by omega) ?_
   exact ⟨_,by (try dsimp only);and_intros<;>first|exact True.intro|rfl,ys[i],rfl,hy.eI.get (by omega),aq _ _ (by omega)⟩
  ·have f:m<=i:=by simpa using f
   exact ⟨_,by (try dsimp only);and_intros<;>first|exact True.intro|rfl,0,rfl,by omega,by rw [ai (by omega),ai (by omega)];simp⟩
  rintro _ H D ⟨y,rfl,x,A⟩
  refine ⟨by trivial,?_⟩
  refine ((hx.le C).le D).rd i rfl (by omega) fun I J=>(Ju _ y l (hx.eI.get (by omega)) x (by omega)).mono ?_
  rintro r K E ⟨d,b,rfl,P,F,B⟩
  have w:i64.wrap ((i:Int)+1)=((i+1:Nat):Int):=by rw [i64w (by omega)];omega
  simp only [w,Int.toNat_natCast]
  refine ⟨_,_,rfl,⟨by omega,by omega⟩,by simp;omega,((b:Int),((i+1:Nat):Int),ay (es.set i d)),?_,by (try dsimp only);and_intros<;>first|exact True.intro|rfl|(rw [←aZ];simp),?_⟩
  ·(try dsimp only);omega
  ·(try dsimp only)
   refine ⟨by omega,by omega,by omega,by omega,_,rfl,by simpa using g,a.set _ _ (by omega),?_⟩
   simp only [Int.toNat_natCast]
   rw [aE _ _ _ (by omega),Nat.pow_succ,aq xs i (by omega),A]
   exact D5 t B
 ·have j:i=n:=by simp at j;omega
  subst j
  simp only [Int.toNat_natCast]
  intro H D Q F
  refine (cL (RD.aW F a (n:=i) (c:=i) g.symm (Nat.le_refl _)) (by omega)).mono ?_
  rintro r I J ⟨k,rfl,f⟩
  refine ⟨_,_,_,rfl,fun _ K E=>⟨_,_,_,rfl,?_⟩⟩
  rw [aJ a] at f
  rw [ai (by omega),ai (by omega),ai (by omega)] at t
  have L:=fq a
  rw [g] at L
  have M:l=0:=by
   rcases Nat.eq_zero_or_pos l with h|h
   ·exact h
   ·have:4294967296^i*1<=4294967296^i*l:=Nat.mul_le_mul_left _ h
    omega
  subst M
  rw [show val es=val xs-val ys from by omega] at f
  exact f.le E
theorem Cb {V:View}{p:OA}{n c:Nat}{ds:List Nat}(h:RD V p n c ds){K:Int->Prop}(hn:0<ds.length)
  (hK:K ((ds[0]:Nat):Int)):(p.isSome=true)/\(0<=(0:Int)/\(0:Int)<(n:Int))/\∃x:Int,(∃a,addrAdd p 0=some a/\V.at a (.int .u32 x))/\K x:=by
 have:=h.rd (i:=0) (K:=K) 0 rfl hn hK
 simpa using this
theorem Ko {V:View}{p:OA}{n c:Nat}{ds:List Nat}(h:RD V p n c ds){K:Int->Prop}(j:Nat)(hn:j<ds.length)
  (hK:K ((ds[j]:Nat):Int)):(p.isSome=true)/\(0<=(j:Int)/\(j:Int)<(n:Int))/\∃x:Int,(∃a,addrAdd p j=some a/\V.at a (.int .u32 x))/\K x:=by
 have:=h.rd (i:=j) (K:=K) j rfl hn hK
 simpa using this
theorem kn {ds:List Nat}(h:ds.length=1):∃a,ds=[a]:=by
 match ds,h with
 | [a],_=>exact ⟨a,rfl⟩
theorem D7 {ds:List Nat}(h:ds.length=2):∃a b,ds=[a,b]:=by
 match ds,h with
 | [a,b],_=>exact ⟨a,b,rfl⟩
theorem bX {V:View}{p q:OA}{n c m e:Nat}{xs ys:List Nat}(hx:RD V p n c xs)(hy:RD V q m e ys)(hm:xs.length+ys.length<=1099511627776) :
  Acts prog 67 #[.slice p n c,.slice q m e] V fun r V'=>∃p' n' c',r=.slice p' n' c'/\RN V' p' n' c' (val xs*val ys):=by
 have X:=hx.len
 have Au:=hy.len
 have y:((n:Int)+m).toNat=n+m:=by omega
 have w:i64.wrap ((n:Int)+m)=(n:Int)+m:=i64w (by omega)
 have vc:=vC p n c q m e V
 simp only [w,y,cq] at vc
 refine (fun tail=>vc _ ⟨fun S=>⟨fun A=>?_,fun _=>tail⟩,fun _=>tail⟩) ?_
 ·have S:n=1:=by simp at S;omega
  have A:m=1:=by simp at A;omega
  clear tail vc
  obtain ⟨a,rfl⟩:=kn (ds:=xs) (by omega)
  obtain ⟨b,rfl⟩:=kn (ds:=ys) (by omega)
  have T:=hx.eI.get (i:=0) (by simp)
  have B:=hy.eI.get (i:=0) (by simp)
  refine Cb hx (by simp) (Cb hy (by simp) fun V1 l1=>?_)
  simp only [List.getElem_cons_zero] at T B ⊢
  have Y:a*b<=4294967295*4294967295:=Nat.mul_le_mul (by omega) (by omega)
  have J:u64.wrap (a:Int)=a:=aH (by omega)
  have K:u64.wrap (b:Int)=b:=aH (by omega)
  have Z:(a:Int)*(b:Int)=((a*b:Nat):Int):=by simp
  have e4:u64.wrap ((a*b:Nat):Int)=((a*b:Nat):Int):=aH (by omega)
  rw [J,K,Z,e4]
  refine (dk (a*b) (by omega)).mono ?_
  rintro r V2 l2 ⟨p',n',c',rfl,h⟩
  refine ⟨_,_,_,rfl,fun V3 l3=>⟨_,_,_,rfl,?_⟩⟩
  simp only [aU,dG,Nat.mul_zero,Nat.add_zero]
  exact h.le l3
 refine ⟨by omega,by omega,by omega,fun z V'=>0<=z.1/\z.1<=n/\∃es:List Nat,z.2=ay es/\es.length=n+m/\bI es /\
  val (es.take (z.1.toNat+m))=val (xs.take z.1.toNat)*val ys,fun z=>n-z.1.toNat,⟨(0,ay (List.replicate (n+m) 0)),by (try dsimp only);and_intros<;>first|exact True.intro|rfl,by (try dsimp only);omega,by (try dsimp only);omega,_,rfl,by simp,bI.rep _,by simp [sS,List.take_replicate]⟩,?_⟩
 rintro ⟨i,vs⟩ V5 U ⟨C,L,es,rfl,M,o,D⟩
 dsimp only at C L D ⊢
 obtain ⟨i,rfl⟩:=Int.eq_ofNat_of_zero_le C
 simp only [Int.toNat_natCast] at D
 refine ⟨by trivial,fun v=>?_,fun v=>?_⟩
 ·have v:i<n:=by simpa using v
  refine (hx.le U).rd i rfl (by omega) ?_
  have T:=hx.eI.get (i:=i) (by omega)
  refine ⟨fun z V'=>0<=z.1/\z.1<=4294967295/\0<=z.2.1/\z.2.1<=m/\∃d:List Nat,z.2.2=ay d/\d.length=n+m/\bI d/\d.drop (i+z.2.1.toNat)=es.drop (i+z.2.1.toNat) /\
   val (d.take (i+z.2.1.toNat))+4294967296^(i+z.2.1.toNat)*z.1.toNat=val (es.take (i+z.2.1.toNat))+4294967296^i*xs[i]*val (ys.take z.2.1.toNat),fun z=>m-z.2.1.toNat,
   ⟨(0,0,ay es),by (try dsimp only);and_intros<;>first|exact True.intro|rfl,by (try dsimp only);omega,by (try dsimp only);omega,by (try dsimp only);omega,by (try dsimp only);omega,es,rfl,M,o,rfl,by simp⟩,?_⟩
  rintro ⟨I,k,vs⟩ V6 W ⟨E,N,F,O,d,rfl,G,s,j,hw⟩
  dsimp only at E N F O j hw ⊢
  obtain ⟨k,rfl⟩:=Int.eq_ofNat_of_zero_le F
  obtain ⟨I,rfl⟩:=Int.eq_ofNat_of_zero_le E
  simp only [Int.toNat_natCast] at j hw
  refine ⟨by trivial,fun g=>?_,fun g=>?_⟩
  ·have g:k<m:=by simpa using g
   refine (hy.le (U.trans W)).rd k rfl (by omega) ?_
   have B:=hy.eI.get (i:=k) (by omega)
   have RX:=s.get (i:=i+k) (by omega)
   have P:d[i+k]'(by omega)=es[i+k]'(by omega):=by
    have A:d[i+k]?=es[i+k]?:=by
     have:=congrArg (fun l=>l[0]?) j
     simpa [List.getElem?_drop] using this
    rw [List.getElem?_eq_getElem (by omega),List.getElem?_eq_getElem (by omega)] at A
    exact Option.some.inj A
   simp (disch:=omega) only [i64w]
   have u:((i:Int)+k).toNat=i+k:=by omega
   rw [u]
   refine ⟨⟨by omega,by omega⟩,((d[i+k]'(by omega):Nat):Int),by rw [Nat.zero_add,Nat.mul_one];exact fm (by omega),⟨by omega,by omega⟩,by simp;omega,by omega,?_⟩
   have a0:xs[i]*ys[k]<=4294967295*4294967295:=Nat.mul_le_mul (by omega) (by omega)
   have Mx:(xs[i]:Int)*(ys[k]:Int)=((xs[i]*ys[k]:Nat):Int):=by simp
   obtain ⟨t,ht⟩:∃t:Nat,t=I+xs[i]*ys[k]+d[i+k]'(by omega):=⟨_,rfl⟩
   rw [Nat.pow_add] at hw
   have f:=BT hw ht
   have J:u64.wrap (u64.wrap (u64.wrap (u64.wrap (xs[i]:Int)*u64.wrap (ys[k]:Int))+u64.wrap ((d[i+k]'(by omega):Nat):Int))+(I:Int))=(t:Int):=by
    clear f
    generalize xs[i]*ys[k]=pq at *
    rw [aH (x:=(xs[i]:Int)) (by omega),aH (x:=(ys[k]:Int)) (by omega),Mx,aH (x:=((pq:Nat):Int)) (by omega)]
    simp (disch:=omega) only [aH]
    omega
   rw [J,gI,kF]
   refine ⟨(_,_,_),?_,by (try dsimp only);and_intros<;>first|exact True.intro|rfl,?_⟩
   ·(try dsimp only);omega
   ·(try dsimp only)
    have H:((k:Int)+1).toNat=k+1:=by omega
    refine ⟨by omega,by omega,by omega,by omega,d.set (i+k) (t%4294967296),?_,by simpa using G,s.set _ _ (by omega),?_,?_⟩
    ·rw [←aZ];simp
    ·rw [H,List.drop_set_of_lt (by omega)]
     have:=congrArg (List.drop 1) j
     simpa [List.drop_drop,Nat.add_comm,Nat.add_assoc,Nat.add_left_comm] using this
    ·rw [H,show i+(k+1)=i+k+1 from by omega,aE _ _ _ (by omega),aq es (i+k) (by omega),aq ys k (by omega),←P,Nat.pow_succ]
     have K:((t:Int) / 4294967296).toNat=t / 4294967296:=by omega
     rw [K,Nat.pow_add,f]
  ·have g:k=m:=by simp at g;omega
   subst g
   simp (disch:=omega) only [i64w]
   have u:((i:Int)+k).toNat=i+k:=by omega
   rw [u]
   refine ⟨⟨by omega,by omega⟩,by simp;omega,(_,_),?_,by (try dsimp only);and_intros<;>first|exact True.intro|rfl,?_⟩
   ·(try dsimp only);omega
   ·(try dsimp only)
    have Q:((i:Int)+1).toNat=i+1:=by omega
    refine ⟨by omega,by omega,d.set (i+k) I,?_,by simpa using G,s.set _ _ (by omega),?_⟩
    ·rw [←aZ,oY (by omega)];simp
    ·rw [Q,show i+1+k=i+k+1 from by omega,aE _ _ _ (by omega),hw,D,aq xs i (by omega),ai (ds:=ys) (by omega)]
     grind
 ·have v:i=n:=by simp at v;omega
  subst v
  intro V6 W bk R
  refine (cL (RD.aW R o (n:=i+m) (c:=i+m) (by omega) (Nat.le_refl _)) (by omega)).mono ?_
  rintro r V7 l7 ⟨k,rfl,g⟩
  refine ⟨_,_,_,rfl,fun _ V8 l8=>⟨_,_,_,rfl,?_⟩⟩
  rw [aJ o] at g
  rw [ai (by omega),ai (by omega)] at D
  rw [D] at g
  exact g.le l8
theorem kf {V:View}{p:OA}{n c:Nat}{ds:List Nat}(h:RD V p n c ds)(hm:ds.length<=1099511627776) :
  Acts prog 153 #[.slice p n c] V fun r V'=>r=.tuple #[.int .u64 ((if n<=2 then val ds else 0:Nat):Int),.bool (decide (n<=2))]:=by
 have u:=h.len
 refine CW p n c V _ ⟨fun e k l=>?_,fun e=>⟨fun f=>?_,fun f=>⟨fun d=>?_,fun d k l=>?_⟩⟩⟩
 ·have e:n=0:=by simp at e;omega
  subst e
  have:ds=[]:=List.length_eq_zero_iff.1 (by omega)
  subst this
  rfl
 ·have f:n=1:=by simp at f;omega
  subst f
  obtain ⟨a,rfl⟩:=kn (ds:=ds) (by omega)
  have o:=h.eI.get (i:=0) (by simp)
  refine Cb h (by simp) fun k l=>?_
  simp only [List.getElem_cons_zero] at o ⊢
  have m:u64.wrap (a:Int)=a:=aH (by omega)
  rw [m,if_pos (by omega),decide_eq_true (by omega)]
  simp
 ·have d:n=2:=by simp at d;omega
  subst d
  obtain ⟨a,b,rfl⟩:=D7 (ds:=ds) (by omega)
  have g:=h.eI.get (i:=0) (by simp)
  have j:=h.eI.get (i:=1) (by simp)
  refine Ko h 1 (by simp) ⟨by omega,Cb h (by simp) fun k l=>?_⟩
  simp only [List.getElem_cons_zero,List.getElem_cons_succ] at g j ⊢
  have m:u64.wrap (a:Int)=a:=aH (by omega)
  have q:u64.wrap (b:Int)=b:=aH (by omega)
  have s:((2:Int)^32)=4294967296:=by decide
  have t:u64.wrap ((b:Int)*4294967296)=(b:Int)*4294967296:=aH (by omega)
  rw [m,q,s,t,B1 _ _ j g,if_pos (by omega),decide_eq_true (by omega)]
  simp only [aU,dG]
  congr 4
  omega
 ·have d:¬n<=2:=by simp at e f d;omega
  rw [if_neg d,decide_eq_false d]
  rfl
theorem F3 (b:Nat):0 ||| b=b:=Nat.zero_or b
theorem ke {V:View}{p:OA}{n c:Nat}{ds:List Nat}(hx:RD V p n c ds)(hm:ds.length<=1099511627776)(k:Nat)(hk:k<=35184372088832) :
  Acts prog 195 #[.slice p n c,.int .i64 (k:Int)] V fun r V'=>∃p' n' c',r=.slice p' n' c'/\RN V' p' n' c' (val ds*2^k):=by
 have hl:=hx.len
 have y:(k:Int).tdiv 32=((k / 32:Nat):Int):=by rw [Int.tdiv_eq_ediv_of_nonneg (by omega)];omega
 have A:(k:Int).tmod 32=((k%32:Nat):Int):=by rw [Int.tmod_eq_emod_of_nonneg (by omega)];omega
 have vc:=CL p n c k V
 have g:val ds*2^k=4294967296^(k / 32)*val ds*2^(k%32):=by
  have:2^k=4294967296^(k / 32)*2^(k%32):=by
   rw [show (4294967296:Nat)=2^32 from rfl,←Nat.pow_mul,←Nat.pow_add,Nat.div_add_mod]
  rw [this];grind
 rw [g]
 have C:k / 32<=1099511627776:=by omega
 have o:k%32<32:=Nat.mod_lt _ (by omega)
 rw [y,A] at vc
 generalize k / 32=w at *
 generalize k%32=r at *
 clear y A g
 have D:i64.wrap (w:Int)=(w:Int):=i64w (by omega)
 have E:i64.wrap ((w:Int)+n)=((w+n:Nat):Int):=by rw [i64w (by omega)];omega
 have F:i64.wrap (((w+n:Nat):Int)+1)=((w+n+1:Nat):Int):=by rw [i64w (by omega)];omega
 have G:u64.wrap (r:Int)=(r:Int):=aH (by omega)
 have h:(min r IntKind.u64.bits)=r:=by
  show min _ 64=r
  omega
 have H:((2:Int)^r)=((2^r:Nat):Int):=by simp
 simp only [D,E,F,G,Int.toNat_natCast,h,H,cq] at vc
 refine vc _ ⟨by omega,by omega,by omega,by omega,by omega,fun z V'=>0<=z.1/\z.1<=n/\∃es:List Nat,z.2=ay es/\es.length=w+n+1/\bI es/\(∀c,es[z.1.toNat+w]?=some c->c<2^r)/\(∀j c,z.1.toNat+w<j->es[j]?=some c->c=0) /\
   val (es.take (z.1.toNat+w+1))=4294967296^w*val (ds.take z.1.toNat)*2^r,fun z=>n-z.1.toNat,
   ⟨(0,ay (List.replicate (w+n+1) 0)),by (try dsimp only);and_intros<;>first|exact True.intro|rfl,by (try dsimp only);omega,by (try dsimp only);omega,_,rfl,by simp,bI.rep _,?_,?_,?_⟩,?_⟩
 ·intro c a
  rw [List.getElem?_replicate] at a
  split at a
  ·cases a;exact Nat.two_pow_pos r
  ·cases a
 ·intro j c _ a
  rw [List.getElem?_replicate] at a
  split at a
  ·cases a;rfl
  ·cases a
 ·simp [List.take_replicate,sS]
 rintro ⟨i,vs⟩ V4 I ⟨l,q,es,rfl,s,d,a,m,e⟩
 dsimp only at l q a m e ⊢
 obtain ⟨i,rfl⟩:=Int.eq_ofNat_of_zero_le l
 simp only [Int.toNat_natCast] at a m e
 refine ⟨by trivial,fun f=>?_,fun f=>?_⟩
 ·have f:i<n:=by simpa using f
  have J:i64.wrap ((w:Int)+i)=((i+w:Nat):Int):=by rw [i64w (by omega)];omega
  have K:i64.wrap (((i+w:Nat):Int)+1)=((i+w+1:Nat):Int):=by rw [i64w (by omega)];omega
  have L:i64.wrap ((i:Int)+1)=((i+1:Nat):Int):=by rw [i64w (by omega)];omega
  simp only [J,K,L,Int.toNat_natCast,Nat.mul_one,Nat.zero_add]
  refine Ko (hx.le I) i (by omega) ?_
  have M:=hx.eI.get (i:=i) (by omega)
  have t:=a (es[i+w]'(by omega)) (List.getElem?_eq_getElem _)
  have N:=m (i+w+1) (es[i+w+1]'(by omega)) (by omega) (List.getElem?_eq_getElem _)
  obtain ⟨O,g2,P,g4⟩:=Cl M o t
  have hmul:((ds[i]:Nat):Int)*((2^r:Nat):Int)=((ds[i]*2^r:Nat):Int):=by simp
  have Q:u64.wrap ((ds[i]:Nat):Int)=((ds[i]:Nat):Int):=aH (by omega)
  have R:u64.wrap ((ds[i]*2^r:Nat):Int)=((ds[i]*2^r:Nat):Int):=aH (by omega)
  have S:u32.wrap ((ds[i]*2^r:Nat):Int)=((ds[i]*2^r%4294967296:Nat):Int):=by rw [gI];omega
  have T:u32.wrap (((ds[i]*2^r:Nat):Int).fdiv (2^32))=((ds[i]*2^r / 4294967296:Nat):Int):=by rw [kF,gI];omega
  simp only [Q,hmul,R,S,T]
  have u:ds[i]*2^r / 4294967296<4294967296:=by omega
  have U:=Nat.mod_add_div (ds[i]*2^r) 4294967296
  have v:val (List.take (i+1) ds)=val (List.take i ds)+4294967296^i*ds[i]:=aq _ _ (by omega)
  have W:val (es.take (i+w+1))=val (es.take (i+w))+4294967296^(i+w)*es[i+w]'(by omega):=aq _ _ (by omega)
  have x:ds[i]*2^r%4294967296<4294967296:=Nat.mod_lt _ (by omega)
  generalize ds[i]*2^r%4294967296=lo at *
  generalize ds[i]*2^r / 4294967296=hi at *
  refine ⟨by omega,by omega,⟨by omega,by omega⟩,((es[i+w]'(by omega):Nat):Int),fm (by omega),⟨by omega,by omega⟩,by simp;omega,by omega,⟨by omega,by omega⟩,((es[i+w+1]'(by omega):Nat):Int),?_,by omega,⟨by omega,by omega⟩,by simp;omega,?_⟩
  ·rw [List.getElem?_set_ne (by omega)];exact fm (by omega)
  have X:es[i+w]'(by omega)<4294967296:=d.get (by omega)
  rw [DP _ _ X x,O,N,DP _ _ (by omega) u,F3]
  refine ⟨(((i+1:Nat):Int),ay ((es.set (i+w) (es[i+w]'(by omega)+lo)).set (i+w+1) hi)),?_,?_,?_⟩
  ·(try dsimp only);omega
  ·(try dsimp only);and_intros<;>first|exact True.intro|rfl|rw [←aZ,←aZ]
  ·(try dsimp only)
   refine ⟨by omega,by omega,_,rfl,by simpa using s,(d.set _ _ (by omega)).set _ _ (by omega),?_,?_,?_⟩
   ·intro c b
    simp only [Int.toNat_natCast] at b
    rw [show i+1+w=i+w+1 from by omega,List.getElem?_set_self (by simp;omega)] at b
    cases b;exact P
   ·intro j c Y b
    simp only [Int.toNat_natCast] at Y
    rw [List.getElem?_set_ne (by omega),List.getElem?_set_ne (by omega)] at b
    exact m j c (by omega) b
   ·simp only [Int.toNat_natCast]
    rw [show i+1+w+1=i+w+1+1 from by omega,aE _ _ _ (by simp;omega),aE _ _ _ (by omega),v]
    rw [W] at e
    have Z:4294967296^(i+w+1)*hi=4294967296^(i+w)*(4294967296*hi):=by rw [Nat.pow_succ];grind
    rw [Z,Nat.mul_add,←Nat.add_assoc,e,Nat.add_assoc,←Nat.mul_add,U,Nat.pow_add]
    grind
 ·have f:i=n:=by simp at f;omega
  subst f
  intro V5 l5 bk hb
  refine (cL (RD.aW hb d (n:=w+i+1) (c:=w+i+1) (by omega) (Nat.le_refl _)) (by omega)).mono ?_
  rintro r' V6 l6 ⟨k',rfl,B⟩
  refine ⟨_,_,_,rfl,fun _ V7 l7=>⟨_,_,_,rfl,?_⟩⟩
  rw [ai (by omega),ai (by omega)] at e
  rw [aJ d,e] at B
  exact B.le l7
theorem gu (a:Addr)(m n:Nat):(a.add m).add n=a.add (m+n):=by
 unfold Addr.add
 by_cases b:m=0
 ·subst b;simp
 ·by_cases c:n=0
  ·subst c;simp [b]
  ·rw [if_neg b,if_neg c,if_neg (by omega)]
   simp only [Nat.add_assoc]
theorem LI {V:View}{p:OA}{n c:Nat}{ds:List Nat}(h:RD V p n c ds){k:Nat}(hk:k<n):RD V (jR p c k 1) (n-k) (c-k) (ds.drop k):=by
 have g:=h.len
 have j:=h.cap
 have e:jR p c k 1=addrAdd p k:=by unfold jR;rw [if_neg (by omega),Nat.mul_one]
 rw [e]
 refine ⟨by simp;omega,by omega,fun i v b=>?_,h.eI.drop k,fun l=>?_⟩
 ·rw [Gr,List.getElem?_drop] at b
  obtain ⟨d,f,a⟩:=h.sl _ _ b
  refine ⟨d.add k,by rw [f];rfl,?_⟩
  rw [gu];exact a
 ·have:p.isNone=true:=by cases p<;>simp_all [addrAdd]
  have:=h.F2 this
  omega
theorem AX {V:View}{p:OA}{n c:Nat}{ds:List Nat}(hd:RD V p n c ds)(hm:ds.length<=1099511627776)(k:Nat)(hk:k<=35184372088832) :
  Acts prog 196 #[.slice p n c,.int .i64 (k:Int)] V fun r V'=>∃p' n' c',r=.slice p' n' c'/\RN V' p' n' c' (val ds / 2^k):=by
 have U:=hd.len
 have F:(k:Int).tdiv 32=((k / 32:Nat):Int):=by rw [Int.tdiv_eq_ediv_of_nonneg (by omega)];omega
 have v:(k:Int).tmod 32=((k%32:Nat):Int):=by rw [Int.tmod_eq_emod_of_nonneg (by omega)];omega
 have vc:=Ad p n c k V
 have o:val ds / 2^k=val ds / 4294967296^(k / 32) / 2^(k%32):=by
  rw [Nat.div_div_eq_div_mul,show (4294967296:Nat)=2^32 from rfl,←Nat.pow_mul,←Nat.pow_add,Nat.div_add_mod]
 rw [o]
 have J:k / 32<=1099511627776:=by omega
 have y:k%32<32:=Nat.mod_lt _ (by omega)
 rw [F,v] at vc
 generalize k / 32=w at *
 generalize k%32=r at *
 clear F v o
 have K:i64.wrap (w:Int)=(w:Int):=i64w (by omega)
 have L:u64.wrap (r:Int)=(r:Int):=aH (by omega)
 have q:(min r IntKind.u64.bits)=r:=by
  show min _ 64=r
  omega
 simp only [K,L,Int.toNat_natCast,q,cq] at vc
 refine vc _ ⟨by omega,fun h W X=>?_,fun h=>?_⟩
 ·have h:n<=w:=by simp at h;omega
  have a:=fq hd.eI
  have:4294967296^ds.length<=4294967296^w:=Nat.pow_le_pow_right (by omega) (by omega)
  rw [Nat.div_eq_of_lt (Nat.lt_of_lt_of_le a this),Nat.zero_div]
  exact ⟨_,_,_,rfl,RD.nil⟩
 ·have h:w<n:=by simp at h;omega
  clear vc
  have s:val ds / 4294967296^w=val (ds.drop w):=by
   have e:val ds=val (ds.take w++ds.drop w):=by rw [List.take_append_drop]
   have a:=fq (hd.eI.take w)
   rw [cM] at e
   rw [List.length_take,Nat.min_eq_left (by omega)] at e a
   rw [e,Nat.add_mul_div_left _ _ (Nat.pow_pos (by omega)),Nat.div_eq_of_lt a,Nat.zero_add]
  rw [s]
  have j:=LI hd h
  have M:=j.len
  clear s
  generalize jR p c w 1=sp at *
  generalize ds.drop w=xs at *
  generalize hN:n-w=N at *
  refine ⟨by omega,by omega,⟨by omega,by omega⟩,by omega,by omega,by omega,fun z V'=>0<=z.1/\z.1<=N/\∃es:List Nat,z.2=ay es/\es.length=N/\bI es /\
   val (es.take z.1.toNat)+4294967296^z.1.toNat*(val (xs.drop z.1.toNat) / 2^r)=val xs / 2^r,fun z=>N-z.1.toNat,
   ⟨(0,ay (List.replicate N 0)),by (try dsimp only);and_intros<;>first|exact True.intro|rfl,by (try dsimp only);omega,by (try dsimp only);omega,_,rfl,by simp,bI.rep _,by simp⟩,?_⟩
  rintro ⟨i,Z⟩ V4 G ⟨t,A,es,rfl,B,f,b⟩
  dsimp only at t A b ⊢
  obtain ⟨i,rfl⟩:=Int.eq_ofNat_of_zero_le t
  simp only [Int.toNat_natCast] at b
  refine ⟨by trivial,fun m=>?_,fun m=>?_⟩
  ·have m:i<N:=by simpa using m
   have O:i64.wrap ((i:Int)+1)=((i+1:Nat):Int):=by rw [i64w (by omega)];omega
   simp only [O,Int.toNat_natCast,Nat.mul_one,Nat.zero_add]
   refine Ko (j.le G) i (by omega) ?_
   have H:=j.eI.get (i:=i) (by omega)
   refine ⟨fun z V'=>z=((xs[i]+4294967296*(xs[i+1]?).getD 0:Nat):Int),⟨fun d=>?_,fun d=>?_⟩,?_⟩
   ·have d:i+1<N:=by simp at d;omega
    have C:=j.eI.get (i:=i+1) (by omega)
    have E:aX .or .u64 (u64.wrap ((xs[i]:Nat):Int)) (u64.wrap (u64.wrap ((xs[i+1]:Nat):Int)*2^32))=((xs[i]+4294967296*(xs[i+1]?).getD 0:Nat):Int):=by
     have v:((2:Int)^32)=4294967296:=by decide
     rw [v,aH (by omega),aH (x:=((xs[i+1]:Nat):Int)) (by omega),aH (by omega),Ii _ _ C H,List.getElem?_eq_getElem (by omega),Option.getD_some]
     omega
    refine Ko (j.le G) (i+1) (by omega) ⟨by omega,((xs[i]+4294967296*(xs[i+1]?).getD 0:Nat):Int),?_,rfl⟩
    (try dsimp only);and_intros<;>first|exact True.intro|exact E|rfl
   ·have d:N<=i+1:=by simp at d;omega
    have E:u64.wrap ((xs[i]:Nat):Int)=((xs[i]+4294967296*(xs[i+1]?).getD 0:Nat):Int):=by
     rw [aH (by omega),List.getElem?_eq_none (by omega)];simp
    refine ⟨((xs[i]+4294967296*(xs[i+1]?).getD 0:Nat):Int),?_,rfl⟩
    (try dsimp only);and_intros<;>first|exact True.intro|exact E|rfl
   rintro _ P Q rfl
   have u:=Cm (Y:=val (xs.drop (i+1))) H y
   rw [oZ j.eI] at u
   have g:val (xs.drop i)=xs[i]+4294967296*val (xs.drop (i+1)):=by
    rw [List.drop_eq_getElem_cons (by omega),aU]
   rw [g,u] at b
   rw [e_,gI]
   obtain ⟨D,I⟩:∃D,D=(xs[i]+4294967296*(xs[i+1]?).getD 0) / 2^r%4294967296:=⟨_,rfl⟩
   have R:(((xs[i]+4294967296*(xs[i+1]?).getD 0) / 2^r:Nat):Int)%4294967296=(D:Int):=by rw [I];omega
   rw [R]
   rw [←I] at b
   refine ⟨by trivial,by omega,⟨by omega,by omega⟩,by simp;omega,(((i+1:Nat):Int),ay (es.set i D)),?_,?_,?_⟩
   ·(try dsimp only);omega
   ·(try dsimp only);and_intros<;>first|exact True.intro|rfl|rw [←aZ]
   ·(try dsimp only)
    refine ⟨by omega,by omega,_,rfl,by simpa using B,f.set _ _ (by omega),?_⟩
    simp only [Int.toNat_natCast]
    rw [aE _ _ _ (by omega),←b,Nat.pow_succ,Nat.mul_add,Nat.add_assoc,Nat.mul_assoc]
  ·have m:i=N:=by simp at m;omega
   subst m
   intro P Q bk S
   refine (cL (RD.aW S f (n:=i) (c:=i) (by omega) (Nat.le_refl _)) (by omega)).mono ?_
   rintro r' V6 l6 ⟨k',rfl,d⟩
   refine ⟨_,_,_,rfl,fun _ V7 T=>⟨_,_,_,rfl,?_⟩⟩
   rw [ai (by omega),List.drop_of_length_le (l:=xs) (i:=i) (by omega)] at b
   have b:val es=val xs / 2^r:=by
    rw [←b,dG,Nat.zero_div,Nat.mul_zero,Nat.add_zero]
   rw [aJ f,b] at d
   exact d.le T
end Go.Proofs.Tryz
namespace Go.Big
theorem rF {ds:List Nat}(hd:bI ds)(w:Nat)(hw:w<=ds.length):val ds / 4294967296^w=val (ds.drop w):=by
 have e:val ds=val (ds.take w++ds.drop w):=by rw [List.take_append_drop]
 have a:=fq (hd.take w)
 rw [cM] at e
 rw [List.length_take,Nat.min_eq_left (by omega)] at e a
 rw [e,Nat.add_mul_div_left _ _ (Nat.pow_pos (by omega)),Nat.div_eq_of_lt a,Nat.zero_add]
theorem Pb {R n:Nat}(h:(af R).length=n+2):R / 4294967296^n=(af R)[n+1]'(by omega)*4294967296+(af R)[n]'(by omega):=by
 have:=rF (ax R) n (by omega)
 rw [ab] at this
 rw [this,List.drop_eq_getElem_cons (by omega),List.drop_eq_getElem_cons (i:=n+1) (by omega),List.drop_of_length_le (by omega)]
 simp only [aU,dG]
 omega
theorem Ls {R n:Nat}(h:(af R).length=n+1):R / 4294967296^n=(af R)[n]'(by omega):=by
 have:=rF (ax R) n (by omega)
 rw [ab] at this
 rw [this,List.drop_eq_getElem_cons (by omega),List.drop_of_length_le (by omega)]
 simp only [aU,dG]
 omega
theorem Pa {R n:Nat}(h:(af R).length<=n):R / 4294967296^n=0:=Nat.div_eq_of_lt (az.1 h)
theorem D6 {V n:Nat}(h:(af V).length=n+1):(af V)[n]'(by omega)*4294967296^n<=V:=by
 have:=Ls h
 rw [←this]
 exact Nat.div_mul_le_self _ _
theorem Hx {R V top P W:Nat}(hV:top*P<=V)(ht:0<top)(hP:0<P)(hW:0<W):R / (V*W)<=R / (P*W) / top:=by
 rw [Nat.le_div_iff_mul_le ht,Nat.le_div_iff_mul_le (Nat.mul_pos hP hW)]
 have a:R / (V*W)*(V*W)<=R:=Nat.div_mul_le_self _ _
 have b:R / (V*W)*(top*P*W)<=R / (V*W)*(V*W):=Nat.mul_le_mul_left _ (Nat.mul_le_mul_right _ hV)
 have c:R / (V*W)*top*(P*W)=R / (V*W)*(top*P*W):=by
  generalize R / (V*W)=q
  rw [Nat.mul_assoc q top,←Nat.mul_assoc top P W]
 omega
theorem FV {A V W D R q R':Nat}(h:A=V*(W*4294967296*D)+R)(hq:R=V*q*W+R'):A=V*(W*(q+4294967296*D))+R':=by
 subst hq;rw [h];grind
theorem HR {x y s Q R:Nat}(h:x*2^s=y*2^s*Q+R)(hR:R<y*2^s):Q=x / y/\R / 2^s=x%y:=by
 have c:=Nat.two_pow_pos s
 have f:0<y:=by
  rcases Nat.eq_zero_or_pos y with e|e
  ·subst e;simp at hR
  ·exact e
 have g:y*2^s*Q=(y*Q)*2^s:=by grind
 rw [g] at h
 have i:y*Q<=x:=by
  rcases Nat.lt_or_ge x (y*Q) with a|a
  ·have:(x+1)*2^s<=y*Q*2^s:=Nat.mul_le_mul_right _ a
   rw [Nat.add_mul] at this
   omega
  ·exact a
 obtain ⟨d,rfl⟩:=Nat.exists_eq_add_of_le i
 rw [Nat.add_mul] at h
 have j:R=d*2^s:=by omega
 subst j
 have b:d<y:=Nat.lt_of_mul_lt_mul_right hR
 rw [Nat.mul_div_cancel _ c]
 constructor
 ·rw [Nat.mul_add_div f,Nat.div_eq_of_lt b,Nat.add_zero]
 ·rw [Nat.mul_add_mod,Nat.mod_eq_of_lt b]
theorem Lu (j:Nat):2^(32*j)=4294967296^j:=by rw [Nat.pow_mul]
theorem Dv {R V W g:Nat}(NM:0<V*W)(h:V*g*W<=R)(hq:R / (V*W)<=g):g=R / (V*W):=by
 have:g<=R / (V*W):=by
  rw [Nat.le_div_iff_mul_le NM]
  have:g*(V*W)=V*g*W:=by grind
  omega
 omega
theorem Hy {R V W g:Nat}(NM:0<V*W)(h:R<V*g*W):R / (V*W)<g:=by
 rw [Nat.div_lt_iff_lt_mul NM]
 have:g*(V*W)=V*g*W:=by grind
 omega
theorem D3 {R V W:Nat}:R=V*(R / (V*W))*W+R%(V*W):=by
 have:=Nat.div_add_mod R (V*W)
 have e:V*(R / (V*W))*W=V*W*(R / (V*W)):=by
  generalize R / (V*W)=q
  grind
 omega
theorem gD {a b:Nat}:(af (a*b)).length<=(af a).length+(af b).length:=by
 rw [az,Nat.pow_add]
 have c:a<4294967296^(af a).length:=az.1 (Nat.le_refl _)
 have d:b<4294967296^(af b).length:=az.1 (Nat.le_refl _)
 exact Nat.mul_lt_mul'' c d
theorem yV (j:Nat):(af (4294967296^j)).length<=j+1:=by
 rw [az]
 exact Nat.pow_lt_pow_right (by omega) (by omega)
end Go.Big
