/- A part of the proof (joined by program from: VGeo, GeoA, GeoB, GeoC, VLine, PtA). -/
import Derived.Test.YtalijajeenhebaaGreatDoorM5
import Derived.Test.YtalijajeenhebaaGreatDoorM12
import Derived.Test.YtalijajeenhebaaGreatDoorM10
set_option linter.unusedVariables false
open Go.IntKind (i64 u64 u32)
/- By program: the conditions of the functions, from their loaded code. -/
namespace Go.Proofs.Tryz
open Go.Eng
open Go.Value renaming int→I,pointer→P,slice→S,agg→A,bool→B,tuple→T
open Go.IntKind renaming i64→J,u64→U,u32→W
set_option maxRecDepth 100000
theorem vc_geo_LnOf (l:Bool) (m:OA) (n o:Nat) (p:Bool) (q:OA) (r s:Nat) (t:Bool) (u:OA) (w x:Nat) (V:View) (R:VR) (h:(Ca V 151 #[A #[B l,S m n o]] fun d8 a5=>∃y,d8=B y/\(((!y)=true->(Rt a5 R (T #[A #[I J 0,I J 0,P none,I J 0,I J 0,P none,I J 0,I J 0,P none],B false])))/\((!y)=false->(Ca a5 151 #[A #[B p,S q r s]] fun d9 a7=>∃z,d9=B z/\(((!z)=true->(Rt a7 R (T #[A #[I J 0,I J 0,P none,I J 0,I J 0,P none,I J 0,I J 0,P none],B false])))/\((!z)=false->(Ca a7 151 #[A #[B t,S u w x]] fun e0 a9=>∃a0,e0=B a0/\(((!a0)=true->(Rt a9 R (T #[A #[I J 0,I J 0,P none,I J 0,I J 0,P none,I J 0,I J 0,P none],B false])))/\((!a0)=false->(Ca a9 152 #[A #[B l,S m n o]] fun e1 e2=>∃a,∃b,∃c,e1=A #[I J a,I J b,P c]/\(Ca e2 152 #[A #[B p,S q r s]] fun e3 e4=>∃d,∃e,∃f,e3=A #[I J d,I J e,P f]/\(Ca e4 152 #[A #[B t,S u w x]] fun e5 e6=>∃g,∃i,∃k,e5=A #[I J g,I J i,P k]/\(Ca e6 153 #[A #[I J a,I J b,P c]] fun e7 b1=>∃a1,e7=B a1/\((a1=true->(Ca b1 153 #[A #[I J d,I J e,P f]] fun e8 b2=>∃a2,e8=B a2/\((a2=true->(Rt b2 R (T #[A #[I J 0,I J 0,P none,I J 0,I J 0,P none,I J 0,I J 0,P none],B false])))/\(a2=false->(Ca b2 154 #[A #[I J a,I J b,P c],A #[I J d,I J e,P f]] fun e9 f0=>∃b4,∃b5,∃b6,e9=A #[I J b4,I J b5,P b6]/\(Ca f0 154 #[A #[I J b4,I J b5,P b6],A #[I J g,I J i,P k]] fun f1 f2=>∃b7,∃b8,∃b9,f1=A #[I J b7,I J b8,P b9]/\(Ca f2 127 #[I J 1] fun f3 f4=>∃c0,∃c1,∃c2,f3=A #[I J c0,I J c1,P c2]/\(Ca f4 143 #[A #[I J b7,I J b8,P b9],A #[I J c0,I J c1,P c2]] fun f5 c3=>∃a3,f5=B a3/\(((!a3)=true->(Rt c3 R (T #[A #[I J 0,I J 0,P none,I J 0,I J 0,P none,I J 0,I J 0,P none],B false])))/\((!a3)=false->(Rt c3 R (T #[A #[I J a,I J b,P c,I J d,I J e,P f,I J g,I J i,P k],B true]))))))))))))/\(a1=false->(Ca b1 154 #[A #[I J a,I J b,P c],A #[I J d,I J e,P f]] fun f6 f7=>∃c6,∃c7,∃c8,f6=A #[I J c6,I J c7,P c8]/\(Ca f7 154 #[A #[I J c6,I J c7,P c8],A #[I J g,I J i,P k]] fun f8 f9=>∃c9,∃d0,∃d1,f8=A #[I J c9,I J d0,P d1]/\(Ca f9 127 #[I J 1] fun g0 g1=>∃d2,∃d3,∃d4,g0=A #[I J d2,I J d3,P d4]/\(Ca g1 143 #[A #[I J c9,I J d0,P d1],A #[I J d2,I J d3,P d4]] fun g2 d5=>∃a4,g2=B a4/\(((!a4)=true->(Rt d5 R (T #[A #[I J 0,I J 0,P none,I J 0,I J 0,P none,I J 0,I J 0,P none],B false])))/\((!a4)=false->(Rt d5 R (T #[A #[I J a,I J b,P c,I J d,I J e,P f,I J g,I J i,P k],B true])))))))))))))))))))))))):
 Acts prog 90 #[A #[B l,S m n o,B p,S q r s,B t,S u w x]] V R:=
 fd (LF:=LF0) (RF:=[1000007]) [] [] func90 h
theorem vc_geo_Ln_API (a b:Int) (c:OA) (d e:Int) (f:OA) (g i:Int) (k:OA) (V:View) (R:VR) (h:(Ca V 165 #[A #[I J a,I J b,P c]] fun z a0=>∃l,∃m n o,z=A #[B l,S m n o]/\(Ca a0 165 #[A #[I J d,I J e,P f]] fun a1 a2=>∃p,∃q r s,a1=A #[B p,S q r s]/\(Ca a2 165 #[A #[I J g,I J i,P k]] fun a3 a4=>∃t,∃u w x,a3=A #[B t,S u w x]/\(Rt a4 R (A #[B l,S m n o,B p,S q r s,B t,S u w x])))))):
 Acts prog 103 #[A #[I J a,I J b,P c,I J d,I J e,P f,I J g,I J i,P k]] V R:=
 fd (LF:=LF0) (RF:=[1000007]) [] [] func103 h
theorem vc_cmp_Or (e:OA) (a g:Nat) (V:View) (R:VR) (h:(∃(i:Int->VP) (l:Int->Nat),(∃m:Int,(s5 (0:Int) e a g (a:Int) (((0:Int)=m)))/\i m V)/\∀(b:Int) (d:View),V.Le d->i b d->(true=true/\(((decide (b < (a:Int)))=true->(e.isSome=true)/\(0<=b/\b < (a:Int))/\(∃f,(∃n,addrAdd e (b.toNat * 1)=some n/\d.at n (I J f))/\(((f != (0:Int))=true->(Rt d R (I J f)))/\((f != (0:Int))=false->(∃k:Int,l k < l b/\(s5 (0:Int) e a g (a:Int) (((J.wrap (b + (1:Int)))=k)))/\i k d)))))/\((decide (b < (a:Int)))=false->(Rt d R (I J 0))))))):
 Acts prog 226 #[S e a g] V R:=
 fd (LF:=LF0) (RF:=[1000007]) [(3,⟨Int,false,[3,6,7],[],fun q=>[(8,.c (.v (I J q)))],fun q=>[]⟩)] [] func226 h
theorem vc_geo_Ln_Cmp (b c:Int) (d:OA) (e f:Int) (g:OA) (i k:Int) (l:OA) (m n:Int) (o:OA) (p q:Int) (r:OA) (s t:Int) (u:OA) (V:View) (R:VR) (h:(Ca V 175 #[A #[I J b,I J c,P d],A #[I J m,I J n,P o]] fun a2 a3=>∃w,a2=I J w/\(Ca a3 175 #[A #[I J e,I J f,P g],A #[I J p,I J q,P r]] fun a4 a5=>∃x,a4=I J x/\(Ca a5 175 #[A #[I J i,I J k,P l],A #[I J s,I J t,P u]] fun a6 a7=>∃y,a6=I J y/\(∀a,a7.Le a->∀z:Nat,(a.blk z (.cells #[I J w,I J x,I J y] 3 (0,0)))->Acts prog 226 #[S (some ⟨z,0,none⟩) 3 3] a fun a8 a9=>∃a0,a8=I J a0/\∀b0:C->Value,(Rt a9 R (I J a0))))))):
 Acts prog 213 #[A #[I J b,I J c,P d,I J e,I J f,P g,I J i,I J k,P l],A #[I J m,I J n,P o,I J p,I J q,P r,I J s,I J t,P u]] V R:=
 fd (LF:=LF0) (RF:=[226,1000007]) [] [] func213 h
theorem vc_geo_Ln_Equal (a b:Int) (c:OA) (d e:Int) (f:OA) (g i:Int) (k:OA) (l m:Int) (n:OA) (o p:Int) (q:OA) (r s:Int) (t:OA) (V:View) (R:VR) (h:(Ca V 213 #[A #[I J a,I J b,P c,I J d,I J e,P f,I J g,I J i,P k],A #[I J l,I J m,P n,I J o,I J p,P q,I J r,I J s,P t]] fun x y=>∃u,x=I J u/\(Rt y R (B (u == (0:Int)))))):
 Acts prog 182 #[A #[I J a,I J b,P c,I J d,I J e,P f,I J g,I J i,P k],A #[I J l,I J m,P n,I J o,I J p,P q,I J r,I J s,P t]] V R:=
 fd (LF:=LF0) (RF:=[1000007]) [] [] func182 h
end Go.Proofs.Tryz
/- Contracts of package geo: lines. -/
namespace Go.Eng
open Go.Big
/-- A line of package geo. -/
def RLn (V:View) (v:Value) (a b c:Rat):Prop:=∃(x1 x2:Int) (p:OA) (y1 y2:Int) (q:OA) (z1 z2:Int) (r:OA),v=.agg #[.int .i64 x1,.int .i64 x2,.pointer p,.int .i64 y1,.int .i64 y2,.pointer q,.int .i64 z1,.int .i64 z2,.pointer r] /\
 RR V (.agg #[.int .i64 x1,.int .i64 x2,.pointer p]) a/\RR V (.agg #[.int .i64 y1,.int .i64 y2,.pointer q]) b/\RR V (.agg #[.int .i64 z1,.int .i64 z2,.pointer r]) c
/-- The shape of a line of package geo. -/
def LnSh (v:Value):Prop:=∃(x1 x2:Int) (x3:OA) (y1 y2:Int) (y3:OA) (z1 z2:Int) (z3:OA),v=.agg #[.int .i64 x1,.int .i64 x2,.pointer x3,.int .i64 y1,.int .i64 y2,.pointer y3,.int .i64 z1,.int .i64 z2,.pointer z3]
theorem RLn.le {V V':View} {v:Value} {a b c:Rat} (h:RLn V v a b c) (l:V.Le V'):RLn V' v a b c:=by
 obtain ⟨x1,x2,p,y1,y2,q,z1,z2,r,rfl,h1,h2,h3⟩:=h
 exact ⟨x1,x2,p,y1,y2,q,z1,z2,r,rfl,h1.le l,h2.le l,h3.le l⟩
end Go.Eng
namespace Go.Proofs.Tryz
open Go.Eng Go.Big
theorem c_geo_API {V:View} {v:Value} {a b c:Rat} (h:RLn V v a b c) {k:Nat} (s1:Sz k a) (s2:Sz k b) (s3:Sz k c) (hk:k<=1099511627776) :
  Acts prog 103 #[v] V fun r V'=>RL V' r a.num b.num c.num:=by
 obtain ⟨x1,x2,p,y1,y2,q,z1,z2,r,rfl,h1,h2,h3⟩:=h
 refine vc_geo_Ln_API _ _ _ _ _ _ _ _ _ V _ fun V1 l1=>(c_R_Num (h1.le l1) s1 hk).mono ?_
 rintro r V2 l2 ⟨p1,n1,c1,rfl,g1⟩
 refine ⟨_,_,_,_,rfl,fun V3 l3=>(c_R_Num (h2.le (l1.trans (l2.trans l3))) s2 hk).mono ?_⟩
 rintro r V4 l4 ⟨p2,n2,c2,rfl,g2⟩
 refine ⟨_,_,_,_,rfl,fun V5 l5=>(c_R_Num (h3.le (l1.trans (l2.trans (l3.trans (l4.trans l5))))) s3 hk).mono ?_⟩
 rintro r V6 l6 ⟨p3,n3,c3,rfl,g3⟩
 exact ⟨_,_,_,_,rfl,fun V7 l7=>⟨_,_,_,_,_,_,_,_,_,rfl,g1.le (l3.trans (l4.trans (l5.trans (l6.trans l7)))),g2.le (l5.trans (l6.trans l7)),g3.le l7⟩⟩
end Go.Proofs.Tryz
/- Contracts of package geo: LnOf. -/
namespace Go.Proofs.Tryz
open Go.Eng Go.Big
/-- What LnOf decides. -/
def okLn (b1:Bool) (xs:List Nat) (b2:Bool) (ys:List Nat) (b3:Bool) (zs:List Nat):Bool:=
 NrmI b1 xs && NrmI b2 ys && NrmI b3 zs && !(decide ((ival b1 xs:Rat)=0) && decide ((ival b2 ys:Rat)=0)) && decide (gcdQ (gcdQ (ival b1 xs) (ival b2 ys)) (ival b3 zs)=((1:Int):Rat))
theorem ln_bad {V:View} {ok:Bool} {A B C:Rat} (h:ok=false):∃v,Value.tuple #[.agg #[.int .i64 0,.int .i64 0,.pointer none,.int .i64 0,.int .i64 0,.pointer none,.int .i64 0,.int .i64 0,.pointer none],.bool false]=.tuple #[v,.bool ok]/\LnSh v/\(ok=true->RLn V v A B C):=by
 subst h; exact ⟨_,rfl,⟨_,_,_,_,_,_,_,_,_,rfl⟩,fun h=>nomatch h⟩
theorem sz_one:Sz 1 ((1:Int):Rat):=by unfold Sz; decide
theorem c_geo_LnOf {V:View} (b1 b2 b3:Bool) {p q s:OA} {n c m e i j:Nat} {xs ys zs:List Nat} (hx:RD V p n c xs) (hy:RD V q m e ys) (hz:RD V s i j zs)
  (h1:xs.length<=1099511627776) (h2:ys.length<=1099511627776) (h3:zs.length<=1099511627776) {k:Nat} (s1:Sz k (ival b1 xs:Rat)) (s2:Sz k (ival b2 ys:Rat)) (s3:Sz k (ival b3 zs:Rat)) (hk:4 * k + 4 < 1099511627776) :
  Acts prog 90 #[.agg #[.bool b1,.slice p n c,.bool b2,.slice q m e,.bool b3,.slice s i j]] V fun r V'=>∃v,r=.tuple #[v,.bool (okLn b1 xs b2 ys b3 zs)]/\LnSh v/\(okLn b1 xs b2 ys b3 zs=true->RLn V' v (ival b1 xs) (ival b2 ys) (ival b3 zs)):=by
 refine vc_geo_LnOf _ p n c _ q m e _ s i j V _ fun V1 l1=>(c_integer_Normal b1 (hx.le l1) h1).mono ?_
 rintro r V2 l2 rfl
 refine ⟨_,rfl,fun h0 V3 l3=>ln_bad ?_,fun h0 V4 l4=>(c_integer_Normal b2 (hy.le (l1.trans (l2.trans l4))) h2).mono ?_⟩
 ·have h0:NrmI b1 xs=false:=by simpa using h0
  simp [okLn,h0]
 have h0:NrmI b1 xs=true:=by simpa using h0
 rintro r V5 l5 rfl
 refine ⟨_,rfl,fun g0 V6 l6=>ln_bad ?_,fun g0 V7 l7=>(c_integer_Normal b3 (hz.le (l1.trans (l2.trans (l4.trans (l5.trans l7))))) h3).mono ?_⟩
 ·have g0:NrmI b2 ys=false:=by simpa using g0
  simp [okLn,g0]
 have g0:NrmI b2 ys=true:=by simpa using g0
 rintro r V8 l8 rfl
 have l08:=l1.trans (l2.trans (l4.trans (l5.trans (l7.trans l8))))
 refine ⟨_,rfl,fun f0 V9 l9=>ln_bad ?_,fun f0 V10 l10=>(c_frac_Whole b1 (hx.le (l08.trans l10)) h1).mono ?_⟩
 ·have f0:NrmI b3 zs=false:=by simpa using f0
  simp [okLn,f0]
 have f0:NrmI b3 zs=true:=by simpa using f0
 rintro r V11 l11 ra
 obtain ⟨x1,x2,x3,rfl⟩:=ra.shape
 have l011:=l08.trans (l10.trans l11)
 refine ⟨_,_,_,rfl,fun V12 l12=>(c_frac_Whole b2 (hy.le (l011.trans l12)) h2).mono ?_⟩
 rintro r V13 l13 rb
 obtain ⟨y1,y2,y3,rfl⟩:=rb.shape
 have l013:=l011.trans (l12.trans l13)
 refine ⟨_,_,_,rfl,fun V14 l14=>(c_frac_Whole b3 (hz.le (l013.trans l14)) h3).mono ?_⟩
 rintro r V15 l15 rc
 obtain ⟨z1,z2,z3,rfl⟩:=rc.shape
 replace ra:=ra.le (l12.trans (l13.trans (l14.trans l15)))
 replace rb:=rb.le (l14.trans l15)
 have hok:okLn b1 xs b2 ys b3 zs=(!(decide ((ival b1 xs:Rat)=0) && decide ((ival b2 ys:Rat)=0)) && decide (gcdQ (gcdQ (ival b1 xs) (ival b2 ys)) (ival b3 zs)=((1:Int):Rat))):=by
  simp only [okLn,h0,g0,f0,Bool.true_and]
 rw [hok]
 clear hok h0 g0 f0 hx hy hz
 generalize (ival b1 xs:Rat)=A at *
 generalize (ival b2 ys:Rat)=B at *
 generalize (ival b3 zs:Rat)=C at *
 refine ⟨_,_,_,rfl,fun V16 l16=>(c_R_Zero (ra.le l16)).mono ?_⟩
 rintro r V17 l17 rfl
 refine ⟨_,rfl,fun t0 V18 l18=>(c_R_Zero (rb.le (l16.trans (l17.trans l18)))).mono ?_,fun t0 V21 l21=>?_⟩
 ·rintro r V19 l19 rfl
  refine ⟨_,rfl,fun u0 V20 l20=>ln_bad (by rw [t0,u0]; rfl),fun u0 V21 l21=>?_⟩
  have lb:V15.Le V21:=l16.trans (l17.trans (l18.trans (l19.trans l21)))
  have hn:(decide (A=0) && decide (B=0))=false:=by rw [u0,Bool.and_false]
  rw [hn]
  refine (c_frac_Gcd (ra.le lb) (rb.le lb) s1 s2 (by omega)).mono ?_
  rintro r V22 l22 rg
  obtain ⟨g1,g2,g3,rfl⟩:=rg.shape
  refine ⟨_,_,_,rfl,fun V23 l23=>(c_frac_Gcd (rg.le l23) (rc.le (lb.trans (l22.trans l23))) (Sz_gcdQ s1 s2) s3 (by omega)).mono ?_⟩
  rintro r V24 l24 rh
  obtain ⟨h1,h2,h3,rfl⟩:=rh.shape
  refine ⟨_,_,_,rfl,fun V25 l25=>(c_frac_Int 1 (by omega) (by omega)).mono ?_⟩
  rintro r V26 l26 ri
  obtain ⟨i1,i2,i3,rfl⟩:=ri.shape
  refine ⟨_,_,_,rfl,fun V27 l27=>(c_R_Equal (rh.le (l25.trans (l26.trans l27))) (ri.le l27) (Sz_gcdQ (Sz_gcdQ s1 s2) s3) sz_one (by omega)).mono ?_⟩
  rintro r V28 l28 rfl
  have lz:V15.Le V28:=lb.trans (l22.trans (l23.trans (l24.trans (l25.trans (l26.trans (l27.trans l28))))))
  refine ⟨_,rfl,fun w0 V29 l29=>ln_bad ?_,fun w0 V30 l30=>?_⟩
  ·rw [Bool.not_eq_true'] at w0
   rw [w0]; rfl
  ·have w0:decide (gcdQ (gcdQ A B) C=((1:Int):Rat))=true:=by
    cases h:decide (gcdQ (gcdQ A B) C=((1:Int):Rat))
    ·rw [h] at w0; cases w0
    ·rfl
   rw [w0]
   exact ⟨_,rfl,⟨_,_,_,_,_,_,_,_,_,rfl⟩,fun _=>⟨_,_,_,_,_,_,_,_,_,rfl,ra.le (lz.trans l30),rb.le (lz.trans l30),rc.le (lz.trans l30)⟩⟩
 ·have lb:V15.Le V21:=l16.trans (l17.trans l21)
  have hn:(decide (A=0) && decide (B=0))=false:=by rw [t0,Bool.false_and]
  rw [hn]
  refine (c_frac_Gcd (ra.le lb) (rb.le lb) s1 s2 (by omega)).mono ?_
  rintro r V22 l22 rg
  obtain ⟨g1,g2,g3,rfl⟩:=rg.shape
  refine ⟨_,_,_,rfl,fun V23 l23=>(c_frac_Gcd (rg.le l23) (rc.le (lb.trans (l22.trans l23))) (Sz_gcdQ s1 s2) s3 (by omega)).mono ?_⟩
  rintro r V24 l24 rh
  obtain ⟨h1,h2,h3,rfl⟩:=rh.shape
  refine ⟨_,_,_,rfl,fun V25 l25=>(c_frac_Int 1 (by omega) (by omega)).mono ?_⟩
  rintro r V26 l26 ri
  obtain ⟨i1,i2,i3,rfl⟩:=ri.shape
  refine ⟨_,_,_,rfl,fun V27 l27=>(c_R_Equal (rh.le (l25.trans (l26.trans l27))) (ri.le l27) (Sz_gcdQ (Sz_gcdQ s1 s2) s3) sz_one (by omega)).mono ?_⟩
  rintro r V28 l28 rfl
  have lz:V15.Le V28:=lb.trans (l22.trans (l23.trans (l24.trans (l25.trans (l26.trans (l27.trans l28))))))
  refine ⟨_,rfl,fun w0 V29 l29=>ln_bad ?_,fun w0 V30 l30=>?_⟩
  ·rw [Bool.not_eq_true'] at w0
   rw [w0]; rfl
  ·have w0:decide (gcdQ (gcdQ A B) C=((1:Int):Rat))=true:=by
    cases h:decide (gcdQ (gcdQ A B) C=((1:Int):Rat))
    ·rw [h] at w0; cases w0
    ·rfl
   rw [w0]
   exact ⟨_,rfl,⟨_,_,_,_,_,_,_,_,_,rfl⟩,fun _=>⟨_,_,_,_,_,_,_,_,_,rfl,ra.le (lz.trans l30),rb.le (lz.trans l30),rc.le (lz.trans l30)⟩⟩
end Go.Proofs.Tryz
/- Contracts: cmp.Or; geo Cmp, Equal. -/
namespace Go.Proofs.Tryz
open Go.Eng Go.Big
/-- The first that is not 0, or 0. -/
def orI:List Int->Int
 | []=>0
 | x :: r=>if x=0 then orI r else x
def i64s (l:List Int):List Value:=l.map fun x=>Value.int .i64 x
theorem orI_eq {l:List Int}:orI l=0↔∀x ∈ l,x=0:=by
 induction l with
 | nil=>simp [orI]
 | cons x r ih=>
  simp only [orI,List.mem_cons,forall_eq_or_imp]
  split
  ·rename_i h; simp [h,ih]
  ·rename_i h; simp [h]
theorem c_cmp_Or {V:View} {p:OA} {n c:Nat} {l:List Int} (hl:n=l.length) (hs:V.sl p (i64s l)) (hm:l.length<=1099511627776) :
  Acts prog 226 #[.slice p n c] V fun r V'=>r=.int .i64 (orI l):=by
 refine vc_cmp_Or p n c V _ ⟨fun z V'=>0<=z/\z<=n/\orI l=orI (l.drop z.toNat),fun z=>n - z.toNat,⟨0,by (try dsimp only); and_intros <;> first | exact True.intro | rfl,by (try dsimp only); omega,by (try dsimp only); omega,rfl⟩,?_⟩
 rintro i V1 l1 ⟨hi0,hi1,he⟩
 dsimp only at hi1 he ⊢
 obtain ⟨i,rfl⟩:=Int.eq_ofNat_of_zero_le hi0
 simp only [Int.toNat_natCast] at he
 refine ⟨by trivial,fun h3=>?_,fun h3 V3 l3=>?_⟩
 ·have h3:i < n:=by simpa using h3
  have hil:i < l.length:=by omega
  obtain ⟨ad,e1,hat⟩:=(l1.sl hs) i (.int .i64 l[i]) (by simp [i64s,hil])
  rw [List.drop_eq_getElem_cons hil,orI] at he
  refine ⟨by rw [e1]; rfl,⟨by omega,by omega⟩,l[i],⟨ad.add i,by rw [e1]; simp [addrAdd],hat⟩,fun h4 V2 l2=>?_,fun h4=>?_⟩
  ·have h4:l[i]≠0:=by simpa using h4
   rw [if_neg h4] at he
   rw [he]
  ·have h4:l[i]=0:=by simpa using h4
   rw [if_pos h4] at he
   have w:i64.wrap ((i:Int) + 1)=((i + 1:Nat):Int):=by rw [i64w (by omega)]; omega
   simp only [w]
   refine ⟨((i + 1:Nat):Int),?_,by (try dsimp only); and_intros <;> first | exact True.intro | rfl,by (try dsimp only); omega,by (try dsimp only); omega,?_⟩
   ·(try dsimp only); omega
   ·exact he
 ·have h3:i=n:=by simp at h3; omega
  rw [List.drop_of_length_le (by omega)] at he
  rw [he]; rfl
theorem c_geo_Cmp {V:View} {v w:Value} {a b c a' b' c':Rat} (hx:RLn V v a b c) (hy:RLn V w a' b' c') {k m:Nat} (s1:Sz k a) (s2:Sz k b) (s3:Sz k c) (t1:Sz m a') (t2:Sz m b') (t3:Sz m c') (hk:k + m < 1099511627776) :
  Acts prog 213 #[v,w] V fun r V'=>r=.int .i64 (orI [cmpQ a a',cmpQ b b',cmpQ c c']):=by
 obtain ⟨x1,x2,p,y1,y2,q,z1,z2,r,rfl,h1,h2,h3⟩:=hx
 obtain ⟨x3,x4,p',y3,y4,q',z3,z4,r',rfl,g1,g2,g3⟩:=hy
 refine vc_geo_Ln_Cmp _ _ _ _ _ _ _ _ _ _ _ _ _ _ _ _ _ _ V _ fun V1 l1=>(c_R_Cmp (h1.le l1) (g1.le l1) s1 t1 hk).mono ?_
 rintro r V2 l2 rfl
 refine ⟨_,rfl,fun V3 l3=>(c_R_Cmp (h2.le (l1.trans (l2.trans l3))) (g2.le (l1.trans (l2.trans l3))) s2 t2 hk).mono ?_⟩
 rintro r V4 l4 rfl
 have l04:=l1.trans (l2.trans (l3.trans l4))
 refine ⟨_,rfl,fun V5 l5=>(c_R_Cmp (h3.le (l04.trans l5)) (g3.le (l04.trans l5)) s3 t3 hk).mono ?_⟩
 rintro r V6 l6 rfl
 refine ⟨_,rfl,fun V7 l7 bk hb=>(c_cmp_Or (l:=[cmpQ a a',cmpQ b b',cmpQ c c']) rfl (fun i v hv=>⟨_,rfl,by rw [add_zero']; exact blk_at (xs:=i64s [cmpQ a a',cmpQ b b',cmpQ c c']) hb hv⟩) (by simp)).mono ?_⟩
 rintro r V8 l8 rfl
 exact ⟨_,rfl,fun _ V9 l9=>rfl⟩
theorem c_geo_Equal {V:View} {v w:Value} {a b c a' b' c':Rat} (hx:RLn V v a b c) (hy:RLn V w a' b' c') {k m:Nat} (s1:Sz k a) (s2:Sz k b) (s3:Sz k c) (t1:Sz m a') (t2:Sz m b') (t3:Sz m c') (hk:k + m < 1099511627776) :
  Acts prog 182 #[v,w] V fun r V'=>r=.bool (decide (a=a'/\b=b'/\c=c')):=by
 have hx0:=hx
 have hy0:=hy
 obtain ⟨x1,x2,p,y1,y2,q,z1,z2,r,rfl,-,-,-⟩:=hx
 obtain ⟨x3,x4,p',y3,y4,q',z3,z4,r',rfl,-,-,-⟩:=hy
 refine vc_geo_Ln_Equal _ _ _ _ _ _ _ _ _ _ _ _ _ _ _ _ _ _ V _ fun V1 l1=>(c_geo_Cmp (hx0.le l1) (hy0.le l1) s1 s2 s3 t1 t2 t3 hk).mono ?_
 rintro r V2 l2 rfl
 refine ⟨_,rfl,fun V3 l3=>?_⟩
 congr 1
 rw [Bool.eq_iff_iff,decide_eq_true_eq,beq_iff_eq,orI_eq]
 simp [← cmpQ_eq]
end Go.Proofs.Tryz
/- By program: the conditions of the functions, from their loaded code. -/
namespace Go.Proofs.Tryz
open Go.Eng
open Go.Value renaming int→I,pointer→P,slice→S,agg→A,bool→B,tuple→T
open Go.IntKind renaming i64→J,u64→U,u32→W
set_option maxRecDepth 100000
theorem vc_geo_PtOf (a:Bool) (b:OA) (c d:Nat) (e:OA) (f g:Nat) (i:Bool) (k:OA) (l m:Nat) (n:OA) (o p:Nat) (V:View) (R:VR) (h:(Ca V 102 #[A #[B a,S b c d,S e f g]] fun y z=>∃q,∃r,∃s,y=A #[I J q,I J r,P s]/\(Ca z 102 #[A #[B i,S k l m,S n o p]] fun a0 a1=>∃t,∃u,∃w,a0=A #[I J t,I J u,P w]/\(Rt a1 R (A #[I J q,I J r,P s,I J t,I J u,P w]))))):
 Acts prog 48 #[A #[B a,S b c d,S e f g,B i,S k l m,S n o p]] V R:=
 fd (LF:=LF0) (RF:=[1000007]) [] [] func48 h
theorem vc_geo_Pt_API (a b:Int) (c:OA) (d e:Int) (f:OA) (V:View) (R:VR) (h:(Ca V 144 #[A #[I J a,I J b,P c]] fun y z=>∃g,∃i k l,∃m n o,y=A #[B g,S i k l,S m n o]/\(Ca z 144 #[A #[I J d,I J e,P f]] fun a0 a1=>∃p,∃q r s,∃t u w,a0=A #[B p,S q r s,S t u w]/\(Rt a1 R (A #[B g,S i k l,S m n o,B p,S q r s,S t u w]))))):
 Acts prog 83 #[A #[I J a,I J b,P c,I J d,I J e,P f]] V R:=
 fd (LF:=LF0) (RF:=[1000007]) [] [] func83 h
theorem vc_geo_Pt_Add (a b:Int) (c:OA) (d e:Int) (f:OA) (g i:Int) (k:OA) (l m:Int) (n:OA) (V:View) (R:VR) (h:(Ca V 198 #[A #[I J a,I J b,P c],A #[I J g,I J i,P k]] fun w x=>∃o,∃p,∃q,w=A #[I J o,I J p,P q]/\(Ca x 198 #[A #[I J d,I J e,P f],A #[I J l,I J m,P n]] fun y z=>∃r,∃s,∃t,y=A #[I J r,I J s,P t]/\(Rt z R (A #[I J o,I J p,P q,I J r,I J s,P t]))))):
 Acts prog 169 #[A #[I J a,I J b,P c,I J d,I J e,P f],A #[I J g,I J i,P k,I J l,I J m,P n]] V R:=
 fd (LF:=LF0) (RF:=[1000007]) [] [] func169 h
theorem vc_geo_Pt_Sub (a b:Int) (c:OA) (d e:Int) (f:OA) (g i:Int) (k:OA) (l m:Int) (n:OA) (V:View) (R:VR) (h:(Ca V 186 #[A #[I J a,I J b,P c],A #[I J g,I J i,P k]] fun w x=>∃o,∃p,∃q,w=A #[I J o,I J p,P q]/\(Ca x 186 #[A #[I J d,I J e,P f],A #[I J l,I J m,P n]] fun y z=>∃r,∃s,∃t,y=A #[I J r,I J s,P t]/\(Rt z R (A #[I J o,I J p,P q,I J r,I J s,P t]))))):
 Acts prog 157 #[A #[I J a,I J b,P c,I J d,I J e,P f],A #[I J g,I J i,P k,I J l,I J m,P n]] V R:=
 fd (LF:=LF0) (RF:=[1000007]) [] [] func157 h
theorem vc_geo_Pt_Scale (d e:Int) (f:OA) (g i:Int) (k:OA) (a b:Int) (c:OA) (V:View) (R:VR) (h:(Ca V 185 #[A #[I J d,I J e,P f],A #[I J a,I J b,P c]] fun s t=>∃l,∃m,∃n,s=A #[I J l,I J m,P n]/\(Ca t 185 #[A #[I J g,I J i,P k],A #[I J a,I J b,P c]] fun u w=>∃o,∃p,∃q,u=A #[I J o,I J p,P q]/\(Rt w R (A #[I J l,I J m,P n,I J o,I J p,P q]))))):
 Acts prog 170 #[A #[I J d,I J e,P f,I J g,I J i,P k],A #[I J a,I J b,P c]] V R:=
 fd (LF:=LF0) (RF:=[1000007]) [] [] func170 h
theorem vc_geo_Pt_Turn (a b:Int) (c:OA) (d e:Int) (f:OA) (V:View) (R:VR) (h:(Ca V 161 #[A #[I J d,I J e,P f]] fun m n=>∃g,∃i,∃k,m=A #[I J g,I J i,P k]/\(Rt n R (A #[I J g,I J i,P k,I J a,I J b,P c])))):
 Acts prog 158 #[A #[I J a,I J b,P c,I J d,I J e,P f]] V R:=
 fd (LF:=LF0) (RF:=[1000007]) [] [] func158 h
theorem vc_geo_Pt_Dot (a b:Int) (c:OA) (d e:Int) (f:OA) (g i:Int) (k:OA) (l m:Int) (n:OA) (V:View) (R:VR) (h:(Ca V 185 #[A #[I J a,I J b,P c],A #[I J g,I J i,P k]] fun z a0=>∃o,∃p,∃q,z=A #[I J o,I J p,P q]/\(Ca a0 185 #[A #[I J d,I J e,P f],A #[I J l,I J m,P n]] fun a1 a2=>∃r,∃s,∃t,a1=A #[I J r,I J s,P t]/\(Ca a2 198 #[A #[I J o,I J p,P q],A #[I J r,I J s,P t]] fun a3 a4=>∃u,∃w,∃x,a3=A #[I J u,I J w,P x]/\(Rt a4 R (A #[I J u,I J w,P x])))))):
 Acts prog 160 #[A #[I J a,I J b,P c,I J d,I J e,P f],A #[I J g,I J i,P k,I J l,I J m,P n]] V R:=
 fd (LF:=LF0) (RF:=[1000007]) [] [] func160 h
theorem vc_geo_Pt_Cross (a b:Int) (c:OA) (d e:Int) (f:OA) (g i:Int) (k:OA) (l m:Int) (n:OA) (V:View) (R:VR) (h:(Ca V 185 #[A #[I J a,I J b,P c],A #[I J l,I J m,P n]] fun z a0=>∃o,∃p,∃q,z=A #[I J o,I J p,P q]/\(Ca a0 185 #[A #[I J d,I J e,P f],A #[I J g,I J i,P k]] fun a1 a2=>∃r,∃s,∃t,a1=A #[I J r,I J s,P t]/\(Ca a2 186 #[A #[I J o,I J p,P q],A #[I J r,I J s,P t]] fun a3 a4=>∃u,∃w,∃x,a3=A #[I J u,I J w,P x]/\(Rt a4 R (A #[I J u,I J w,P x])))))):
 Acts prog 184 #[A #[I J a,I J b,P c,I J d,I J e,P f],A #[I J g,I J i,P k,I J l,I J m,P n]] V R:=
 fd (LF:=LF0) (RF:=[1000007]) [] [] func184 h
theorem vc_geo_Pt_Equal (b c:Int) (d:OA) (e f:Int) (g:OA) (i k:Int) (l:OA) (m n:Int) (o:OA) (V:View) (R:VR) (h:(Ca V 143 #[A #[I J b,I J c,P d],A #[I J i,I J k,P l]] fun t p=>∃a,t=B a/\((a=true->(Ca p 143 #[A #[I J e,I J f,P g],A #[I J m,I J n,P o]] fun u w=>∃q,u=B q/\(Rt w R (B q))))/\(a=false->(Rt p R (B false)))))):
 Acts prog 128 #[A #[I J b,I J c,P d,I J e,I J f,P g],A #[I J i,I J k,P l,I J m,I J n,P o]] V R:=
 fd (LF:=LF0) (RF:=[1000007]) [] [] func128 h
theorem vc_geo_scaled (e f:Int) (i:OA) (k b d:Nat) (g:List Value) (V:View) (R:VR) (hw100000:g≠[]->V.w.heap[k]?=some (.cells g.toArray 108 (0,0))) (hx100000:g≠[]->V.X k) (h:(∃(o:(Int × (List Value))->VP) (s:(Int × (List Value))->Nat),(∃p,(s4 b d 0 (b:Int) (((0:Int)=p.1)/\s3 e f i ((g=p.2))))/\o p V)/\∀(a:Int × (List Value)) (m:View),V.Le m->o a m->(true=true/\(((decide (a.1 < (b:Int)))=true->(0<=a.1/\a.1 < (b:Int))/\(b<=d)/\(∃t,∃u,∃x,((a.1.toNat * 3) + 3<=a.2.length/\(a.2.drop (a.1.toNat * 3)).take 3=[I J t,I J u,P x])/\(Ca m 185 #[A #[I J t,I J u,P x],A #[I J e,I J f,P i]] fun a1 a2=>∃y,∃z,∃a0,a1=A #[I J y,I J z,P a0]/\(0<=a.1/\a.1 < (b:Int))/\(b<=d)/\((a.1.toNat * 3) + 3<=a.2.length)/\(∃n:Int × (List Value),s n < s a/\(s4 b d 0 (b:Int) (((J.wrap (a.1 + (1:Int)))=n.1)/\s3 e f i (((setVals a.2 (a.1.toNat * 3) [I J y,I J z,P a0])=n.2))))/\o n a2))))/\((decide (a.1 < (b:Int)))=false->(∀q:View,∀l:Nat,m.Le (q.hideG (a.2≠[]) l)->(a.2≠[]->q.w.heap[l]?=some (.cells a.2.toArray 108 (0,0)))->(a.2≠[]->V.w.heap.size<=l \/ (g≠[]/\l=k) \/ False)->R (S (mA l d) b d) q)))))):
 Acts prog 196 #[A #[I J e,I J f,P i],S (mA k d) b d] V R:=
 fn_does (LF:=LF0) (RF:=[1000007]) (β0:=(upd1 (fun _=>0) 100000 k)) tab_ok mixed [(2,⟨Int × (List Value),false,[1,2,7],[2],fun r=>[(8,.c (.v (I J r.1)))],fun r=>[(100000,⟨.mrow r.2,108⟩)]⟩)] [] func196 (by kernel_rfl) [(0,.agg [.v (I J e),.v (I J f),.v (P i)]),(1,.c (.msl 100000 b d))] [(100000,⟨.mrow g,108⟩)] (by kernel_rfl) ⟨⟨hw100000,hx100000⟩,trivial,trivial⟩ h (by kernel_rfl)
theorem vc_geo_Make (e f:Int) (g:OA) (i k:Int) (l:OA) (m n:Int) (o:OA) (V:View) (R:VR) (h:(Ca V 153 #[A #[I J e,I J f,P g]] fun e4 a1=>∃z,e4=B z/\((z=true->(Ca a1 153 #[A #[I J i,I J k,P l]] fun e5 a2=>∃a0,e5=B a0/\((a0=true->(Rt a2 R (T #[A #[I J 0,I J 0,P none,I J 0,I J 0,P none,I J 0,I J 0,P none],B false])))/\(a0=false->(Ca a2 154 #[A #[I J e,I J f,P g],A #[I J i,I J k,P l]] fun e6 e7=>∃a4,∃a5,∃a6,e6=A #[I J a4,I J a5,P a6]/\(Ca e7 154 #[A #[I J a4,I J a5,P a6],A #[I J m,I J n,P o]] fun e8 e9=>∃a7,∃a8,∃a9,e8=A #[I J a7,I J a8,P a9]/\(Ca e9 197 #[A #[I J a7,I J a8,P a9]] fun f0 f1=>∃b0,∃b1,∃b2,f0=A #[I J b0,I J b1,P b2]/\(∀p,f1.Le p->∀q:Nat,(p.w.heap[q]?=some (.cells #[I J e,I J f,P g,I J i,I J k,P l,I J m,I J n,P o] 108 (0,0)))->(p.H q)->Acts prog 196 #[A #[I J b0,I J b1,P b2],S (some ⟨q,0,none⟩) 3 3] (p.lend [q]) fun f2 b3=>∃(r:Nat) (a:List Value),(a≠[]->b3.w.heap[r]?=some (.cells a.toArray 108 (0,0)))/\(a≠[]->p.w.heap.size<=r \/ r=q)/\∃(g0:OA) (c s:Nat),f2=S (mA r s) c s/\(0<=(0:Int)/\(0:Int) < (c:Int))/\(c<=s)/\(∃b4,∃b5,∃b6,(3<=a.length/\(a.drop 0).take 3=[I J b4,I J b5,P b6])/\(0<=(1:Int)/\(1:Int) < (c:Int))/\(c<=s)/\(∃b7,∃b8,∃b9,(6<=a.length/\(a.drop 3).take 3=[I J b7,I J b8,P b9])/\(0<=(2:Int)/\(2:Int) < (c:Int))/\(c<=s)/\(∃c0,∃c1,∃c2,(9<=a.length/\(a.drop 6).take 3=[I J c0,I J c1,P c2])/\(∀c3:View,(b3.shut.hideG (a≠[]) r).Le c3->R (T #[A #[I J b4,I J b5,P b6,I J b7,I J b8,P b9,I J c0,I J c1,P c2],B true]) c3))))))))))))/\(z=false->(Ca a1 154 #[A #[I J e,I J f,P g],A #[I J i,I J k,P l]] fun f3 f4=>∃c4,∃c5,∃c6,f3=A #[I J c4,I J c5,P c6]/\(Ca f4 154 #[A #[I J c4,I J c5,P c6],A #[I J m,I J n,P o]] fun f5 f6=>∃c7,∃c8,∃c9,f5=A #[I J c7,I J c8,P c9]/\(Ca f6 197 #[A #[I J c7,I J c8,P c9]] fun f7 f8=>∃d0,∃d1,∃d2,f7=A #[I J d0,I J d1,P d2]/\(∀t,f8.Le t->∀u:Nat,(t.w.heap[u]?=some (.cells #[I J e,I J f,P g,I J i,I J k,P l,I J m,I J n,P o] 108 (0,0)))->(t.H u)->Acts prog 196 #[A #[I J d0,I J d1,P d2],S (some ⟨u,0,none⟩) 3 3] (t.lend [u]) fun f9 d3=>∃(x:Nat) (b:List Value),(b≠[]->d3.w.heap[x]?=some (.cells b.toArray 108 (0,0)))/\(b≠[]->t.w.heap.size<=x \/ x=u)/\∃(g1:OA) (d y:Nat),f9=S (mA x y) d y/\(0<=(0:Int)/\(0:Int) < (d:Int))/\(d<=y)/\(∃d4,∃d5,∃d6,(3<=b.length/\(b.drop 0).take 3=[I J d4,I J d5,P d6])/\(0<=(1:Int)/\(1:Int) < (d:Int))/\(d<=y)/\(∃d7,∃d8,∃d9,(6<=b.length/\(b.drop 3).take 3=[I J d7,I J d8,P d9])/\(0<=(2:Int)/\(2:Int) < (d:Int))/\(d<=y)/\(∃e0,∃e1,∃e2,(9<=b.length/\(b.drop 6).take 3=[I J e0,I J e1,P e2])/\(∀e3:View,(d3.shut.hideG (b≠[]) x).Le e3->R (T #[A #[I J d4,I J d5,P d6,I J d7,I J d8,P d9,I J e0,I J e1,P e2],B true]) e3)))))))))))):
 Acts prog 159 #[A #[I J e,I J f,P g],A #[I J i,I J k,P l],A #[I J m,I J n,P o]] V R:=
 fd (LF:=LF0) (RF:=[1000007]) [] [] func159 h
theorem vc_geo_Through (a b:Int) (c:OA) (d e:Int) (f:OA) (o p:Int) (q:OA) (r s:Int) (t:OA) (V:View) (R:VR) (h:(Ca V 157 #[A #[I J o,I J p,P q,I J r,I J s,P t],A #[I J a,I J b,P c,I J d,I J e,P f]] fun b8 b9=>∃u,∃w,∃x,∃y,∃z,∃a0,b8=A #[I J u,I J w,P x,I J y,I J z,P a0]/\(Ca b9 158 #[A #[I J u,I J w,P x,I J y,I J z,P a0]] fun c0 c1=>∃g,∃i,∃k,∃l,∃m,∃n,c0=A #[I J g,I J i,P k,I J l,I J m,P n]/\(Ca c1 160 #[A #[I J g,I J i,P k,I J l,I J m,P n],A #[I J a,I J b,P c,I J d,I J e,P f]] fun c2 c3=>∃a1,∃a2,∃a3,c2=A #[I J a1,I J a2,P a3]/\(Ca c3 161 #[A #[I J a1,I J a2,P a3]] fun c4 c5=>∃a4,∃a5,∃a6,c4=A #[I J a4,I J a5,P a6]/\(Ca c5 159 #[A #[I J g,I J i,P k],A #[I J l,I J m,P n],A #[I J a4,I J a5,P a6]] fun c6 c7=>∃a7,∃a8,∃a9,∃b0,∃b1,∃b2,∃b3,∃b4,∃b5,∃b6,c6=T #[A #[I J a7,I J a8,P a9,I J b0,I J b1,P b2,I J b3,I J b4,P b5],B b6]/\(Rt c7 R (T #[A #[I J a7,I J a8,P a9,I J b0,I J b1,P b2,I J b3,I J b4,P b5],B b6])))))))):
 Acts prog 100 #[A #[I J a,I J b,P c,I J d,I J e,P f],A #[I J o,I J p,P q,I J r,I J s,P t]] V R:=
 fd (LF:=LF0) (RF:=[1000007]) [] [] func100 h
theorem vc_geo_Ln_Reverse (a b:Int) (c:OA) (d e:Int) (f:OA) (g i:Int) (k:OA) (V:View) (R:VR) (h:(Ca V 161 #[A #[I J a,I J b,P c]] fun w x=>∃l,∃m,∃n,w=A #[I J l,I J m,P n]/\(Ca x 161 #[A #[I J d,I J e,P f]] fun y z=>∃o,∃p,∃q,y=A #[I J o,I J p,P q]/\(Ca z 161 #[A #[I J g,I J i,P k]] fun a0 a1=>∃r,∃s,∃t,a0=A #[I J r,I J s,P t]/\(Rt a1 R (A #[I J l,I J m,P n,I J o,I J p,P q,I J r,I J s,P t])))))):
 Acts prog 125 #[A #[I J a,I J b,P c,I J d,I J e,P f,I J g,I J i,P k]] V R:=
 fd (LF:=LF0) (RF:=[1000007]) [] [] func125 h
theorem vc_geo_Ln_Normal (a b:Int) (c:OA) (d e:Int) (f:OA) (i k:Int) (l:OA) (V:View) (R:VR) (h:(Rt V R (A #[I J a,I J b,P c,I J d,I J e,P f]))):
 Acts prog 183 #[A #[I J a,I J b,P c,I J d,I J e,P f,I J i,I J k,P l]] V R:=
 fd (LF:=LF0) (RF:=[1000007]) [] [] func183 h
theorem vc_geo_Ln_Dir (a b:Int) (c:OA) (d e:Int) (f:OA) (m n:Int) (o:OA) (V:View) (R:VR) (h:(Ca V 161 #[A #[I J a,I J b,P c]] fun p q=>∃g,∃i,∃k,p=A #[I J g,I J i,P k]/\(Rt q R (A #[I J d,I J e,P f,I J g,I J i,P k])))):
 Acts prog 162 #[A #[I J a,I J b,P c,I J d,I J e,P f,I J m,I J n,P o]] V R:=
 fd (LF:=LF0) (RF:=[1000007]) [] [] func162 h
theorem vc_geo_Ln_Base (l m:Int) (n:OA) (o p:Int) (q:OA) (g i:Int) (k:OA) (V:View) (R:VR) (h:(Ca V 183 #[A #[I J l,I J m,P n,I J o,I J p,P q,I J g,I J i,P k]] fun a8 a9=>∃a,∃b,∃c,∃d,∃e,∃f,a8=A #[I J a,I J b,P c,I J d,I J e,P f]/\(Ca a9 161 #[A #[I J g,I J i,P k]] fun b0 b1=>∃r,∃s,∃t,b0=A #[I J r,I J s,P t]/\(Ca b1 160 #[A #[I J a,I J b,P c,I J d,I J e,P f],A #[I J a,I J b,P c,I J d,I J e,P f]] fun b2 b3=>∃u,∃w,∃x,b2=A #[I J u,I J w,P x]/\(Ca b3 163 #[A #[I J r,I J s,P t],A #[I J u,I J w,P x]] fun b4 b5=>∃y,∃z,∃a0,b4=A #[I J y,I J z,P a0]/\(Ca b5 170 #[A #[I J a,I J b,P c,I J d,I J e,P f],A #[I J y,I J z,P a0]] fun b6 b7=>∃a1,∃a2,∃a3,∃a4,∃a5,∃a6,b6=A #[I J a1,I J a2,P a3,I J a4,I J a5,P a6]/\(Rt b7 R (A #[I J a1,I J a2,P a3,I J a4,I J a5,P a6])))))))):
 Acts prog 168 #[A #[I J l,I J m,P n,I J o,I J p,P q,I J g,I J i,P k]] V R:=
 fd (LF:=LF0) (RF:=[1000007]) [] [] func168 h
theorem vc_geo_Ln_At (a b:Int) (c:OA) (d e:Int) (f:OA) (g i:Int) (k:OA) (l m:Int) (n:OA) (V:View) (R:VR) (h:(Ca V 168 #[A #[I J a,I J b,P c,I J d,I J e,P f,I J g,I J i,P k]] fun b4 b5=>∃o,∃p,∃q,∃r,∃s,∃t,b4=A #[I J o,I J p,P q,I J r,I J s,P t]/\(Ca b5 162 #[A #[I J a,I J b,P c,I J d,I J e,P f,I J g,I J i,P k]] fun b6 b7=>∃u,∃w,∃x,∃y,∃z,∃a0,b6=A #[I J u,I J w,P x,I J y,I J z,P a0]/\(Ca b7 170 #[A #[I J u,I J w,P x,I J y,I J z,P a0],A #[I J l,I J m,P n]] fun b8 b9=>∃a1,∃a2,∃a3,∃a4,∃a5,∃a6,b8=A #[I J a1,I J a2,P a3,I J a4,I J a5,P a6]/\(Ca b9 169 #[A #[I J o,I J p,P q,I J r,I J s,P t],A #[I J a1,I J a2,P a3,I J a4,I J a5,P a6]] fun c0 c1=>∃a7,∃a8,∃a9,∃b0,∃b1,∃b2,c0=A #[I J a7,I J a8,P a9,I J b0,I J b1,P b2]/\(Rt c1 R (A #[I J a7,I J a8,P a9,I J b0,I J b1,P b2]))))))):
 Acts prog 118 #[A #[I J a,I J b,P c,I J d,I J e,P f,I J g,I J i,P k],A #[I J l,I J m,P n]] V R:=
 fd (LF:=LF0) (RF:=[1000007]) [] [] func118 h
theorem vc_geo_Ln_Param (g i:Int) (k:OA) (l m:Int) (n:OA) (o p:Int) (q:OA) (r s:Int) (t:OA) (u w:Int) (x:OA) (V:View) (R:VR) (h:(Ca V 162 #[A #[I J g,I J i,P k,I J l,I J m,P n,I J o,I J p,P q]] fun a8 a9=>∃a,∃b,∃c,∃d,∃e,∃f,a8=A #[I J a,I J b,P c,I J d,I J e,P f]/\(Ca a9 160 #[A #[I J a,I J b,P c,I J d,I J e,P f],A #[I J r,I J s,P t,I J u,I J w,P x]] fun b0 b1=>∃y,∃z,∃a0,b0=A #[I J y,I J z,P a0]/\(Ca b1 160 #[A #[I J a,I J b,P c,I J d,I J e,P f],A #[I J a,I J b,P c,I J d,I J e,P f]] fun b2 b3=>∃a1,∃a2,∃a3,b2=A #[I J a1,I J a2,P a3]/\(Ca b3 163 #[A #[I J y,I J z,P a0],A #[I J a1,I J a2,P a3]] fun b4 b5=>∃a4,∃a5,∃a6,b4=A #[I J a4,I J a5,P a6]/\(Rt b5 R (A #[I J a4,I J a5,P a6]))))))):
 Acts prog 101 #[A #[I J g,I J i,P k,I J l,I J m,P n,I J o,I J p,P q],A #[I J r,I J s,P t,I J u,I J w,P x]] V R:=
 fd (LF:=LF0) (RF:=[1000007]) [] [] func101 h
theorem vc_geo_Ln_Meet (l m:Int) (n:OA) (o p:Int) (q:OA) (a b:Int) (c:OA) (r s:Int) (t:OA) (u w:Int) (x:OA) (d e:Int) (f:OA) (V:View) (R:VR) (h:(Ca V 183 #[A #[I J l,I J m,P n,I J o,I J p,P q,I J a,I J b,P c]] fun d8 d9=>∃z,∃a0,∃a1,∃a2,∃a3,∃a4,d8=A #[I J z,I J a0,P a1,I J a2,I J a3,P a4]/\(Ca d9 183 #[A #[I J r,I J s,P t,I J u,I J w,P x,I J d,I J e,P f]] fun e0 e1=>∃a5,∃a6,∃a7,∃a8,∃a9,∃b0,e0=A #[I J a5,I J a6,P a7,I J a8,I J a9,P b0]/\(Ca e1 184 #[A #[I J z,I J a0,P a1,I J a2,I J a3,P a4],A #[I J a5,I J a6,P a7,I J a8,I J a9,P b0]] fun e2 e3=>∃g,∃i,∃k,e2=A #[I J g,I J i,P k]/\(Ca e3 153 #[A #[I J g,I J i,P k]] fun e4 b1=>∃y,e4=B y/\((y=true->(Rt b1 R (T #[A #[I J 0,I J 0,P none,I J 0,I J 0,P none],B false])))/\(y=false->(Ca b1 185 #[A #[I J o,I J p,P q],A #[I J d,I J e,P f]] fun e5 e6=>∃b3,∃b4,∃b5,e5=A #[I J b3,I J b4,P b5]/\(Ca e6 185 #[A #[I J a,I J b,P c],A #[I J u,I J w,P x]] fun e7 e8=>∃b6,∃b7,∃b8,e7=A #[I J b6,I J b7,P b8]/\(Ca e8 186 #[A #[I J b3,I J b4,P b5],A #[I J b6,I J b7,P b8]] fun e9 f0=>∃b9,∃c0,∃c1,e9=A #[I J b9,I J c0,P c1]/\(Ca f0 163 #[A #[I J b9,I J c0,P c1],A #[I J g,I J i,P k]] fun f1 f2=>∃c2,∃c3,∃c4,f1=A #[I J c2,I J c3,P c4]/\(Ca f2 185 #[A #[I J a,I J b,P c],A #[I J r,I J s,P t]] fun f3 f4=>∃c5,∃c6,∃c7,f3=A #[I J c5,I J c6,P c7]/\(Ca f4 185 #[A #[I J l,I J m,P n],A #[I J d,I J e,P f]] fun f5 f6=>∃c8,∃c9,∃d0,f5=A #[I J c8,I J c9,P d0]/\(Ca f6 186 #[A #[I J c5,I J c6,P c7],A #[I J c8,I J c9,P d0]] fun f7 f8=>∃d1,∃d2,∃d3,f7=A #[I J d1,I J d2,P d3]/\(Ca f8 163 #[A #[I J d1,I J d2,P d3],A #[I J g,I J i,P k]] fun f9 g0=>∃d4,∃d5,∃d6,f9=A #[I J d4,I J d5,P d6]/\(Rt g0 R (T #[A #[I J c2,I J c3,P c4,I J d4,I J d5,P d6],B true]))))))))))))))))):
 Acts prog 142 #[A #[I J l,I J m,P n,I J o,I J p,P q,I J a,I J b,P c],A #[I J r,I J s,P t,I J u,I J w,P x,I J d,I J e,P f]] V R:=
 fd (LF:=LF0) (RF:=[1000007]) [] [] func142 h
end Go.Proofs.Tryz
/- Contracts of points and lines of package geo (printed by straight.py). -/
namespace Go.Proofs.Tryz
open Go.Eng Go.Big
/-- A point of package geo. -/
def RPt (V:View) (v:Value) (x y:Rat):Prop:=∃(x1 x2:Int) (p:OA) (y1 y2:Int) (q:OA),v=.agg #[.int .i64 x1,.int .i64 x2,.pointer p,.int .i64 y1,.int .i64 y2,.pointer q] /\
 RR V (.agg #[.int .i64 x1,.int .i64 x2,.pointer p]) x/\RR V (.agg #[.int .i64 y1,.int .i64 y2,.pointer q]) y
theorem RPt.le {V V':View} {v:Value} {x y:Rat} (h:RPt V v x y) (l:V.Le V'):RPt V' v x y:=by
 obtain ⟨x1,x2,p,y1,y2,q,e,h1,h2⟩:=h
 exact ⟨x1,x2,p,y1,y2,q,e,h1.le l,h2.le l⟩
theorem c_geo_Pt_Add {V:View} {p:Value} {p_0 p_1:Rat} {q:Value} {q_0 q_1:Rat} (hp:RPt V p p_0 p_1) (hq:RPt V q q_0 q_1) {k:Nat} (sp_0:Sz k p_0) (sp_1:Sz k p_1) (sq_0:Sz k q_0) (sq_1:Sz k q_1) (hk:2 * k + 1 < 274877906944) :
  Acts prog 169 #[p,q] V fun r V'=>RPt V' r ((p_0) + (q_0)) ((p_1) + (q_1)):=by
 have hp0:=hp
 obtain ⟨p0,p1,p2,p3,p4,p5,rfl,hp_0,hp_1⟩:=hp
 have hq0:=hq
 obtain ⟨q0,q1,q2,q3,q4,q5,rfl,hq_0,hq_1⟩:=hq
 refine vc_geo_Pt_Add p0 p1 p2 p3 p4 p5 q0 q1 q2 q3 q4 q5 V _ fun V1 l1=>(c_R_Add (hp_0.le (l1)) (hq_0.le (l1)) sp_0 sq_0 (by omega)).mono ?_
 rintro r V2 l2 g1
 have g10:=g1
 obtain ⟨w0a,w0b,w0c,rfl⟩:=g1.shape
 have z1_0:Sz (2 * k + 1) ((p_0) + (q_0)):=Sz.mono (Sz.add sp_0 sq_0) (by omega)
 refine ⟨_,_,_,rfl,fun V3 l3=>(c_R_Add (hp_1.le (l1.trans (l2.trans (l3)))) (hq_1.le (l1.trans (l2.trans (l3)))) sp_1 sq_1 (by omega)).mono ?_⟩
 rintro r V4 l4 g2
 have g20:=g2
 obtain ⟨w1a,w1b,w1c,rfl⟩:=g2.shape
 have z2_0:Sz (2 * k + 1) ((p_1) + (q_1)):=Sz.mono (Sz.add sp_1 sq_1) (by omega)
 exact ⟨_,_,_,rfl,fun V5 l5=>⟨_,_,_,_,_,_,rfl,(g10.le (l3.trans (l4.trans (l5)))),(g20.le (l5))⟩⟩
theorem z_geo_Pt_Add_0 {p_0 p_1 q_0 q_1:Rat} {k:Nat} (sp_0:Sz k p_0) (sp_1:Sz k p_1) (sq_0:Sz k q_0) (sq_1:Sz k q_1):Sz (2 * k + 1) ((p_0) + (q_0)):=by
 have z1_0:Sz (2 * k + 1) ((p_0) + (q_0)):=Sz.mono (Sz.add sp_0 sq_0) (by omega)
 have z2_0:Sz (2 * k + 1) ((p_1) + (q_1)):=Sz.mono (Sz.add sp_1 sq_1) (by omega)
 exact Sz.mono z1_0 (by omega)
theorem z_geo_Pt_Add_1 {p_0 p_1 q_0 q_1:Rat} {k:Nat} (sp_0:Sz k p_0) (sp_1:Sz k p_1) (sq_0:Sz k q_0) (sq_1:Sz k q_1):Sz (2 * k + 1) ((p_1) + (q_1)):=by
 have z1_0:Sz (2 * k + 1) ((p_0) + (q_0)):=Sz.mono (Sz.add sp_0 sq_0) (by omega)
 have z2_0:Sz (2 * k + 1) ((p_1) + (q_1)):=Sz.mono (Sz.add sp_1 sq_1) (by omega)
 exact Sz.mono z2_0 (by omega)
theorem c_geo_Pt_Sub {V:View} {p:Value} {p_0 p_1:Rat} {q:Value} {q_0 q_1:Rat} (hp:RPt V p p_0 p_1) (hq:RPt V q q_0 q_1) {k:Nat} (sp_0:Sz k p_0) (sp_1:Sz k p_1) (sq_0:Sz k q_0) (sq_1:Sz k q_1) (hk:2 * k + 1 < 274877906944) :
  Acts prog 157 #[p,q] V fun r V'=>RPt V' r ((p_0) - (q_0)) ((p_1) - (q_1)):=by
 have hp0:=hp
 obtain ⟨p0,p1,p2,p3,p4,p5,rfl,hp_0,hp_1⟩:=hp
 have hq0:=hq
 obtain ⟨q0,q1,q2,q3,q4,q5,rfl,hq_0,hq_1⟩:=hq
 refine vc_geo_Pt_Sub p0 p1 p2 p3 p4 p5 q0 q1 q2 q3 q4 q5 V _ fun V1 l1=>(c_R_Sub (hp_0.le (l1)) (hq_0.le (l1)) sp_0 sq_0 (by omega)).mono ?_
 rintro r V2 l2 g1
 have g10:=g1
 obtain ⟨w0a,w0b,w0c,rfl⟩:=g1.shape
 have z1_0:Sz (2 * k + 1) ((p_0) - (q_0)):=Sz.mono (Sz.sub sp_0 sq_0) (by omega)
 refine ⟨_,_,_,rfl,fun V3 l3=>(c_R_Sub (hp_1.le (l1.trans (l2.trans (l3)))) (hq_1.le (l1.trans (l2.trans (l3)))) sp_1 sq_1 (by omega)).mono ?_⟩
 rintro r V4 l4 g2
 have g20:=g2
 obtain ⟨w1a,w1b,w1c,rfl⟩:=g2.shape
 have z2_0:Sz (2 * k + 1) ((p_1) - (q_1)):=Sz.mono (Sz.sub sp_1 sq_1) (by omega)
 exact ⟨_,_,_,rfl,fun V5 l5=>⟨_,_,_,_,_,_,rfl,(g10.le (l3.trans (l4.trans (l5)))),(g20.le (l5))⟩⟩
theorem c_geo_Pt_Scale {V:View} {p:Value} {p_0 p_1:Rat} {c:Value} {c_0:Rat} (hp:RPt V p p_0 p_1) (hc:RR V c c_0) {k:Nat} (sp_0:Sz k p_0) (sp_1:Sz k p_1) (sc_0:Sz k c_0) (hk:2 * k + 1 < 274877906944) :
  Acts prog 170 #[p,c] V fun r V'=>RPt V' r ((p_0) * (c_0)) ((p_1) * (c_0)):=by
 have hp0:=hp
 obtain ⟨p0,p1,p2,p3,p4,p5,rfl,hp_0,hp_1⟩:=hp
 have hc0:=hc
 obtain ⟨c0,c1,c2,rfl⟩:=hc.shape
 refine vc_geo_Pt_Scale p0 p1 p2 p3 p4 p5 c0 c1 c2 V _ fun V1 l1=>(c_R_Mul (hp_0.le (l1)) (hc0.le (l1)) sp_0 sc_0 (by omega)).mono ?_
 rintro r V2 l2 g1
 have g10:=g1
 obtain ⟨w0a,w0b,w0c,rfl⟩:=g1.shape
 have z1_0:Sz (2 * k + 1) ((p_0) * (c_0)):=Sz.mono (Sz.mul sp_0 sc_0) (by omega)
 refine ⟨_,_,_,rfl,fun V3 l3=>(c_R_Mul (hp_1.le (l1.trans (l2.trans (l3)))) (hc0.le (l1.trans (l2.trans (l3)))) sp_1 sc_0 (by omega)).mono ?_⟩
 rintro r V4 l4 g2
 have g20:=g2
 obtain ⟨w1a,w1b,w1c,rfl⟩:=g2.shape
 have z2_0:Sz (2 * k + 1) ((p_1) * (c_0)):=Sz.mono (Sz.mul sp_1 sc_0) (by omega)
 exact ⟨_,_,_,rfl,fun V5 l5=>⟨_,_,_,_,_,_,rfl,(g10.le (l3.trans (l4.trans (l5)))),(g20.le (l5))⟩⟩
theorem z_geo_Pt_Scale_0 {p_0 p_1 c_0:Rat} {k:Nat} (sp_0:Sz k p_0) (sp_1:Sz k p_1) (sc_0:Sz k c_0):Sz (2 * k + 1) ((p_0) * (c_0)):=by
 have z1_0:Sz (2 * k + 1) ((p_0) * (c_0)):=Sz.mono (Sz.mul sp_0 sc_0) (by omega)
 have z2_0:Sz (2 * k + 1) ((p_1) * (c_0)):=Sz.mono (Sz.mul sp_1 sc_0) (by omega)
 exact Sz.mono z1_0 (by omega)
theorem z_geo_Pt_Scale_1 {p_0 p_1 c_0:Rat} {k:Nat} (sp_0:Sz k p_0) (sp_1:Sz k p_1) (sc_0:Sz k c_0):Sz (2 * k + 1) ((p_1) * (c_0)):=by
 have z1_0:Sz (2 * k + 1) ((p_0) * (c_0)):=Sz.mono (Sz.mul sp_0 sc_0) (by omega)
 have z2_0:Sz (2 * k + 1) ((p_1) * (c_0)):=Sz.mono (Sz.mul sp_1 sc_0) (by omega)
 exact Sz.mono z2_0 (by omega)
theorem c_geo_Pt_Turn {V:View} {p:Value} {p_0 p_1:Rat} (hp:RPt V p p_0 p_1) {k:Nat} (sp_0:Sz k p_0) (sp_1:Sz k p_1) (hk:1 * k + 1 < 274877906944) :
  Acts prog 158 #[p] V fun r V'=>RPt V' r (-(p_1)) (p_0):=by
 have hp0:=hp
 obtain ⟨p0,p1,p2,p3,p4,p5,rfl,hp_0,hp_1⟩:=hp
 refine vc_geo_Pt_Turn p0 p1 p2 p3 p4 p5 V _ fun V1 l1=>(c_R_Neg (hp_1.le (l1)) sp_1 (by omega)).mono ?_
 rintro r V2 l2 g1
 have g10:=g1
 obtain ⟨w0a,w0b,w0c,rfl⟩:=g1.shape
 have z1_0:Sz (1 * k + 0) (-(p_1)):=Sz.mono (Sz.neg sp_1) (by omega)
 exact ⟨_,_,_,rfl,fun V3 l3=>⟨_,_,_,_,_,_,rfl,(g10.le (l3)),(hp_0.le (l1.trans (l2.trans (l3))))⟩⟩
theorem c_geo_Pt_Dot {V:View} {p:Value} {p_0 p_1:Rat} {q:Value} {q_0 q_1:Rat} (hp:RPt V p p_0 p_1) (hq:RPt V q q_0 q_1) {k:Nat} (sp_0:Sz k p_0) (sp_1:Sz k p_1) (sq_0:Sz k q_0) (sq_1:Sz k q_1) (hk:4 * k + 3 < 274877906944) :
  Acts prog 160 #[p,q] V fun r V'=>RR V' r (((p_0) * (q_0)) + ((p_1) * (q_1))):=by
 have hp0:=hp
 obtain ⟨p0,p1,p2,p3,p4,p5,rfl,hp_0,hp_1⟩:=hp
 have hq0:=hq
 obtain ⟨q0,q1,q2,q3,q4,q5,rfl,hq_0,hq_1⟩:=hq
 refine vc_geo_Pt_Dot p0 p1 p2 p3 p4 p5 q0 q1 q2 q3 q4 q5 V _ fun V1 l1=>(c_R_Mul (hp_0.le (l1)) (hq_0.le (l1)) sp_0 sq_0 (by omega)).mono ?_
 rintro r V2 l2 g1
 have g10:=g1
 obtain ⟨w0a,w0b,w0c,rfl⟩:=g1.shape
 have z1_0:Sz (2 * k + 1) ((p_0) * (q_0)):=Sz.mono (Sz.mul sp_0 sq_0) (by omega)
 refine ⟨_,_,_,rfl,fun V3 l3=>(c_R_Mul (hp_1.le (l1.trans (l2.trans (l3)))) (hq_1.le (l1.trans (l2.trans (l3)))) sp_1 sq_1 (by omega)).mono ?_⟩
 rintro r V4 l4 g2
 have g20:=g2
 obtain ⟨w1a,w1b,w1c,rfl⟩:=g2.shape
 have z2_0:Sz (2 * k + 1) ((p_1) * (q_1)):=Sz.mono (Sz.mul sp_1 sq_1) (by omega)
 refine ⟨_,_,_,rfl,fun V5 l5=>(c_R_Add (g10.le (l3.trans (l4.trans (l5)))) (g20.le (l5)) z1_0 z2_0 (by omega)).mono ?_⟩
 rintro r V6 l6 g3
 have g30:=g3
 obtain ⟨w2a,w2b,w2c,rfl⟩:=g3.shape
 have z3_0:Sz (4 * k + 3) (((p_0) * (q_0)) + ((p_1) * (q_1))):=Sz.mono (Sz.add z1_0 z2_0) (by omega)
 exact ⟨_,_,_,rfl,fun V7 l7=>(g30.le (l7))⟩
theorem z_geo_Pt_Dot_0 {p_0 p_1 q_0 q_1:Rat} {k:Nat} (sp_0:Sz k p_0) (sp_1:Sz k p_1) (sq_0:Sz k q_0) (sq_1:Sz k q_1):Sz (4 * k + 3) (((p_0) * (q_0)) + ((p_1) * (q_1))):=by
 have z1_0:Sz (2 * k + 1) ((p_0) * (q_0)):=Sz.mono (Sz.mul sp_0 sq_0) (by omega)
 have z2_0:Sz (2 * k + 1) ((p_1) * (q_1)):=Sz.mono (Sz.mul sp_1 sq_1) (by omega)
 have z3_0:Sz (4 * k + 3) (((p_0) * (q_0)) + ((p_1) * (q_1))):=Sz.mono (Sz.add z1_0 z2_0) (by omega)
 exact Sz.mono z3_0 (by omega)
theorem c_geo_Pt_Cross {V:View} {p:Value} {p_0 p_1:Rat} {q:Value} {q_0 q_1:Rat} (hp:RPt V p p_0 p_1) (hq:RPt V q q_0 q_1) {k:Nat} (sp_0:Sz k p_0) (sp_1:Sz k p_1) (sq_0:Sz k q_0) (sq_1:Sz k q_1) (hk:4 * k + 3 < 274877906944) :
  Acts prog 184 #[p,q] V fun r V'=>RR V' r (((p_0) * (q_1)) - ((p_1) * (q_0))):=by
 have hp0:=hp
 obtain ⟨p0,p1,p2,p3,p4,p5,rfl,hp_0,hp_1⟩:=hp
 have hq0:=hq
 obtain ⟨q0,q1,q2,q3,q4,q5,rfl,hq_0,hq_1⟩:=hq
 refine vc_geo_Pt_Cross p0 p1 p2 p3 p4 p5 q0 q1 q2 q3 q4 q5 V _ fun V1 l1=>(c_R_Mul (hp_0.le (l1)) (hq_1.le (l1)) sp_0 sq_1 (by omega)).mono ?_
 rintro r V2 l2 g1
 have g10:=g1
 obtain ⟨w0a,w0b,w0c,rfl⟩:=g1.shape
 have z1_0:Sz (2 * k + 1) ((p_0) * (q_1)):=Sz.mono (Sz.mul sp_0 sq_1) (by omega)
 refine ⟨_,_,_,rfl,fun V3 l3=>(c_R_Mul (hp_1.le (l1.trans (l2.trans (l3)))) (hq_0.le (l1.trans (l2.trans (l3)))) sp_1 sq_0 (by omega)).mono ?_⟩
 rintro r V4 l4 g2
 have g20:=g2
 obtain ⟨w1a,w1b,w1c,rfl⟩:=g2.shape
 have z2_0:Sz (2 * k + 1) ((p_1) * (q_0)):=Sz.mono (Sz.mul sp_1 sq_0) (by omega)
 refine ⟨_,_,_,rfl,fun V5 l5=>(c_R_Sub (g10.le (l3.trans (l4.trans (l5)))) (g20.le (l5)) z1_0 z2_0 (by omega)).mono ?_⟩
 rintro r V6 l6 g3
 have g30:=g3
 obtain ⟨w2a,w2b,w2c,rfl⟩:=g3.shape
 have z3_0:Sz (4 * k + 3) (((p_0) * (q_1)) - ((p_1) * (q_0))):=Sz.mono (Sz.sub z1_0 z2_0) (by omega)
 exact ⟨_,_,_,rfl,fun V7 l7=>(g30.le (l7))⟩
theorem z_geo_Pt_Cross_0 {p_0 p_1 q_0 q_1:Rat} {k:Nat} (sp_0:Sz k p_0) (sp_1:Sz k p_1) (sq_0:Sz k q_0) (sq_1:Sz k q_1):Sz (4 * k + 3) (((p_0) * (q_1)) - ((p_1) * (q_0))):=by
 have z1_0:Sz (2 * k + 1) ((p_0) * (q_1)):=Sz.mono (Sz.mul sp_0 sq_1) (by omega)
 have z2_0:Sz (2 * k + 1) ((p_1) * (q_0)):=Sz.mono (Sz.mul sp_1 sq_0) (by omega)
 have z3_0:Sz (4 * k + 3) (((p_0) * (q_1)) - ((p_1) * (q_0))):=Sz.mono (Sz.sub z1_0 z2_0) (by omega)
 exact Sz.mono z3_0 (by omega)
theorem c_geo_Ln_Dir {V:View} {l:Value} {l_0 l_1 l_2:Rat} (hl:RLn V l l_0 l_1 l_2) {k:Nat} (sl_0:Sz k l_0) (sl_1:Sz k l_1) (sl_2:Sz k l_2) (hk:1 * k + 1 < 274877906944) :
  Acts prog 162 #[l] V fun r V'=>RPt V' r (l_1) (-(l_0)):=by
 have hl0:=hl
 obtain ⟨l0,l1,l2,l3,l4,l5,l6,l7,l8,rfl,hl_0,hl_1,hl_2⟩:=hl
 refine vc_geo_Ln_Dir l0 l1 l2 l3 l4 l5 l6 l7 l8 V _ fun V1 l1=>(c_R_Neg (hl_0.le (l1)) sl_0 (by omega)).mono ?_
 rintro r V2 l2 g1
 have g10:=g1
 obtain ⟨w0a,w0b,w0c,rfl⟩:=g1.shape
 have z1_0:Sz (1 * k + 0) (-(l_0)):=Sz.mono (Sz.neg sl_0) (by omega)
 exact ⟨_,_,_,rfl,fun V3 l3=>⟨_,_,_,_,_,_,rfl,(hl_1.le (l1.trans (l2.trans (l3)))),(g10.le (l3))⟩⟩
theorem z_geo_Ln_Dir_0 {l_0 l_1 l_2:Rat} {k:Nat} (sl_0:Sz k l_0) (sl_1:Sz k l_1) (sl_2:Sz k l_2):Sz (1 * k + 0) (l_1):=by
 have z1_0:Sz (1 * k + 0) (-(l_0)):=Sz.mono (Sz.neg sl_0) (by omega)
 exact Sz.mono sl_1 (by omega)
theorem z_geo_Ln_Dir_1 {l_0 l_1 l_2:Rat} {k:Nat} (sl_0:Sz k l_0) (sl_1:Sz k l_1) (sl_2:Sz k l_2):Sz (1 * k + 0) (-(l_0)):=by
 have z1_0:Sz (1 * k + 0) (-(l_0)):=Sz.mono (Sz.neg sl_0) (by omega)
 exact Sz.mono z1_0 (by omega)
theorem c_geo_Ln_Normal {V:View} {l:Value} {l_0 l_1 l_2:Rat} (hl:RLn V l l_0 l_1 l_2) {k:Nat} (sl_0:Sz k l_0) (sl_1:Sz k l_1) (sl_2:Sz k l_2) (hk:1 * k + 1 < 274877906944) :
  Acts prog 183 #[l] V fun r V'=>RPt V' r (l_0) (l_1):=by
 have hl0:=hl
 obtain ⟨l0,l1,l2,l3,l4,l5,l6,l7,l8,rfl,hl_0,hl_1,hl_2⟩:=hl
 exact vc_geo_Ln_Normal l0 l1 l2 l3 l4 l5 l6 l7 l8 V _ fun V1 l1=>⟨_,_,_,_,_,_,rfl,(hl_0.le (l1)),(hl_1.le (l1))⟩
theorem z_geo_Ln_Normal_0 {l_0 l_1 l_2:Rat} {k:Nat} (sl_0:Sz k l_0) (sl_1:Sz k l_1) (sl_2:Sz k l_2):Sz (1 * k + 0) (l_0):=by
 exact Sz.mono sl_0 (by omega)
theorem z_geo_Ln_Normal_1 {l_0 l_1 l_2:Rat} {k:Nat} (sl_0:Sz k l_0) (sl_1:Sz k l_1) (sl_2:Sz k l_2):Sz (1 * k + 0) (l_1):=by
 exact Sz.mono sl_1 (by omega)
theorem c_geo_Ln_Reverse {V:View} {l:Value} {l_0 l_1 l_2:Rat} (hl:RLn V l l_0 l_1 l_2) {k:Nat} (sl_0:Sz k l_0) (sl_1:Sz k l_1) (sl_2:Sz k l_2) (hk:1 * k + 1 < 274877906944) :
  Acts prog 125 #[l] V fun r V'=>RLn V' r (-(l_0)) (-(l_1)) (-(l_2)):=by
 have hl0:=hl
 obtain ⟨l0,l1,l2,l3,l4,l5,l6,l7,l8,rfl,hl_0,hl_1,hl_2⟩:=hl
 refine vc_geo_Ln_Reverse l0 l1 l2 l3 l4 l5 l6 l7 l8 V _ fun V1 l1=>(c_R_Neg (hl_0.le (l1)) sl_0 (by omega)).mono ?_
 rintro r V2 l2 g1
 have g10:=g1
 obtain ⟨w0a,w0b,w0c,rfl⟩:=g1.shape
 have z1_0:Sz (1 * k + 0) (-(l_0)):=Sz.mono (Sz.neg sl_0) (by omega)
 refine ⟨_,_,_,rfl,fun V3 l3=>(c_R_Neg (hl_1.le (l1.trans (l2.trans (l3)))) sl_1 (by omega)).mono ?_⟩
 rintro r V4 l4 g2
 have g20:=g2
 obtain ⟨w1a,w1b,w1c,rfl⟩:=g2.shape
 have z2_0:Sz (1 * k + 0) (-(l_1)):=Sz.mono (Sz.neg sl_1) (by omega)
 refine ⟨_,_,_,rfl,fun V5 l5=>(c_R_Neg (hl_2.le (l1.trans (l2.trans (l3.trans (l4.trans (l5)))))) sl_2 (by omega)).mono ?_⟩
 rintro r V6 l6 g3
 have g30:=g3
 obtain ⟨w2a,w2b,w2c,rfl⟩:=g3.shape
 have z3_0:Sz (1 * k + 0) (-(l_2)):=Sz.mono (Sz.neg sl_2) (by omega)
 exact ⟨_,_,_,rfl,fun V7 l7=>⟨_,_,_,_,_,_,_,_,_,rfl,(g10.le (l3.trans (l4.trans (l5.trans (l6.trans (l7)))))),(g20.le (l5.trans (l6.trans (l7)))),(g30.le (l7))⟩⟩
theorem c_geo_Ln_Base {V:View} {l:Value} {l_0 l_1 l_2:Rat} (hl:RLn V l l_0 l_1 l_2) {k:Nat} (sl_0:Sz k l_0) (sl_1:Sz k l_1) (sl_2:Sz k l_2) (hk:10 * k + 9 < 274877906944) :
  Acts prog 168 #[l] V fun r V'=>RPt V' r ((l_0) * (((-(l_2)) * (((l_0) * (l_0)) + ((l_1) * (l_1)))⁻¹))) ((l_1) * (((-(l_2)) * (((l_0) * (l_0)) + ((l_1) * (l_1)))⁻¹))):=by
 have hl0:=hl
 obtain ⟨l0,l1,l2,l3,l4,l5,l6,l7,l8,rfl,hl_0,hl_1,hl_2⟩:=hl
 refine vc_geo_Ln_Base l0 l1 l2 l3 l4 l5 l6 l7 l8 V _ fun V1 l1=>(c_geo_Ln_Normal (hl0.le (l1)) (Sz.mono sl_0 (by omega):Sz (1 * k + 0) _) (Sz.mono sl_1 (by omega):Sz (1 * k + 0) _) (Sz.mono sl_2 (by omega):Sz (1 * k + 0) _) (by omega)).mono ?_
 rintro r V2 l2 g1
 have g10:=g1
 obtain ⟨w0_0,w0_1,w0_2,w0_3,w0_4,w0_5,rfl,g1p0,g1p1⟩:=g1
 have z1_0:Sz (1 * k + 0) (l_0):=Sz.mono ((z_geo_Ln_Normal_0 (Sz.mono sl_0 (by omega):Sz (1 * k + 0) _) (Sz.mono sl_1 (by omega):Sz (1 * k + 0) _) (Sz.mono sl_2 (by omega):Sz (1 * k + 0) _))) (by omega)
 have z1_1:Sz (1 * k + 0) (l_1):=Sz.mono ((z_geo_Ln_Normal_1 (Sz.mono sl_0 (by omega):Sz (1 * k + 0) _) (Sz.mono sl_1 (by omega):Sz (1 * k + 0) _) (Sz.mono sl_2 (by omega):Sz (1 * k + 0) _))) (by omega)
 refine ⟨_,_,_,_,_,_,rfl,fun V3 l3=>(c_R_Neg (hl_2.le (l1.trans (l2.trans (l3)))) sl_2 (by omega)).mono ?_⟩
 rintro r V4 l4 g2
 have g20:=g2
 obtain ⟨w1a,w1b,w1c,rfl⟩:=g2.shape
 have z2_0:Sz (1 * k + 0) (-(l_2)):=Sz.mono (Sz.neg sl_2) (by omega)
 refine ⟨_,_,_,rfl,fun V5 l5=>(c_geo_Pt_Dot (g10.le (l3.trans (l4.trans (l5)))) (g10.le (l3.trans (l4.trans (l5)))) (Sz.mono z1_0 (by omega):Sz (1 * k + 0) _) (Sz.mono z1_1 (by omega):Sz (1 * k + 0) _) (Sz.mono z1_0 (by omega):Sz (1 * k + 0) _) (Sz.mono z1_1 (by omega):Sz (1 * k + 0) _) (by omega)).mono ?_⟩
 rintro r V6 l6 g3
 have g30:=g3
 obtain ⟨w2a,w2b,w2c,rfl⟩:=g3.shape
 have z3_0:Sz (4 * k + 3) (((l_0) * (l_0)) + ((l_1) * (l_1))):=Sz.mono ((z_geo_Pt_Dot_0 (Sz.mono z1_0 (by omega):Sz (1 * k + 0) _) (Sz.mono z1_1 (by omega):Sz (1 * k + 0) _) (Sz.mono z1_0 (by omega):Sz (1 * k + 0) _) (Sz.mono z1_1 (by omega):Sz (1 * k + 0) _))) (by omega)
 refine ⟨_,_,_,rfl,fun V7 l7=>(c_R_Quo (g20.le (l5.trans (l6.trans (l7)))) (g30.le (l7)) z2_0 z3_0 (by omega)).mono ?_⟩
 rintro r V8 l8 g4
 have g40:=g4
 obtain ⟨w3a,w3b,w3c,rfl⟩:=g4.shape
 have z4_0:Sz (5 * k + 4) ((-(l_2)) * (((l_0) * (l_0)) + ((l_1) * (l_1)))⁻¹):=Sz.mono (Sz.mul z2_0 (sz_inv z3_0)) (by omega)
 refine ⟨_,_,_,rfl,fun V9 l9=>(c_geo_Pt_Scale (g10.le (l3.trans (l4.trans (l5.trans (l6.trans (l7.trans (l8.trans (l9)))))))) (g40.le (l9)) (Sz.mono z1_0 (by omega):Sz (5 * k + 4) _) (Sz.mono z1_1 (by omega):Sz (5 * k + 4) _) (Sz.mono z4_0 (by omega):Sz (5 * k + 4) _) (by omega)).mono ?_⟩
 rintro r V10 l10 g5
 have g50:=g5
 obtain ⟨w4_0,w4_1,w4_2,w4_3,w4_4,w4_5,rfl,g5p0,g5p1⟩:=g5
 have z5_0:Sz (10 * k + 9) ((l_0) * (((-(l_2)) * (((l_0) * (l_0)) + ((l_1) * (l_1)))⁻¹))):=Sz.mono ((z_geo_Pt_Scale_0 (Sz.mono z1_0 (by omega):Sz (5 * k + 4) _) (Sz.mono z1_1 (by omega):Sz (5 * k + 4) _) (Sz.mono z4_0 (by omega):Sz (5 * k + 4) _))) (by omega)
 have z5_1:Sz (10 * k + 9) ((l_1) * (((-(l_2)) * (((l_0) * (l_0)) + ((l_1) * (l_1)))⁻¹))):=Sz.mono ((z_geo_Pt_Scale_1 (Sz.mono z1_0 (by omega):Sz (5 * k + 4) _) (Sz.mono z1_1 (by omega):Sz (5 * k + 4) _) (Sz.mono z4_0 (by omega):Sz (5 * k + 4) _))) (by omega)
 exact ⟨_,_,_,_,_,_,rfl,fun V11 l11=>⟨_,_,_,_,_,_,rfl,(g5p0.le (l11)),(g5p1.le (l11))⟩⟩
theorem z_geo_Ln_Base_0 {l_0 l_1 l_2:Rat} {k:Nat} (sl_0:Sz k l_0) (sl_1:Sz k l_1) (sl_2:Sz k l_2):Sz (10 * k + 9) ((l_0) * (((-(l_2)) * (((l_0) * (l_0)) + ((l_1) * (l_1)))⁻¹))):=by
 have z1_0:Sz (1 * k + 0) (l_0):=Sz.mono ((z_geo_Ln_Normal_0 (Sz.mono sl_0 (by omega):Sz (1 * k + 0) _) (Sz.mono sl_1 (by omega):Sz (1 * k + 0) _) (Sz.mono sl_2 (by omega):Sz (1 * k + 0) _))) (by omega)
 have z1_1:Sz (1 * k + 0) (l_1):=Sz.mono ((z_geo_Ln_Normal_1 (Sz.mono sl_0 (by omega):Sz (1 * k + 0) _) (Sz.mono sl_1 (by omega):Sz (1 * k + 0) _) (Sz.mono sl_2 (by omega):Sz (1 * k + 0) _))) (by omega)
 have z2_0:Sz (1 * k + 0) (-(l_2)):=Sz.mono (Sz.neg sl_2) (by omega)
 have z3_0:Sz (4 * k + 3) (((l_0) * (l_0)) + ((l_1) * (l_1))):=Sz.mono ((z_geo_Pt_Dot_0 (Sz.mono z1_0 (by omega):Sz (1 * k + 0) _) (Sz.mono z1_1 (by omega):Sz (1 * k + 0) _) (Sz.mono z1_0 (by omega):Sz (1 * k + 0) _) (Sz.mono z1_1 (by omega):Sz (1 * k + 0) _))) (by omega)
 have z4_0:Sz (5 * k + 4) ((-(l_2)) * (((l_0) * (l_0)) + ((l_1) * (l_1)))⁻¹):=Sz.mono (Sz.mul z2_0 (sz_inv z3_0)) (by omega)
 have z5_0:Sz (10 * k + 9) ((l_0) * (((-(l_2)) * (((l_0) * (l_0)) + ((l_1) * (l_1)))⁻¹))):=Sz.mono ((z_geo_Pt_Scale_0 (Sz.mono z1_0 (by omega):Sz (5 * k + 4) _) (Sz.mono z1_1 (by omega):Sz (5 * k + 4) _) (Sz.mono z4_0 (by omega):Sz (5 * k + 4) _))) (by omega)
 have z5_1:Sz (10 * k + 9) ((l_1) * (((-(l_2)) * (((l_0) * (l_0)) + ((l_1) * (l_1)))⁻¹))):=Sz.mono ((z_geo_Pt_Scale_1 (Sz.mono z1_0 (by omega):Sz (5 * k + 4) _) (Sz.mono z1_1 (by omega):Sz (5 * k + 4) _) (Sz.mono z4_0 (by omega):Sz (5 * k + 4) _))) (by omega)
 exact Sz.mono z5_0 (by omega)
theorem z_geo_Ln_Base_1 {l_0 l_1 l_2:Rat} {k:Nat} (sl_0:Sz k l_0) (sl_1:Sz k l_1) (sl_2:Sz k l_2):Sz (10 * k + 9) ((l_1) * (((-(l_2)) * (((l_0) * (l_0)) + ((l_1) * (l_1)))⁻¹))):=by
 have z1_0:Sz (1 * k + 0) (l_0):=Sz.mono ((z_geo_Ln_Normal_0 (Sz.mono sl_0 (by omega):Sz (1 * k + 0) _) (Sz.mono sl_1 (by omega):Sz (1 * k + 0) _) (Sz.mono sl_2 (by omega):Sz (1 * k + 0) _))) (by omega)
 have z1_1:Sz (1 * k + 0) (l_1):=Sz.mono ((z_geo_Ln_Normal_1 (Sz.mono sl_0 (by omega):Sz (1 * k + 0) _) (Sz.mono sl_1 (by omega):Sz (1 * k + 0) _) (Sz.mono sl_2 (by omega):Sz (1 * k + 0) _))) (by omega)
 have z2_0:Sz (1 * k + 0) (-(l_2)):=Sz.mono (Sz.neg sl_2) (by omega)
 have z3_0:Sz (4 * k + 3) (((l_0) * (l_0)) + ((l_1) * (l_1))):=Sz.mono ((z_geo_Pt_Dot_0 (Sz.mono z1_0 (by omega):Sz (1 * k + 0) _) (Sz.mono z1_1 (by omega):Sz (1 * k + 0) _) (Sz.mono z1_0 (by omega):Sz (1 * k + 0) _) (Sz.mono z1_1 (by omega):Sz (1 * k + 0) _))) (by omega)
 have z4_0:Sz (5 * k + 4) ((-(l_2)) * (((l_0) * (l_0)) + ((l_1) * (l_1)))⁻¹):=Sz.mono (Sz.mul z2_0 (sz_inv z3_0)) (by omega)
 have z5_0:Sz (10 * k + 9) ((l_0) * (((-(l_2)) * (((l_0) * (l_0)) + ((l_1) * (l_1)))⁻¹))):=Sz.mono ((z_geo_Pt_Scale_0 (Sz.mono z1_0 (by omega):Sz (5 * k + 4) _) (Sz.mono z1_1 (by omega):Sz (5 * k + 4) _) (Sz.mono z4_0 (by omega):Sz (5 * k + 4) _))) (by omega)
 have z5_1:Sz (10 * k + 9) ((l_1) * (((-(l_2)) * (((l_0) * (l_0)) + ((l_1) * (l_1)))⁻¹))):=Sz.mono ((z_geo_Pt_Scale_1 (Sz.mono z1_0 (by omega):Sz (5 * k + 4) _) (Sz.mono z1_1 (by omega):Sz (5 * k + 4) _) (Sz.mono z4_0 (by omega):Sz (5 * k + 4) _))) (by omega)
 exact Sz.mono z5_1 (by omega)
theorem c_geo_Ln_At {V:View} {l:Value} {l_0 l_1 l_2:Rat} {t:Value} {t_0:Rat} (hl:RLn V l l_0 l_1 l_2) (ht:RR V t t_0) {k:Nat} (sl_0:Sz k l_0) (sl_1:Sz k l_1) (sl_2:Sz k l_2) (st_0:Sz k t_0) (hk:20 * k + 19 < 274877906944) :
  Acts prog 118 #[l,t] V fun r V'=>RPt V' r ((((l_0) * (((-(l_2)) * (((l_0) * (l_0)) + ((l_1) * (l_1)))⁻¹)))) + (((l_1) * (t_0)))) ((((l_1) * (((-(l_2)) * (((l_0) * (l_0)) + ((l_1) * (l_1)))⁻¹)))) + ((((-(l_0))) * (t_0)))):=by
 have hl0:=hl
 obtain ⟨l0,l1,l2,l3,l4,l5,l6,l7,l8,rfl,hl_0,hl_1,hl_2⟩:=hl
 have ht0:=ht
 obtain ⟨t0,t1,t2,rfl⟩:=ht.shape
 refine vc_geo_Ln_At l0 l1 l2 l3 l4 l5 l6 l7 l8 t0 t1 t2 V _ fun V1 l1=>(c_geo_Ln_Base (hl0.le (l1)) (Sz.mono sl_0 (by omega):Sz (1 * k + 0) _) (Sz.mono sl_1 (by omega):Sz (1 * k + 0) _) (Sz.mono sl_2 (by omega):Sz (1 * k + 0) _) (by omega)).mono ?_
 rintro r V2 l2 g1
 have g10:=g1
 obtain ⟨w0_0,w0_1,w0_2,w0_3,w0_4,w0_5,rfl,g1p0,g1p1⟩:=g1
 have z1_0:Sz (10 * k + 9) ((l_0) * (((-(l_2)) * (((l_0) * (l_0)) + ((l_1) * (l_1)))⁻¹))):=Sz.mono ((z_geo_Ln_Base_0 (Sz.mono sl_0 (by omega):Sz (1 * k + 0) _) (Sz.mono sl_1 (by omega):Sz (1 * k + 0) _) (Sz.mono sl_2 (by omega):Sz (1 * k + 0) _))) (by omega)
 have z1_1:Sz (10 * k + 9) ((l_1) * (((-(l_2)) * (((l_0) * (l_0)) + ((l_1) * (l_1)))⁻¹))):=Sz.mono ((z_geo_Ln_Base_1 (Sz.mono sl_0 (by omega):Sz (1 * k + 0) _) (Sz.mono sl_1 (by omega):Sz (1 * k + 0) _) (Sz.mono sl_2 (by omega):Sz (1 * k + 0) _))) (by omega)
 refine ⟨_,_,_,_,_,_,rfl,fun V3 l3=>(c_geo_Ln_Dir (hl0.le (l1.trans (l2.trans (l3)))) (Sz.mono sl_0 (by omega):Sz (1 * k + 0) _) (Sz.mono sl_1 (by omega):Sz (1 * k + 0) _) (Sz.mono sl_2 (by omega):Sz (1 * k + 0) _) (by omega)).mono ?_⟩
 rintro r V4 l4 g2
 have g20:=g2
 obtain ⟨w1_0,w1_1,w1_2,w1_3,w1_4,w1_5,rfl,g2p0,g2p1⟩:=g2
 have z2_0:Sz (1 * k + 0) (l_1):=Sz.mono ((z_geo_Ln_Dir_0 (Sz.mono sl_0 (by omega):Sz (1 * k + 0) _) (Sz.mono sl_1 (by omega):Sz (1 * k + 0) _) (Sz.mono sl_2 (by omega):Sz (1 * k + 0) _))) (by omega)
 have z2_1:Sz (1 * k + 0) (-(l_0)):=Sz.mono ((z_geo_Ln_Dir_1 (Sz.mono sl_0 (by omega):Sz (1 * k + 0) _) (Sz.mono sl_1 (by omega):Sz (1 * k + 0) _) (Sz.mono sl_2 (by omega):Sz (1 * k + 0) _))) (by omega)
 refine ⟨_,_,_,_,_,_,rfl,fun V5 l5=>(c_geo_Pt_Scale (g20.le (l5)) (ht0.le (l1.trans (l2.trans (l3.trans (l4.trans (l5)))))) (Sz.mono z2_0 (by omega):Sz (1 * k + 0) _) (Sz.mono z2_1 (by omega):Sz (1 * k + 0) _) (Sz.mono st_0 (by omega):Sz (1 * k + 0) _) (by omega)).mono ?_⟩
 rintro r V6 l6 g3
 have g30:=g3
 obtain ⟨w2_0,w2_1,w2_2,w2_3,w2_4,w2_5,rfl,g3p0,g3p1⟩:=g3
 have z3_0:Sz (2 * k + 1) ((l_1) * (t_0)):=Sz.mono ((z_geo_Pt_Scale_0 (Sz.mono z2_0 (by omega):Sz (1 * k + 0) _) (Sz.mono z2_1 (by omega):Sz (1 * k + 0) _) (Sz.mono st_0 (by omega):Sz (1 * k + 0) _))) (by omega)
 have z3_1:Sz (2 * k + 1) (((-(l_0))) * (t_0)):=Sz.mono ((z_geo_Pt_Scale_1 (Sz.mono z2_0 (by omega):Sz (1 * k + 0) _) (Sz.mono z2_1 (by omega):Sz (1 * k + 0) _) (Sz.mono st_0 (by omega):Sz (1 * k + 0) _))) (by omega)
 refine ⟨_,_,_,_,_,_,rfl,fun V7 l7=>(c_geo_Pt_Add (g10.le (l3.trans (l4.trans (l5.trans (l6.trans (l7)))))) (g30.le (l7)) (Sz.mono z1_0 (by omega):Sz (10 * k + 9) _) (Sz.mono z1_1 (by omega):Sz (10 * k + 9) _) (Sz.mono z3_0 (by omega):Sz (10 * k + 9) _) (Sz.mono z3_1 (by omega):Sz (10 * k + 9) _) (by omega)).mono ?_⟩
 rintro r V8 l8 g4
 have g40:=g4
 obtain ⟨w3_0,w3_1,w3_2,w3_3,w3_4,w3_5,rfl,g4p0,g4p1⟩:=g4
 have z4_0:Sz (20 * k + 19) ((((l_0) * (((-(l_2)) * (((l_0) * (l_0)) + ((l_1) * (l_1)))⁻¹)))) + (((l_1) * (t_0)))):=Sz.mono ((z_geo_Pt_Add_0 (Sz.mono z1_0 (by omega):Sz (10 * k + 9) _) (Sz.mono z1_1 (by omega):Sz (10 * k + 9) _) (Sz.mono z3_0 (by omega):Sz (10 * k + 9) _) (Sz.mono z3_1 (by omega):Sz (10 * k + 9) _))) (by omega)
 have z4_1:Sz (20 * k + 19) ((((l_1) * (((-(l_2)) * (((l_0) * (l_0)) + ((l_1) * (l_1)))⁻¹)))) + ((((-(l_0))) * (t_0)))):=Sz.mono ((z_geo_Pt_Add_1 (Sz.mono z1_0 (by omega):Sz (10 * k + 9) _) (Sz.mono z1_1 (by omega):Sz (10 * k + 9) _) (Sz.mono z3_0 (by omega):Sz (10 * k + 9) _) (Sz.mono z3_1 (by omega):Sz (10 * k + 9) _))) (by omega)
 exact ⟨_,_,_,_,_,_,rfl,fun V9 l9=>⟨_,_,_,_,_,_,rfl,(g4p0.le (l9)),(g4p1.le (l9))⟩⟩
theorem z_geo_Ln_At_0 {l_0 l_1 l_2 t_0:Rat} {k:Nat} (sl_0:Sz k l_0) (sl_1:Sz k l_1) (sl_2:Sz k l_2) (st_0:Sz k t_0):Sz (20 * k + 19) ((((l_0) * (((-(l_2)) * (((l_0) * (l_0)) + ((l_1) * (l_1)))⁻¹)))) + (((l_1) * (t_0)))):=by
 have z1_0:Sz (10 * k + 9) ((l_0) * (((-(l_2)) * (((l_0) * (l_0)) + ((l_1) * (l_1)))⁻¹))):=Sz.mono ((z_geo_Ln_Base_0 (Sz.mono sl_0 (by omega):Sz (1 * k + 0) _) (Sz.mono sl_1 (by omega):Sz (1 * k + 0) _) (Sz.mono sl_2 (by omega):Sz (1 * k + 0) _))) (by omega)
 have z1_1:Sz (10 * k + 9) ((l_1) * (((-(l_2)) * (((l_0) * (l_0)) + ((l_1) * (l_1)))⁻¹))):=Sz.mono ((z_geo_Ln_Base_1 (Sz.mono sl_0 (by omega):Sz (1 * k + 0) _) (Sz.mono sl_1 (by omega):Sz (1 * k + 0) _) (Sz.mono sl_2 (by omega):Sz (1 * k + 0) _))) (by omega)
 have z2_0:Sz (1 * k + 0) (l_1):=Sz.mono ((z_geo_Ln_Dir_0 (Sz.mono sl_0 (by omega):Sz (1 * k + 0) _) (Sz.mono sl_1 (by omega):Sz (1 * k + 0) _) (Sz.mono sl_2 (by omega):Sz (1 * k + 0) _))) (by omega)
 have z2_1:Sz (1 * k + 0) (-(l_0)):=Sz.mono ((z_geo_Ln_Dir_1 (Sz.mono sl_0 (by omega):Sz (1 * k + 0) _) (Sz.mono sl_1 (by omega):Sz (1 * k + 0) _) (Sz.mono sl_2 (by omega):Sz (1 * k + 0) _))) (by omega)
 have z3_0:Sz (2 * k + 1) ((l_1) * (t_0)):=Sz.mono ((z_geo_Pt_Scale_0 (Sz.mono z2_0 (by omega):Sz (1 * k + 0) _) (Sz.mono z2_1 (by omega):Sz (1 * k + 0) _) (Sz.mono st_0 (by omega):Sz (1 * k + 0) _))) (by omega)
 have z3_1:Sz (2 * k + 1) (((-(l_0))) * (t_0)):=Sz.mono ((z_geo_Pt_Scale_1 (Sz.mono z2_0 (by omega):Sz (1 * k + 0) _) (Sz.mono z2_1 (by omega):Sz (1 * k + 0) _) (Sz.mono st_0 (by omega):Sz (1 * k + 0) _))) (by omega)
 have z4_0:Sz (20 * k + 19) ((((l_0) * (((-(l_2)) * (((l_0) * (l_0)) + ((l_1) * (l_1)))⁻¹)))) + (((l_1) * (t_0)))):=Sz.mono ((z_geo_Pt_Add_0 (Sz.mono z1_0 (by omega):Sz (10 * k + 9) _) (Sz.mono z1_1 (by omega):Sz (10 * k + 9) _) (Sz.mono z3_0 (by omega):Sz (10 * k + 9) _) (Sz.mono z3_1 (by omega):Sz (10 * k + 9) _))) (by omega)
 have z4_1:Sz (20 * k + 19) ((((l_1) * (((-(l_2)) * (((l_0) * (l_0)) + ((l_1) * (l_1)))⁻¹)))) + ((((-(l_0))) * (t_0)))):=Sz.mono ((z_geo_Pt_Add_1 (Sz.mono z1_0 (by omega):Sz (10 * k + 9) _) (Sz.mono z1_1 (by omega):Sz (10 * k + 9) _) (Sz.mono z3_0 (by omega):Sz (10 * k + 9) _) (Sz.mono z3_1 (by omega):Sz (10 * k + 9) _))) (by omega)
 exact Sz.mono z4_0 (by omega)
theorem z_geo_Ln_At_1 {l_0 l_1 l_2 t_0:Rat} {k:Nat} (sl_0:Sz k l_0) (sl_1:Sz k l_1) (sl_2:Sz k l_2) (st_0:Sz k t_0):Sz (20 * k + 19) ((((l_1) * (((-(l_2)) * (((l_0) * (l_0)) + ((l_1) * (l_1)))⁻¹)))) + ((((-(l_0))) * (t_0)))):=by
 have z1_0:Sz (10 * k + 9) ((l_0) * (((-(l_2)) * (((l_0) * (l_0)) + ((l_1) * (l_1)))⁻¹))):=Sz.mono ((z_geo_Ln_Base_0 (Sz.mono sl_0 (by omega):Sz (1 * k + 0) _) (Sz.mono sl_1 (by omega):Sz (1 * k + 0) _) (Sz.mono sl_2 (by omega):Sz (1 * k + 0) _))) (by omega)
 have z1_1:Sz (10 * k + 9) ((l_1) * (((-(l_2)) * (((l_0) * (l_0)) + ((l_1) * (l_1)))⁻¹))):=Sz.mono ((z_geo_Ln_Base_1 (Sz.mono sl_0 (by omega):Sz (1 * k + 0) _) (Sz.mono sl_1 (by omega):Sz (1 * k + 0) _) (Sz.mono sl_2 (by omega):Sz (1 * k + 0) _))) (by omega)
 have z2_0:Sz (1 * k + 0) (l_1):=Sz.mono ((z_geo_Ln_Dir_0 (Sz.mono sl_0 (by omega):Sz (1 * k + 0) _) (Sz.mono sl_1 (by omega):Sz (1 * k + 0) _) (Sz.mono sl_2 (by omega):Sz (1 * k + 0) _))) (by omega)
 have z2_1:Sz (1 * k + 0) (-(l_0)):=Sz.mono ((z_geo_Ln_Dir_1 (Sz.mono sl_0 (by omega):Sz (1 * k + 0) _) (Sz.mono sl_1 (by omega):Sz (1 * k + 0) _) (Sz.mono sl_2 (by omega):Sz (1 * k + 0) _))) (by omega)
 have z3_0:Sz (2 * k + 1) ((l_1) * (t_0)):=Sz.mono ((z_geo_Pt_Scale_0 (Sz.mono z2_0 (by omega):Sz (1 * k + 0) _) (Sz.mono z2_1 (by omega):Sz (1 * k + 0) _) (Sz.mono st_0 (by omega):Sz (1 * k + 0) _))) (by omega)
 have z3_1:Sz (2 * k + 1) (((-(l_0))) * (t_0)):=Sz.mono ((z_geo_Pt_Scale_1 (Sz.mono z2_0 (by omega):Sz (1 * k + 0) _) (Sz.mono z2_1 (by omega):Sz (1 * k + 0) _) (Sz.mono st_0 (by omega):Sz (1 * k + 0) _))) (by omega)
 have z4_0:Sz (20 * k + 19) ((((l_0) * (((-(l_2)) * (((l_0) * (l_0)) + ((l_1) * (l_1)))⁻¹)))) + (((l_1) * (t_0)))):=Sz.mono ((z_geo_Pt_Add_0 (Sz.mono z1_0 (by omega):Sz (10 * k + 9) _) (Sz.mono z1_1 (by omega):Sz (10 * k + 9) _) (Sz.mono z3_0 (by omega):Sz (10 * k + 9) _) (Sz.mono z3_1 (by omega):Sz (10 * k + 9) _))) (by omega)
 have z4_1:Sz (20 * k + 19) ((((l_1) * (((-(l_2)) * (((l_0) * (l_0)) + ((l_1) * (l_1)))⁻¹)))) + ((((-(l_0))) * (t_0)))):=Sz.mono ((z_geo_Pt_Add_1 (Sz.mono z1_0 (by omega):Sz (10 * k + 9) _) (Sz.mono z1_1 (by omega):Sz (10 * k + 9) _) (Sz.mono z3_0 (by omega):Sz (10 * k + 9) _) (Sz.mono z3_1 (by omega):Sz (10 * k + 9) _))) (by omega)
 exact Sz.mono z4_1 (by omega)
theorem c_geo_Ln_Param {V:View} {l:Value} {l_0 l_1 l_2:Rat} {p:Value} {p_0 p_1:Rat} (hl:RLn V l l_0 l_1 l_2) (hp:RPt V p p_0 p_1) {k:Nat} (sl_0:Sz k l_0) (sl_1:Sz k l_1) (sl_2:Sz k l_2) (sp_0:Sz k p_0) (sp_1:Sz k p_1) (hk:8 * k + 7 < 274877906944) :
  Acts prog 101 #[l,p] V fun r V'=>RR V' r ((((l_1) * (p_0)) + (((-(l_0))) * (p_1))) * (((l_1) * (l_1)) + (((-(l_0))) * ((-(l_0)))))⁻¹):=by
 have hl0:=hl
 obtain ⟨l0,l1,l2,l3,l4,l5,l6,l7,l8,rfl,hl_0,hl_1,hl_2⟩:=hl
 have hp0:=hp
 obtain ⟨p0,p1,p2,p3,p4,p5,rfl,hp_0,hp_1⟩:=hp
 refine vc_geo_Ln_Param l0 l1 l2 l3 l4 l5 l6 l7 l8 p0 p1 p2 p3 p4 p5 V _ fun V1 l1=>(c_geo_Ln_Dir (hl0.le (l1)) (Sz.mono sl_0 (by omega):Sz (1 * k + 0) _) (Sz.mono sl_1 (by omega):Sz (1 * k + 0) _) (Sz.mono sl_2 (by omega):Sz (1 * k + 0) _) (by omega)).mono ?_
 rintro r V2 l2 g1
 have g10:=g1
 obtain ⟨w0_0,w0_1,w0_2,w0_3,w0_4,w0_5,rfl,g1p0,g1p1⟩:=g1
 have z1_0:Sz (1 * k + 0) (l_1):=Sz.mono ((z_geo_Ln_Dir_0 (Sz.mono sl_0 (by omega):Sz (1 * k + 0) _) (Sz.mono sl_1 (by omega):Sz (1 * k + 0) _) (Sz.mono sl_2 (by omega):Sz (1 * k + 0) _))) (by omega)
 have z1_1:Sz (1 * k + 0) (-(l_0)):=Sz.mono ((z_geo_Ln_Dir_1 (Sz.mono sl_0 (by omega):Sz (1 * k + 0) _) (Sz.mono sl_1 (by omega):Sz (1 * k + 0) _) (Sz.mono sl_2 (by omega):Sz (1 * k + 0) _))) (by omega)
 refine ⟨_,_,_,_,_,_,rfl,fun V3 l3=>(c_geo_Pt_Dot (g10.le (l3)) (hp0.le (l1.trans (l2.trans (l3)))) (Sz.mono z1_0 (by omega):Sz (1 * k + 0) _) (Sz.mono z1_1 (by omega):Sz (1 * k + 0) _) (Sz.mono sp_0 (by omega):Sz (1 * k + 0) _) (Sz.mono sp_1 (by omega):Sz (1 * k + 0) _) (by omega)).mono ?_⟩
 rintro r V4 l4 g2
 have g20:=g2
 obtain ⟨w1a,w1b,w1c,rfl⟩:=g2.shape
 have z2_0:Sz (4 * k + 3) (((l_1) * (p_0)) + (((-(l_0))) * (p_1))):=Sz.mono ((z_geo_Pt_Dot_0 (Sz.mono z1_0 (by omega):Sz (1 * k + 0) _) (Sz.mono z1_1 (by omega):Sz (1 * k + 0) _) (Sz.mono sp_0 (by omega):Sz (1 * k + 0) _) (Sz.mono sp_1 (by omega):Sz (1 * k + 0) _))) (by omega)
 refine ⟨_,_,_,rfl,fun V5 l5=>(c_geo_Pt_Dot (g10.le (l3.trans (l4.trans (l5)))) (g10.le (l3.trans (l4.trans (l5)))) (Sz.mono z1_0 (by omega):Sz (1 * k + 0) _) (Sz.mono z1_1 (by omega):Sz (1 * k + 0) _) (Sz.mono z1_0 (by omega):Sz (1 * k + 0) _) (Sz.mono z1_1 (by omega):Sz (1 * k + 0) _) (by omega)).mono ?_⟩
 rintro r V6 l6 g3
 have g30:=g3
 obtain ⟨w2a,w2b,w2c,rfl⟩:=g3.shape
 have z3_0:Sz (4 * k + 3) (((l_1) * (l_1)) + (((-(l_0))) * ((-(l_0))))):=Sz.mono ((z_geo_Pt_Dot_0 (Sz.mono z1_0 (by omega):Sz (1 * k + 0) _) (Sz.mono z1_1 (by omega):Sz (1 * k + 0) _) (Sz.mono z1_0 (by omega):Sz (1 * k + 0) _) (Sz.mono z1_1 (by omega):Sz (1 * k + 0) _))) (by omega)
 refine ⟨_,_,_,rfl,fun V7 l7=>(c_R_Quo (g20.le (l5.trans (l6.trans (l7)))) (g30.le (l7)) z2_0 z3_0 (by omega)).mono ?_⟩
 rintro r V8 l8 g4
 have g40:=g4
 obtain ⟨w3a,w3b,w3c,rfl⟩:=g4.shape
 have z4_0:Sz (8 * k + 7) ((((l_1) * (p_0)) + (((-(l_0))) * (p_1))) * (((l_1) * (l_1)) + (((-(l_0))) * ((-(l_0)))))⁻¹):=Sz.mono (Sz.mul z2_0 (sz_inv z3_0)) (by omega)
 exact ⟨_,_,_,rfl,fun V9 l9=>(g40.le (l9))⟩
theorem z_geo_Ln_Param_0 {l_0 l_1 l_2 p_0 p_1:Rat} {k:Nat} (sl_0:Sz k l_0) (sl_1:Sz k l_1) (sl_2:Sz k l_2) (sp_0:Sz k p_0) (sp_1:Sz k p_1):Sz (8 * k + 7) ((((l_1) * (p_0)) + (((-(l_0))) * (p_1))) * (((l_1) * (l_1)) + (((-(l_0))) * ((-(l_0)))))⁻¹):=by
 have z1_0:Sz (1 * k + 0) (l_1):=Sz.mono ((z_geo_Ln_Dir_0 (Sz.mono sl_0 (by omega):Sz (1 * k + 0) _) (Sz.mono sl_1 (by omega):Sz (1 * k + 0) _) (Sz.mono sl_2 (by omega):Sz (1 * k + 0) _))) (by omega)
 have z1_1:Sz (1 * k + 0) (-(l_0)):=Sz.mono ((z_geo_Ln_Dir_1 (Sz.mono sl_0 (by omega):Sz (1 * k + 0) _) (Sz.mono sl_1 (by omega):Sz (1 * k + 0) _) (Sz.mono sl_2 (by omega):Sz (1 * k + 0) _))) (by omega)
 have z2_0:Sz (4 * k + 3) (((l_1) * (p_0)) + (((-(l_0))) * (p_1))):=Sz.mono ((z_geo_Pt_Dot_0 (Sz.mono z1_0 (by omega):Sz (1 * k + 0) _) (Sz.mono z1_1 (by omega):Sz (1 * k + 0) _) (Sz.mono sp_0 (by omega):Sz (1 * k + 0) _) (Sz.mono sp_1 (by omega):Sz (1 * k + 0) _))) (by omega)
 have z3_0:Sz (4 * k + 3) (((l_1) * (l_1)) + (((-(l_0))) * ((-(l_0))))):=Sz.mono ((z_geo_Pt_Dot_0 (Sz.mono z1_0 (by omega):Sz (1 * k + 0) _) (Sz.mono z1_1 (by omega):Sz (1 * k + 0) _) (Sz.mono z1_0 (by omega):Sz (1 * k + 0) _) (Sz.mono z1_1 (by omega):Sz (1 * k + 0) _))) (by omega)
 have z4_0:Sz (8 * k + 7) ((((l_1) * (p_0)) + (((-(l_0))) * (p_1))) * (((l_1) * (l_1)) + (((-(l_0))) * ((-(l_0)))))⁻¹):=Sz.mono (Sz.mul z2_0 (sz_inv z3_0)) (by omega)
 exact Sz.mono z4_0 (by omega)
end Go.Proofs.Tryz
