/- A part of the proof (joined by program from: RefA, RefB, RefC, VGeo, GeoA, GeoB, GeoC, VLine, PtA, VRefF, NumK, RefD, RefE, PtB, TreeP, LineA, VScene, SceneA, LineP, LineQ, SceneB, VSceneF, SceneD, VFrag, RefG, FrA, FrB, FrC, RefH). -/
import Derived.Test.YtimkdinmcbepnaaGreatDoorS11
import Derived.Test.YtimkdinmcbepnaaGreatDoorS5
import Derived.Test.YtimkdinmcbepnaaGreatDoorS9
set_option linter.unusedVariables false
open Go.IntKind (i64 u64 u32)
/- Contracts of the references 01 and 04: ToN, ToI, SameN, SameI, points. -/
namespace Go.Eng
open Go.Big
/-- A point of the reference. -/
def RP (V:View) (v:Value) (x y:Rat):Prop:=∃p n c p' n' c' q m e q' m' e',v=.agg #[.bool (decide (x.num < 0)),.slice p n c,.slice p' n' c',.bool (decide (y.num < 0)),.slice q m e,.slice q' m' e'] /\
 RQ V (.agg #[.bool (decide (x.num < 0)),.slice p n c,.slice p' n' c']) x/\RQ V (.agg #[.bool (decide (y.num < 0)),.slice q m e,.slice q' m' e']) y
theorem RP.le {V V':View} {v:Value} {x y:Rat} (h:RP V v x y) (l:V.Le V'):RP V' v x y:=by
 obtain ⟨p,n,c,p',n',c',q,m,e,q',m',e',rfl,h1,h2⟩:=h
 exact ⟨p,n,c,p',n',c',q,m,e,q',m',e',rfl,h1.le l,h2.le l⟩
theorem RQ.shape {V:View} {v:Value} {q:Rat} (h:RQ V v q):∃p n c p' n' c',v=.agg #[.bool (decide (q.num < 0)),.slice p n c,.slice p' n' c']:=by
 obtain ⟨p,n,c,p',n',c',e,-⟩:=h; exact ⟨_,_,_,_,_,_,e⟩
end Go.Eng
namespace Go.Proofs.Tryz
open Go.Eng Go.Big
theorem c_ref01_ToN {V:View} {p:OA} {n c:Nat} {ds:List Nat} (h:RD V p n c ds) (hm:ds.length<=1099511627776) :
  Acts prog 91 #[.slice p n c] V fun r V'=>∃p1 n1 c1,r=.slice p1 n1 c1/\RD V' p1 n1 c1 ds:=by
 have hl:=h.len
 refine vc_ref01_ToN p n c V _ ⟨u32s ds,h.sl,by simp [hl],by omega,by omega,by simp,by simp [hl],?_,?_⟩
 ·intro v hv
  simp only [u32s,List.mem_map] at hv
  obtain ⟨d,-,rfl⟩:=hv
  rfl
 ·intro bk J sp c' h1 h2 V1 l1 b hb
  refine ⟨_,_,_,rfl,?_⟩
  simp only [Nat.zero_add,Nat.zero_mul,List.take_zero,List.nil_append] at hb h1 ⊢
  exact copied h.dig hl h1 hb
theorem c_ref01_ToI {V:View} {v:Value} {z:Int} (h:RI V v z) (hm:(digs z.natAbs).length<=1099511627776) :
  Acts prog 90 #[v] V fun r V'=>RI V' r z:=by
 obtain ⟨p,n,c,rfl,h⟩:=h
 refine vc_ref01_ToI _ p n c V _ fun V1 l1=>(c_ref01_ToN (h.le l1) hm).mono ?_
 rintro r V2 l2 ⟨p1,n1,c1,rfl,g⟩
 exact ⟨_,_,_,rfl,fun V3 l3=>⟨_,_,_,rfl,g.le l3⟩⟩
end Go.Proofs.Tryz
/- Contracts of the references 01 and 04: SameN, SameI, lines. -/
namespace Go.Eng
open Go.Big
/-- A line with integer coefficients, of the reference or of package api. -/
def RL (V:View) (v:Value) (a b c:Int):Prop:=∃p n s p' n' s' q m e,v=.agg #[.bool (decide (a < 0)),.slice p n s,.bool (decide (b < 0)),.slice p' n' s',.bool (decide (c < 0)),.slice q m e] /\
 RD V p n s (digs a.natAbs)/\RD V p' n' s' (digs b.natAbs)/\RD V q m e (digs c.natAbs)
theorem RL.le {V V':View} {v:Value} {a b c:Int} (h:RL V v a b c) (l:V.Le V'):RL V' v a b c:=by
 obtain ⟨p,n,s,p',n',s',q,m,e,rfl,h1,h2,h3⟩:=h
 exact ⟨p,n,s,p',n',s',q,m,e,rfl,h1.le l,h2.le l,h3.le l⟩
end Go.Eng
namespace Go.Proofs.Tryz
open Go.Eng Go.Big
theorem c_ref01_SameN {V:View} {p q:OA} {n c m e:Nat} {xs ys:List Nat} (hx:RD V p n c xs) (hy:RD V q m e ys) (hm:xs.length<=1099511627776) :
  Acts prog 98 #[.slice p n c,.slice q m e] V fun r V'=>r=.bool (decide (xs=ys)):=by
 have hlx:=hx.len
 have hly:=hy.len
 refine vc_ref01_SameN p n c q m e V _ ⟨fun h0 V1 l1=>?_,fun h0=>?_⟩
 ·have h0:n≠m:=by simp at h0; omega
  rw [decide_eq_false fun h=>h0 (by rw [hlx,hly,h])]
 ·have h0:n=m:=by simp at h0; omega
  refine ⟨fun z V'=>0<=z/\z<=n/\xs.take z.toNat=ys.take z.toNat,fun z=>n - z.toNat,⟨0,by (try dsimp only); and_intros <;> first | exact True.intro | rfl,by (try dsimp only); omega,by (try dsimp only); omega,rfl⟩,?_⟩
  rintro i V2 l2 ⟨hi0,hi1,ht⟩
  dsimp only at hi1 ht ⊢
  obtain ⟨i,rfl⟩:=Int.eq_ofNat_of_zero_le hi0
  simp only [Int.toNat_natCast] at ht
  refine ⟨by trivial,fun h3=>?_,fun h3 V4 l4=>?_⟩
  ·have h3:i < n:=by simpa using h3
   refine (hx.le l2).rd i rfl (by omega) ((hy.le l2).rd i rfl (by omega) ⟨fun h4 V8 l8=>?_,fun h4=>?_⟩)
   ·have h4:xs[i]≠ys[i]:=by simp at h4; omega
    rw [decide_eq_false fun h=>h4 (by subst h; rfl)]
   ·have h4:xs[i]=ys[i]:=by simp at h4; omega
    have w:i64.wrap ((i:Int) + 1)=((i + 1:Nat):Int):=by rw [i64w (by omega)]; omega
    simp only [w]
    refine ⟨((i + 1:Nat):Int),?_,by (try dsimp only); and_intros <;> first | exact True.intro | rfl,by (try dsimp only); omega,by (try dsimp only); omega,?_⟩
    ·(try dsimp only); omega
    ·(try dsimp only)
     simp only [Int.toNat_natCast]
     rw [List.take_succ_eq_append_getElem (by omega),List.take_succ_eq_append_getElem (l:=ys) (by omega),ht,h4]
  ·have h3:i=n:=by simp at h3; omega
   rw [List.take_of_length_le (by omega),List.take_of_length_le (by omega)] at ht
   rw [decide_eq_true ht]
theorem same_int {z w:Int}:(decide (z < 0) == decide (w < 0))=true->(decide (digs z.natAbs=digs w.natAbs)=decide (z=w)):=by
 intro h
 have h1:(z < 0↔w < 0):=by simpa using h
 rw [Bool.eq_iff_iff,decide_eq_true_eq,decide_eq_true_eq]
 constructor
 ·intro h2
  have:=digs_inj h2
  omega
 ·intro h2; rw [h2]
theorem c_ref01_SameI {V:View} {z w:Int} {p q:OA} {n c m e:Nat} (hx:RD V p n c (digs z.natAbs)) (hy:RD V q m e (digs w.natAbs)) (hm:(digs z.natAbs).length<=1099511627776) :
  Acts prog 97 #[.agg #[.bool (decide (z < 0)),.slice p n c],.agg #[.bool (decide (w < 0)),.slice q m e]] V fun r V'=>r=.bool (decide (z=w)):=by
 refine vc_ref01_SameI _ p n c _ q m e V _ ⟨fun h0 V1 l1=>(c_ref01_SameN (hx.le l1) (hy.le l1) hm).mono ?_,fun h0 V1 l1=>?_⟩
 ·rintro r V2 l2 rfl
  refine ⟨_,rfl,fun V3 l3=>?_⟩
  rw [same_int h0]
 ·rw [decide_eq_false fun h=>by subst h; simp at h0]
end Go.Proofs.Tryz
/- Contracts of the reference 04: MakeL. -/
namespace Go.Proofs.Tryz
open Go.Eng Go.Big
/-- The greatest common divisor of three coefficients. -/
def gcd3 (a b c:Int):Nat:=Nat.gcd (Nat.gcd a.natAbs b.natAbs) c.natAbs
end Go.Proofs.Tryz
/- By program: the conditions of the functions, from their loaded code. -/
namespace Go.Proofs.Tryz
open Go.Eng
set_option maxRecDepth 100000
end Go.Proofs.Tryz
/- Contracts of package geo: lines. -/
namespace Go.Eng
open Go.Big
/-- A line of package geo. -/
def RLn (V:View) (v:Value) (a b c:Rat):Prop:=∃(x1 x2:Int) (p:OA) (y1 y2:Int) (q:OA) (z1 z2:Int) (r:OA),v=.agg #[.int .i64 x1,.int .i64 x2,.pointer p,.int .i64 y1,.int .i64 y2,.pointer q,.int .i64 z1,.int .i64 z2,.pointer r] /\
 RR V (.agg #[.int .i64 x1,.int .i64 x2,.pointer p]) a/\RR V (.agg #[.int .i64 y1,.int .i64 y2,.pointer q]) b/\RR V (.agg #[.int .i64 z1,.int .i64 z2,.pointer r]) c
theorem RLn.le {V V':View} {v:Value} {a b c:Rat} (h:RLn V v a b c) (l:V.Le V'):RLn V' v a b c:=by
 obtain ⟨x1,x2,p,y1,y2,q,z1,z2,r,rfl,h1,h2,h3⟩:=h
 exact ⟨x1,x2,p,y1,y2,q,z1,z2,r,rfl,h1.le l,h2.le l,h3.le l⟩
end Go.Eng
namespace Go.Proofs.Tryz
open Go.Eng Go.Big
end Go.Proofs.Tryz
/- Contracts of package geo: LnOf. -/
namespace Go.Proofs.Tryz
open Go.Eng Go.Big
/-- What LnOf decides. -/
def okLn (b1:Bool) (xs:List Nat) (b2:Bool) (ys:List Nat) (b3:Bool) (zs:List Nat):Bool:=
 NrmI b1 xs && NrmI b2 ys && NrmI b3 zs && !(decide ((ival b1 xs:Rat)=0) && decide ((ival b2 ys:Rat)=0)) && decide (gcdQ (gcdQ (ival b1 xs) (ival b2 ys)) (ival b3 zs)=((1:Int):Rat))
end Go.Proofs.Tryz
/- Contracts: cmp.Or; geo Cmp, Equal. -/
namespace Go.Proofs.Tryz
open Go.Eng Go.Big
end Go.Proofs.Tryz
/- By program: the conditions of the functions, from their loaded code. -/
namespace Go.Proofs.Tryz
open Go.Eng
set_option maxRecDepth 100000
end Go.Proofs.Tryz
/- Contracts of points and lines of package geo (printed by straight.py). -/
namespace Go.Proofs.Tryz
open Go.Eng Go.Big
/-- A point of package geo. -/
def RPt (V:View) (v:Value) (x y:Rat):Prop:=∃(x1 x2:Int) (p:OA) (y1 y2:Int) (q:OA),v=.agg #[.int .i64 x1,.int .i64 x2,.pointer p,.int .i64 y1,.int .i64 y2,.pointer q] /\
 RR V (.agg #[.int .i64 x1,.int .i64 x2,.pointer p]) x/\RR V (.agg #[.int .i64 y1,.int .i64 y2,.pointer q]) y
theorem RPt.le {V V':View} {v:Value} {x y:Rat} (h:RPt V v x y) (l:V.Le V'):RPt V' v x y:=by
 obtain ⟨x1,x2,p,y1,y2,q,e,h1,h2⟩:=h
 exact ⟨x1,x2,p,y1,y2,q,e,h1.le l,h2.le l⟩
end Go.Proofs.Tryz
/- By program: the conditions of the functions, from their loaded code. -/
namespace Go.Proofs.Tryz
open Go.Eng
open Go.Value renaming int→I,pointer→P,slice→S,agg→A,bool→B,tuple→T
open Go.IntKind renaming i64→J,u64→U,u32→W
set_option maxRecDepth 100000
theorem vc_ref01_ToQ (a:Bool) (b:OA) (c d:Nat) (e:OA) (f g:Nat) (V:View) (R:VR) (h:(Ca V 90 #[A #[B a,S b c d]] fun u w=>∃i,∃k l m,u=A #[B i,S k l m]/\(Ca w 83 #[A #[B a,S b c d,S e f g]] fun x y=>∃n o p,x=S n o p/\(Ca y 91 #[S n o p] fun z a0=>∃q r s,z=S q r s/\(Rt a0 R (A #[B i,S k l m,S q r s])))))):
 Acts prog 28 #[A #[B a,S b c d,S e f g]] V R:=
 fd (LF:=LF0) (RF:=[1000010]) [] [] func28 h
theorem vc_ref01_SameQ (b:Bool) (c:OA) (d e:Nat) (f:OA) (g i:Nat) (k:Bool) (l:OA) (m n:Nat) (o:OA) (p q:Nat) (V:View) (R:VR) (h:(Ca V 97 #[A #[B b,S c d e],A #[B k,S l m n]] fun w r=>∃a,w=B a/\((a=true->(Ca r 98 #[S f g i,S o p q] fun x y=>∃s,x=B s/\(Rt y R (B s))))/\(a=false->(Rt r R (B false)))))):
 Acts prog 37 #[A #[B b,S c d e,S f g i],A #[B k,S l m n,S o p q]] V R:=
 fd (LF:=LF0) (RF:=[1000010]) [] [] func37 h
theorem vc_ref06_zero (a:Bool) (g:OA) (b i:Nat) (k:OA) (c l:Nat) (V:View) (R:VR) (h:(((!a)=true->((((b:Int) == (0:Int))=true->(Rt V R (B ((c:Int) == (0:Int)))))/\(((b:Int) == (0:Int))=false->(Rt V R (B false)))))/\((!a)=false->(Rt V R (B false))))):
 Acts prog 102 #[A #[B a,S g b i,S k c l]] V R:=
 fd (LF:=LF0) (RF:=[1000010]) [] [] func102 h
theorem vc_ref06_Same (s:Bool) (t:OA) (u w:Nat) (x:OA) (y z:Nat) (b:Bool) (c:OA) (d e:Nat) (f:OA) (g i:Nat) (r a a0:Bool) (a1:OA) (a2 a3:Nat) (a4:OA) (a5 a6:Nat) (k:Bool) (l:OA) (m n:Nat) (o:OA) (p q:Nat) (b1 b2:Bool) (V:View) (R:VR) (h:(((r == b1)=true->(((a == b2)=true->((r=true->(Ca V 102 #[A #[B s,S t u w,S x y z]] fun k3 b3=>∃b4,k3=B b4/\((b4=true->(Ca b3 102 #[A #[B a0,S a1 a2 a3,S a4 a5 a6]] fun k4 a7=>∃b5,k4=B b5/\((b5=true->((a=true->(Ca a7 102 #[A #[B b,S c d e,S f g i]] fun k5 b6=>∃b7,k5=B b7/\((b7=true->(Ca b6 102 #[A #[B k,S l m n,S o p q]] fun k6 b8=>∃b9,k6=B b9/\((b9=true->(Rt b8 R (B true)))/\(b9=false->(((!a)=true->(Ca b8 37 #[A #[B b,S c d e,S f g i],A #[B k,S l m n,S o p q]] fun k7 k8=>∃d6,k7=B d6/\(Rt k8 R (B d6))))/\((!a)=false->(Rt b8 R (B false))))))))/\(b7=false->(((!a)=true->(Ca b6 37 #[A #[B b,S c d e,S f g i],A #[B k,S l m n,S o p q]] fun k9 l0=>∃d9,k9=B d9/\(Rt l0 R (B d9))))/\((!a)=false->(Rt b6 R (B false))))))))/\(a=false->(((!a)=true->(Ca a7 37 #[A #[B b,S c d e,S f g i],A #[B k,S l m n,S o p q]] fun l1 l2=>∃e2,l1=B e2/\(Rt l2 R (B e2))))/\((!a)=false->(Rt a7 R (B false)))))))/\(b5=false->(((!r)=true->(Ca a7 37 #[A #[B s,S t u w,S x y z],A #[B a0,S a1 a2 a3,S a4 a5 a6]] fun l3 a8=>∃c0,l3=B c0/\((c0=true->((a=true->(Ca a8 102 #[A #[B b,S c d e,S f g i]] fun l4 c1=>∃c2,l4=B c2/\((c2=true->(Ca c1 102 #[A #[B k,S l m n,S o p q]] fun l5 c3=>∃c4,l5=B c4/\((c4=true->(Rt c3 R (B true)))/\(c4=false->(((!a)=true->(Ca c3 37 #[A #[B b,S c d e,S f g i],A #[B k,S l m n,S o p q]] fun l6 l7=>∃e6,l6=B e6/\(Rt l7 R (B e6))))/\((!a)=false->(Rt c3 R (B false))))))))/\(c2=false->(((!a)=true->(Ca c1 37 #[A #[B b,S c d e,S f g i],A #[B k,S l m n,S o p q]] fun l8 l9=>∃e9,l8=B e9/\(Rt l9 R (B e9))))/\((!a)=false->(Rt c1 R (B false))))))))/\(a=false->(((!a)=true->(Ca a8 37 #[A #[B b,S c d e,S f g i],A #[B k,S l m n,S o p q]] fun m0 m1=>∃f2,m0=B f2/\(Rt m1 R (B f2))))/\((!a)=false->(Rt a8 R (B false)))))))/\(c0=false->(Rt a8 R (B false))))))/\((!r)=false->(Rt a7 R (B false))))))))/\(b4=false->(((!r)=true->(Ca b3 37 #[A #[B s,S t u w,S x y z],A #[B a0,S a1 a2 a3,S a4 a5 a6]] fun m2 a9=>∃c5,m2=B c5/\((c5=true->((a=true->(Ca a9 102 #[A #[B b,S c d e,S f g i]] fun m3 c6=>∃c7,m3=B c7/\((c7=true->(Ca c6 102 #[A #[B k,S l m n,S o p q]] fun m4 c8=>∃c9,m4=B c9/\((c9=true->(Rt c8 R (B true)))/\(c9=false->(((!a)=true->(Ca c8 37 #[A #[B b,S c d e,S f g i],A #[B k,S l m n,S o p q]] fun m5 m6=>∃f8,m5=B f8/\(Rt m6 R (B f8))))/\((!a)=false->(Rt c8 R (B false))))))))/\(c7=false->(((!a)=true->(Ca c6 37 #[A #[B b,S c d e,S f g i],A #[B k,S l m n,S o p q]] fun m7 m8=>∃g1,m7=B g1/\(Rt m8 R (B g1))))/\((!a)=false->(Rt c6 R (B false))))))))/\(a=false->(((!a)=true->(Ca a9 37 #[A #[B b,S c d e,S f g i],A #[B k,S l m n,S o p q]] fun m9 n0=>∃g4,m9=B g4/\(Rt n0 R (B g4))))/\((!a)=false->(Rt a9 R (B false)))))))/\(c5=false->(Rt a9 R (B false))))))/\((!r)=false->(Rt b3 R (B false))))))))/\(r=false->(((!r)=true->(Ca V 37 #[A #[B s,S t u w,S x y z],A #[B a0,S a1 a2 a3,S a4 a5 a6]] fun n1 b0=>∃d0,n1=B d0/\((d0=true->((a=true->(Ca b0 102 #[A #[B b,S c d e,S f g i]] fun n2 d1=>∃d2,n2=B d2/\((d2=true->(Ca d1 102 #[A #[B k,S l m n,S o p q]] fun n3 d3=>∃d4,n3=B d4/\((d4=true->(Rt d3 R (B true)))/\(d4=false->(((!a)=true->(Ca d3 37 #[A #[B b,S c d e,S f g i],A #[B k,S l m n,S o p q]] fun n4 n5=>∃i0,n4=B i0/\(Rt n5 R (B i0))))/\((!a)=false->(Rt d3 R (B false))))))))/\(d2=false->(((!a)=true->(Ca d1 37 #[A #[B b,S c d e,S f g i],A #[B k,S l m n,S o p q]] fun n6 n7=>∃i3,n6=B i3/\(Rt n7 R (B i3))))/\((!a)=false->(Rt d1 R (B false))))))))/\(a=false->(((!a)=true->(Ca b0 37 #[A #[B b,S c d e,S f g i],A #[B k,S l m n,S o p q]] fun n8 n9=>∃i6,n8=B i6/\(Rt n9 R (B i6))))/\((!a)=false->(Rt b0 R (B false)))))))/\(d0=false->(Rt b0 R (B false))))))/\((!r)=false->(Rt V R (B false)))))))/\((a == b2)=false->(Rt V R (B false)))))/\((r == b1)=false->(Rt V R (B false))))):
 Acts prog 68 #[A #[B s,S t u w,S x y z,B b,S c d e,S f g i,B r,B a],A #[B a0,S a1 a2 a3,S a4 a5 a6,B k,S l m n,S o p q,B b1,B b2]] V R:=
 fd (LF:=LF0) (RF:=[1000010]) [] [] func68 h
theorem vc_ref06_Class (e:OA) (a n:Nat) (b:Bool) (f:OA) (g i:Nat) (k:OA) (l m:Nat) (V:View) (R:VR) (h:(∃(b5:Int->VP) (c2:Int->Nat),(∃c3:Int,(s5 0 e a n (a:Int) (((0:Int)=c3)/\s6 b f g i k l (sm m)))/\b5 c3 V)/\∀(d:Int) (o:View),V.Le o->b5 d o->(true=true/\(((decide (d < (a:Int)))=true->(e.isSome=true)/\(0<=d/\d < (a:Int))/\(∃a0,∃a1 a2 a3,∃a4 a5 a6,∃a7,∃a8 a9 b0,∃b1 b2 b3,∃w,∃x,∃s,addrAdd e (d.toNat * 8)=some s/\o.at (s.add 0) (B a0)/\o.at (s.add 1) (S a1 a2 a3)/\o.at (s.add 2) (S a4 a5 a6)/\o.at (s.add 3) (B a7)/\o.at (s.add 4) (S a8 a9 b0)/\o.at (s.add 5) (S b1 b2 b3)/\o.at (s.add 6) (B w)/\o.at (s.add 7) (B x)/\(∃b6:Int->VP,(((!w)=true->(Ca o 22 #[A #[B b,S f g i,S k l m],A #[B a0,S a1 a2 a3,S a4 a5 a6]] fun e0 e1=>∃c4,e0=I J c4/\(∃c5:Int,(sm 0/\sm 0/\((-1:Int)=(-1:Int))/\s5 e a n (a:Int) d ((c4=c5)/\s12 b f g i k l m a0 a1 a2 a3 a4 (s10 a5 a6 a7 a8 a9 b0 b1 b2 b3 w (sm x))))/\b6 c5 e1)))/\((!w)=false->(∃c6:Int,(sm 0/\sm 0/\((-1:Int)=(-1:Int))/\s5 e a n (a:Int) d (((1:Int)=c6)/\s12 b f g i k l m a0 a1 a2 a3 a4 (s10 a5 a6 a7 a8 a9 b0 b1 b2 b3 w (sm x))))/\b6 c6 o)))/\∀(q:Int) (y:View),o.Le y->b6 q y->(true=true/\(∃b7:Int->VP,(((!x)=true->(Ca y 22 #[A #[B b,S f g i,S k l m],A #[B a7,S a8 a9 b0,S b1 b2 b3]] fun e2 e3=>∃c7,e2=I J c7/\(∃c8:Int,(s7 0 q e a n (a:Int) d ((c7=c8)/\s6 b f g i k l (sm m)))/\b7 c8 e3)))/\((!x)=false->(∃c9:Int,(s7 0 q e a n (a:Int) d (((-1:Int)=c9)/\s6 b f g i k l (sm m)))/\b7 c9 y)))/\∀(r:Int) (z:View),y.Le z->b7 r z->(true=true/\(∃b8:Bool->VP,(((decide (q > (0:Int)))=true->(∃d0:Bool,(s8 0 q r e a n (a:Int) d (((decide (r < (0:Int)))=d0)/\s6 b f g i k l (sm m)))/\b8 d0 z))/\((decide (q > (0:Int)))=false->(∃d1:Bool,(s8 0 q r e a n (a:Int) d ((false=d1)/\s6 b f g i k l (sm m)))/\b8 d1 z)))/\∀(b9:Bool) (t:View),z.Le t->b8 b9 t->(true=true/\((b9=true->(Rt t R (I J 2)))/\(b9=false->(∃u:Bool->VP,(((q == (0:Int))=true->(((decide (r<=(0:Int)))=true->(∃d3:Bool,(s6 0 e a n (a:Int) d ((true=d3)/\s6 b f g i k l (sm m)))/\u d3 t))/\((decide (r<=(0:Int)))=false->(((r == (0:Int))=true->(∃d4:Bool,(s6 0 e a n (a:Int) d (((decide (q ≥ (0:Int)))=d4)/\s6 b f g i k l (sm m)))/\u d4 t))/\((r == (0:Int))=false->(∃d5:Bool,(s6 0 e a n (a:Int) d ((false=d5)/\s6 b f g i k l (sm m)))/\u d5 t))))))/\((q == (0:Int))=false->(((r == (0:Int))=true->(∃d6:Bool,(s6 0 e a n (a:Int) d (((decide (q ≥ (0:Int)))=d6)/\s6 b f g i k l (sm m)))/\u d6 t))/\((r == (0:Int))=false->(∃d7:Bool,(s6 0 e a n (a:Int) d ((false=d7)/\s6 b f g i k l (sm m)))/\u d7 t)))))/\∀(c0:Bool) (b4:View),t.Le b4->u c0 b4->(true=true/\((c0=true->(Rt b4 R (I J 1)))/\(c0=false->(∃c1:Int,c2 c1 < c2 d/\(s5 0 e a n (a:Int) (((J.wrap (d + (1:Int)))=c1)/\s6 b f g i k l (sm m)))/\b5 c1 b4)))))))))))))))/\((decide (d < (a:Int)))=false->(Rt o R (I J 0))))))):
 Acts prog 36 #[S e a n,A #[B b,S f g i,S k l m]] V R:=
 fd (LF:=LF0) (RF:=[1000010]) [(2,⟨Int,false,[3,9,10],[3],fun p=>[(11,.c (.v (I J p)))],fun p=>[]⟩)] [(6,⟨Int,false,[3,6,8,9,10,11],[3,6],fun p=>[(7,.c (.v (I J p)))],fun p=>[]⟩),(8,⟨Int,false,[3,7,9,10,11],[3],fun p=>[(8,.c (.v (I J p)))],fun p=>[]⟩),(600009,⟨Bool,false,[3,7,8,9,10,11],[3],fun p=>[(34,.c (.v (B p)))],fun p=>[]⟩),(600011,⟨Bool,false,[3,9,10,11],[3],fun p=>[(48,.c (.v (B p)))],fun p=>[]⟩)] func36 h
end Go.Proofs.Tryz
/- Contracts of the reference's num: Over; ref04's q. -/
namespace Go.Proofs.Tryz
open Go.Eng Go.Big
end Go.Proofs.Tryz
/- Contracts of the reference 04: Through. -/
namespace Go.Proofs.Tryz
open Go.Eng Go.Big
theorem RQ.int {V:View} {q:Rat} {b:Bool} {p:OA} {n c:Nat} {p':OA} {n' c':Nat} (h:RQ V (.agg #[.bool b,.slice p n c,.slice p' n' c']) q):RI V (.agg #[.bool b,.slice p n c]) q.num:=by
 obtain ⟨p1,n1,c1,p2,n2,c2,e,h1,h2⟩:=h
 cases e
 exact ⟨_,_,_,rfl,h1⟩
theorem RQ.den {V:View} {q:Rat} {b:Bool} {p:OA} {n c:Nat} {p':OA} {n' c':Nat} (h:RQ V (.agg #[.bool b,.slice p n c,.slice p' n' c']) q):RD V p' n' c' (dend q.den):=by
 obtain ⟨p1,n1,c1,p2,n2,c2,e,h1,h2⟩:=h
 cases e
 exact h2
end Go.Proofs.Tryz
/- Contracts of points and lines of the reference (printed by straight_ref.py). -/
namespace Go.Proofs.Tryz
open Go.Eng Go.Big
end Go.Proofs.Tryz
/- Contracts: points of package api, read, written and compared. -/
namespace Go.Proofs.Tryz
open Go.Eng Go.Big
theorem RA.shape {V:View} {v:Value} {q:Rat} (h:RA V v q):∃b p n c p' n' c',v=.agg #[.bool b,.slice p n c,.slice p' n' c']:=by
 obtain ⟨p,n,c,p',n',c',e,-⟩:=h; exact ⟨_,_,_,_,_,_,_,e⟩
/-- A point of package api in normal form. -/
def RAP (V:View) (v:Value) (x y:Rat):Prop:=∃b p n c p' n' c' d q m e q' m' e',v=.agg #[.bool b,.slice p n c,.slice p' n' c',.bool d,.slice q m e,.slice q' m' e'] /\
 RA V (.agg #[.bool b,.slice p n c,.slice p' n' c']) x/\RA V (.agg #[.bool d,.slice q m e,.slice q' m' e']) y
theorem RAP.le {V V':View} {v:Value} {x y:Rat} (h:RAP V v x y) (l:V.Le V'):RAP V' v x y:=by
 obtain ⟨b,p,n,c,p',n',c',d,q,m,e,q',m',e',rfl,h1,h2⟩:=h
 exact ⟨_,_,_,_,_,_,_,_,_,_,_,_,_,_,rfl,h1.le l,h2.le l⟩
theorem c_ref01_ToQ {V:View} {v:Value} {q:Rat} (h:RQ V v q) {k:Nat} (s:Sz k q) (hk:k<=1099511627776):Acts prog 28 #[v] V fun r V'=>RA V' r q:=by
 obtain ⟨p,n,c,p',n',c',rfl,h1,h2⟩:=h
 have q1:=digs_len_bits s.1
 have q2:=digs_len_bits s.2
 refine vc_ref01_ToQ _ p n c p' n' c' V _ fun V1 l1=>(c_ref01_ToI ⟨_,_,_,rfl,h1.le l1⟩ (by omega)).mono ?_
 rintro r V2 l2 ⟨p1,n1,c1,rfl,g1⟩
 refine ⟨_,_,_,_,rfl,fun V3 l3=>(c_num_Den q _ (h2.le (l1.trans (l2.trans l3)))).mono ?_⟩
 rintro r V4 l4 ⟨p2,n2,c2,rfl,g2⟩
 refine ⟨_,_,_,rfl,fun V5 l5=>(c_ref01_ToN (g2.le l5) (by omega)).mono ?_⟩
 rintro r V6 l6 ⟨p3,n3,c3,rfl,g3⟩
 exact ⟨_,_,_,rfl,fun V7 l7=>⟨_,_,_,_,_,_,rfl,g1.le (l3.trans (l4.trans (l5.trans (l6.trans l7)))),g3.le l7⟩⟩
theorem c_ref01_SameQ {V:View} {v w:Value} {x y:Rat} (hx:RA V v x) (hy:RA V w y) {k:Nat} (s:Sz k x) (hk:k<=1099511627776) :
  Acts prog 37 #[v,w] V fun r V'=>r=.bool (decide (x=y)):=by
 obtain ⟨p,n,c,p',n',c',rfl,h1,h2⟩:=hx
 obtain ⟨q,m,e,q',m',e',rfl,h3,h4⟩:=hy
 have q1:=digs_len_bits s.1
 have q2:=digs_len_bits s.2
 refine vc_ref01_SameQ _ p n c p' n' c' _ q m e q' m' e' V _ fun V1 l1=>(c_ref01_SameI (h1.le l1) (h3.le l1) (by omega)).mono ?_
 rintro r V2 l2 rfl
 refine ⟨_,rfl,fun g V3 l3=>(c_ref01_SameN (h2.le (l1.trans (l2.trans l3))) (h4.le (l1.trans (l2.trans l3))) (by omega)).mono ?_,fun g V6 l6=>?_⟩
 ·have g:=of_decide_eq_true g
  rintro r V4 l4 rfl
  refine ⟨_,rfl,fun V5 l5=>?_⟩
  have e:digs x.den=digs y.den↔x=y:=⟨fun h=>Rat.ext g (by have:=congrArg val h; rwa [val_digs,val_digs] at this),fun h=>by rw [h]⟩
  rw [show decide (digs x.den=digs y.den)=decide (x=y) from by rw [decide_eq_decide]; exact e]
 ·have g:=of_decide_eq_false g
  rw [decide_eq_false (fun h=>g (by rw [h]))]
end Go.Proofs.Tryz
/- Trees and their lists of nodes: plain laws, no program in sight. -/
namespace Go.Proofs.Tryz
open Go.Eng Go.Big
/-- A line: its integer coefficients. -/
abbrev L3:=Int × Int × Int
def okL (x:L3):Bool:=decide (¬ (x.1=0/\x.2.1=0)) && decide (gcd3 x.1 x.2.1 x.2.2=1)
def Bd (x:L3):Prop:=x.1.natAbs < 2 ^ 1000/\x.2.1.natAbs < 2 ^ 1000/\x.2.2.natAbs < 2 ^ 1000
inductive Tr where
 | leaf (i:Bool) | node (l:L3) (a b:Tr)
 deriving DecidableEq
structure Nd where
 ln:L3
 left:Int
 right:Int
 deriving DecidableEq
def Tr.size:Tr->Nat
 | .leaf _=>0
 | .node _ a b=>a.size + b.size + 1
def Tr.All (p:L3->Prop):Tr->Prop
 | .leaf _=>True
 | .node l a b=>p l/\a.All p/\b.All p
theorem Tr.All.imp {p q:L3->Prop} (h:∀x,p x->q x):∀{t:Tr},t.All p->t.All q
 | .leaf _,_=>trivial
 | .node _ _ _,⟨h1,h2,h3⟩=>⟨h _ h1,Tr.All.imp h h2,Tr.All.imp h h3⟩
/-! reading a list of nodes -/
structure RS where
 seen:List Bool
 cnt:Nat
 bad:Bool
/-! the nodes in another order -/
def mvN (n by_ i:Nat):Nat:=n - 1 - (i + by_) % n
def mv (n by_:Nat) (i:Int):Int:=if i < 0 then i else (mvN n by_ i.toNat:Int)
end Go.Proofs.Tryz
/- Lines in normal form, in memory. -/
namespace Go.Proofs.Tryz
open Go.Eng Go.Big
theorem addadd (a:Addr) (i j:Nat):(a.add i).add j=a.add (i + j):=by
 unfold Addr.add
 by_cases h1:i=0
 ·subst h1; simp
 ·by_cases h2:j=0
  ·subst h2; simp [h1]
  ·simp [h1,h2,Nat.add_assoc]
theorem okLn_okL {a b c:Int}:okLn (decide (a < 0)) (digs a.natAbs) (decide (b < 0)) (digs b.natAbs) (decide (c < 0)) (digs c.natAbs)=okL (a,b,c):=by
 have hn:∀z:Int,NrmI (decide (z < 0)) (digs z.natAbs)=true:=by
  intro z
  unfold NrmI
  rw [val_digs]
  simp only [decide_true,Bool.true_and]
  by_cases h:z < 0
  ·simp only [h,decide_true,Bool.not_true,Bool.false_or,decide_eq_true_eq]
   intro e
   have:=digs_eq_nil.1 e
   omega
  ·simp [h]
 have hg:gcdQ (gcdQ (a:Rat) (b:Rat)) (c:Rat)=((gcd3 a b c:Nat):Int):=by
  have g2:∀x y:Int,gcdQ (x:Rat) (y:Rat)=((Nat.gcd x.natAbs y.natAbs:Nat):Int):=by
   intro x y
   unfold gcdQ
   have e1:((x:Rat)).num=x:=rfl
   have e2:((y:Rat)).num=y:=rfl
   have e3:((x:Rat)).den=1:=rfl
   have e4:((y:Rat)).den=1:=rfl
   rw [e1,e2,e3,e4]
   simp only [Nat.mul_one]
   exact Rat.mkRat_one _
  rw [g2,g2]
  rfl
 unfold okLn okL
 rw [hn,hn,hn,ival_digs,ival_digs,ival_digs,hg]
 have h0:∀z:Int,((z:Rat)=0)↔z=0:=fun z=>by exact Rat.intCast_eq_zero_iff
 simp only [Bool.true_and,h0]
 rw [Bool.eq_iff_iff]
 simp only [Bool.and_eq_true,Bool.not_eq_true',Bool.and_eq_false_iff,decide_eq_false_iff_not,decide_eq_true_eq]
 have h1:(((gcd3 a b c:Nat):Int):Rat)=((1:Int):Rat)↔gcd3 a b c=1:=by
  rw [Rat.intCast_inj]; omega
 rw [h1]
 constructor
 ·rintro ⟨h,h'⟩; exact ⟨fun e=>by rcases h with h | h; exact h e.1; exact h e.2,h'⟩
 ·rintro ⟨h,h'⟩
  refine ⟨?_,h'⟩
  by_cases ha:a=0
  ·exact .inr fun hb=>h ⟨ha,hb⟩
  ·exact .inl ha
theorem sz_int {z:Int} {k:Nat} (h:z.natAbs < 2 ^ k) (hk:0 < k):Sz k (z:Rat):=⟨h,Nat.one_lt_two_pow (by omega)⟩
theorem Bd.digs {x:L3} (h:Bd x):(digs x.1.natAbs).length<=1000/\(digs x.2.1.natAbs).length<=1000/\(digs x.2.2.natAbs).length<=1000:=⟨digs_len_bits h.1,digs_len_bits h.2.1,digs_len_bits h.2.2⟩
theorem Bd.sz {x:L3} (h:Bd x):Sz 1000 (x.1:Rat)/\Sz 1000 (x.2.1:Rat)/\Sz 1000 (x.2.2:Rat):=⟨sz_int h.1 (by omega),sz_int h.2.1 (by omega),sz_int h.2.2 (by omega)⟩
end Go.Proofs.Tryz
/- By program: the conditions of the functions, from their loaded code. -/
namespace Go.Proofs.Tryz
open Go.Eng
set_option maxRecDepth 100000
end Go.Proofs.Tryz
/- The scene's tape: Next, P, V, L, Tree; lines and trees that it makes. -/
namespace Go.Proofs.Tryz
open Go.Eng Go.Big
/-! plain laws: the line through two points of the grid -/
def small (z:Int) (k:Nat):Bool:=decide (z.natAbs<=k)
end Go.Proofs.Tryz
/- Plain laws: the line in normal form. -/
namespace Go.Proofs.Tryz
open Go.Eng Go.Big
end Go.Proofs.Tryz
/- Plain laws: the line through two points: program and reference agree. -/
namespace Go.Proofs.Tryz
open Go.Eng Go.Big
end Go.Proofs.Tryz
/- Contracts of the scene's tape: Next, P, V, L; trees of the reference in memory: Code, Tree. -/
namespace Go.Proofs.Tryz
open Go.Eng Go.Big
/-- Ints that can be read. -/
def Rdl (V:View) (p:OA) (n:Nat):Prop:=∀i,i < n->∃(a:Addr) (x:Int),addrAdd p (i * 1)=some a/\V.at a (.int .i64 x)
theorem Rdl.le {V V':View} {p:OA} {n:Nat} (h:Rdl V p n) (l:V.Le V'):Rdl V' p n:=fun i hi=>by
 obtain ⟨a,x,e,hx⟩:=h i hi; exact ⟨a,x,e,l.at hx⟩
theorem RQ.zero {V:View}:RQ V (.agg #[.bool false,.slice none 0 0,.slice none 0 0]) ((0:Int):Rat):=⟨none,0,0,none,0,0,rfl,RD.nil,RD.nil⟩
theorem RP.zero {V:View}:RP V (.agg #[.bool false,.slice none 0 0,.slice none 0 0,.bool false,.slice none 0 0,.slice none 0 0]) ((0:Int):Rat) ((0:Int):Rat):=
 ⟨none,0,0,none,0,0,none,0,0,none,0,0,rfl,RQ.zero,RQ.zero⟩
end Go.Proofs.Tryz
/- By program: the conditions of the functions, from their loaded code. -/
namespace Go.Proofs.Tryz
open Go.Eng
set_option maxRecDepth 100000
end Go.Proofs.Tryz
/- Contracts: num.Part; the tape's Q and Point. -/
namespace Go.Proofs.Tryz
open Go.Eng Go.Big
end Go.Proofs.Tryz
/- By program: the conditions of the functions, from their loaded code. -/
namespace Go.Proofs.Tryz
open Go.Eng
open Go.Value renaming int→I,pointer→P,slice→S,agg→A,bool→B,tuple→T
open Go.IntKind renaming i64→J,u64→U,u32→W
set_option maxRecDepth 100000
theorem vc_geo_end (a:Bool) (d:OA) (b e:Nat) (f:OA) (c g:Nat) (i:Bool) (V:View) (R:VR) (h:((i=true->(((!a)=true->((((b:Int) == (0:Int))=true->(Rt V R (T #[A #[I J 0,I J 0,P none],B ((c:Int) == (0:Int))])))/\(((b:Int) == (0:Int))=false->(Rt V R (T #[A #[I J 0,I J 0,P none],B false])))))/\((!a)=false->(Rt V R (T #[A #[I J 0,I J 0,P none],B false])))))/\(i=false->(Ca V 93 #[A #[B a,S d b e,S f c g]] fun s t=>∃n,∃o,∃p,s=A #[I J n,I J o,P p]/\(Ca t 207 #[A #[B a,S d b e,S f c g]] fun u w=>∃q,u=B q/\(Rt w R (T #[A #[I J n,I J o,P p],B q]))))))):
 Acts prog 155 #[A #[B a,S d b e,S f c g],B i] V R:=
 fd (LF:=LF0) (RF:=[1000010]) [] [] func155 h
theorem vc_geo_IvOf (n:Bool) (o:OA) (p q:Nat) (r:OA) (s t:Nat) (u:Bool) (w:OA) (x y:Nat) (z:OA) (a0 a1:Nat) (a b:Bool) (V:View) (R:VR) (h:(Ca V 155 #[A #[B n,S o p q,S r s t],B a] fun a6 a7=>∃c,∃d,∃e,∃k,a6=T #[A #[I J c,I J d,P e],B k]/\(Ca a7 155 #[A #[B u,S w x y,S z a0 a1],B b] fun a8 l=>∃f,∃g,∃i,∃m,a8=T #[A #[I J f,I J g,P i],B m]/\((k=true->((m=true->(Ca l 156 #[A #[I J c,I J d,P e,I J f,I J g,P i,B a,B b]] fun a9 b0=>∃a2,a9=B a2/\(Rt b0 R (T #[A #[I J c,I J d,P e,I J f,I J g,P i,B a,B b],B (!a2)]))))/\(m=false->(Rt l R (T #[A #[I J c,I J d,P e,I J f,I J g,P i,B a,B b],B false])))))/\(k=false->(Rt l R (T #[A #[I J c,I J d,P e,I J f,I J g,P i,B a,B b],B false]))))))):
 Acts prog 104 #[A #[B n,S o p q,S r s t,B u,S w x y,S z a0 a1,B a,B b]] V R:=
 fd (LF:=LF0) (RF:=[1000010]) [] [] func104 h
theorem vc_geo_Iv_API (o p:Int) (q:OA) (c d:Int) (e:OA) (b a:Bool) (V:View) (R:VR) (h:(((!b)=true->(Ca V 76 #[A #[I J o,I J p,P q]] fun b1 r=>∃f,∃g i k,∃l m n,b1=A #[B f,S g i k,S l m n]/\(((!a)=true->(Ca r 76 #[A #[I J c,I J d,P e]] fun b2 b3=>∃s,∃t u w,∃x y z,b2=A #[B s,S t u w,S x y z]/\(Rt b3 R (A #[B f,S g i k,S l m n,B s,S t u w,S x y z,B b,B a]))))/\((!a)=false->(Rt r R (A #[B f,S g i k,S l m n,B false,S none 0 0,S none 0 0,B b,B a]))))))/\((!b)=false->(((!a)=true->(Ca V 76 #[A #[I J c,I J d,P e]] fun b4 b5=>∃a2,∃a3 a4 a5,∃a6 a7 a8,b4=A #[B a2,S a3 a4 a5,S a6 a7 a8]/\(Rt b5 R (A #[B false,S none 0 0,S none 0 0,B a2,S a3 a4 a5,S a6 a7 a8,B b,B a]))))/\((!a)=false->(Rt V R (A #[B false,S none 0 0,S none 0 0,B false,S none 0 0,S none 0 0,B b,B a]))))))):
 Acts prog 131 #[A #[I J o,I J p,P q,I J c,I J d,P e,B b,B a]] V R:=
 fd (LF:=LF0) (RF:=[1000010]) [] [] func131 h
theorem vc_geo_Iv_empty (c d:Int) (e:OA) (f g:Int) (i:OA) (a b:Bool) (V:View) (R:VR) (h:(((!a)=true->(((!b)=true->(Ca V 129 #[A #[I J c,I J d,P e],A #[I J f,I J g,P i]] fun o p=>∃k,o=I J k/\(Rt p R (B (decide (k ≥ (0:Int)))))))/\((!b)=false->(Rt V R (B false)))))/\((!a)=false->(Rt V R (B false))))):
 Acts prog 156 #[A #[I J c,I J d,P e,I J f,I J g,P i,B a,B b]] V R:=
 fd (LF:=LF0) (RF:=[1000010]) [] [] func156 h
theorem vc_geo_Iv_Has (m n:Int) (o:OA) (e f:Int) (g:OA) (i a:Bool) (b c:Int) (d:OA) (V:View) (R:VR) (h:((i=true->((a=true->(Rt V R (B true)))/\(a=false->(Ca V 129 #[A #[I J e,I J f,P g],A #[I J b,I J c,P d]] fun x y=>∃q,x=I J q/\(Rt y R (B (decide (q ≥ (0:Int)))))))))/\(i=false->(Ca V 129 #[A #[I J m,I J n,P o],A #[I J b,I J c,P d]] fun z k=>∃l,z=I J l/\(((decide (l<=(0:Int)))=true->((a=true->(Rt k R (B true)))/\(a=false->(Ca k 129 #[A #[I J e,I J f,P g],A #[I J b,I J c,P d]] fun a0 a1=>∃t,a0=I J t/\(Rt a1 R (B (decide (t ≥ (0:Int)))))))))/\((decide (l<=(0:Int)))=false->(Rt k R (B false)))))))):
 Acts prog 95 #[A #[I J m,I J n,P o,I J e,I J f,P g,B i,B a],A #[I J b,I J c,P d]] V R:=
 fd (LF:=LF0) (RF:=[1000010]) [] [] func95 h
end Go.Proofs.Tryz
/- Contracts: the reference's Side and Rev; the program's interval: Neg. -/
namespace Go.Proofs.Tryz
open Go.Eng Go.Big
end Go.Proofs.Tryz
/- Intervals and fragments: how they lie in memory; the values at a line. -/
namespace Go.Eng
open Go.Big
theorem RR.zero (V:View):RR V (.agg #[.int .i64 0,.int .i64 0,.pointer none]) 0:=.inl ⟨rfl,by unfold Wd; decide⟩
end Go.Eng
namespace Go.Proofs.Tryz
open Go.Eng Go.Big
/-- A span: its ends, and whether they are missing. -/
structure Sp where
 lo:Rat
 hi:Rat
 a:Bool
 b:Bool
/-- An end that is missing is 0. -/
def Sp.can (s:Sp):Prop:=(s.a=true->s.lo=0)/\(s.b=true->s.hi=0)
def Sp.sz (k:Nat) (s:Sp):Prop:=Sz k s.lo/\Sz k s.hi
def Sp.zero:Sp:=⟨0,0,false,false⟩
def SzL (k:Nat) (l:L3):Prop:=Sz k (l.1:Rat)/\Sz k (l.2.1:Rat)/\Sz k (l.2.2:Rat)
/-- An interval of package geo. -/
def RIv (V:View) (v:Value) (s:Sp):Prop:=∃(x1 x2:Int) (p:OA) (y1 y2:Int) (q:OA),v=.agg #[.int .i64 x1,.int .i64 x2,.pointer p,.int .i64 y1,.int .i64 y2,.pointer q,.bool s.a,.bool s.b] /\
 RR V (.agg #[.int .i64 x1,.int .i64 x2,.pointer p]) s.lo/\RR V (.agg #[.int .i64 y1,.int .i64 y2,.pointer q]) s.hi
theorem RIv.le {V V':View} {v:Value} {s:Sp} (h:RIv V v s) (l:V.Le V'):RIv V' v s:=by
 obtain ⟨x1,x2,p,y1,y2,q,e,h1,h2⟩:=h
 exact ⟨x1,x2,p,y1,y2,q,e,h1.le l,h2.le l⟩
/-- A line of package geo with integer coefficients. -/
def RLi (V:View) (v:Value) (l:L3):Prop:=RLn V v (l.1:Rat) (l.2.1:Rat) (l.2.2:Rat)
theorem RLi.le {V V':View} {v:Value} {l:L3} (h:RLi V v l) (e:V.Le V'):RLi V' v l:=RLn.le h e
/-- A fragment of package geo. -/
def RFr (V:View) (v:Value) (l:L3) (s:Sp):Prop:=∃(x1 x2:Int) (p:OA) (y1 y2:Int) (q:OA) (z1 z2:Int) (r:OA) (u1 u2:Int) (t:OA) (w1 w2:Int) (o:OA),
 v=.agg #[.int .i64 x1,.int .i64 x2,.pointer p,.int .i64 y1,.int .i64 y2,.pointer q,.int .i64 z1,.int .i64 z2,.pointer r,.int .i64 u1,.int .i64 u2,.pointer t,.int .i64 w1,.int .i64 w2,.pointer o,.bool s.a,.bool s.b] /\
 RLi V (.agg #[.int .i64 x1,.int .i64 x2,.pointer p,.int .i64 y1,.int .i64 y2,.pointer q,.int .i64 z1,.int .i64 z2,.pointer r]) l /\
 RIv V (.agg #[.int .i64 u1,.int .i64 u2,.pointer t,.int .i64 w1,.int .i64 w2,.pointer o,.bool s.a,.bool s.b]) s
theorem RFr.le {V V':View} {v:Value} {l:L3} {s:Sp} (h:RFr V v l s) (e:V.Le V'):RFr V' v l s:=by
 obtain ⟨x1,x2,p,y1,y2,q,z1,z2,r,u1,u2,t,w1,w2,o,rfl,h1,h2⟩:=h
 exact ⟨x1,x2,p,y1,y2,q,z1,z2,r,u1,u2,t,w1,w2,o,rfl,h1.le e,h2.le e⟩
/-- A number of package api in any form. -/
def RRw (V:View) (v:Value) (b:Bool) (xs ys:List Nat):Prop:=∃p n c p' n' c',v=.agg #[.bool b,.slice p n c,.slice p' n' c']/\RD V p n c xs/\RD V p' n' c' ys
theorem RRw.le {V V':View} {v:Value} {b:Bool} {xs ys:List Nat} (h:RRw V v b xs ys) (l:V.Le V'):RRw V' v b xs ys:=by
 obtain ⟨p,n,c,p',n',c',e,h1,h2⟩:=h; exact ⟨p,n,c,p',n',c',e,h1.le l,h2.le l⟩
theorem RRw.nil {V:View}:RRw V (.agg #[.bool false,.slice none 0 0,.slice none 0 0]) false [] []:=⟨_,_,_,_,_,_,rfl,RD.nil,RD.nil⟩
/-- An end of a span of package api. -/
def RE (V:View) (v:Value) (q:Rat) (no:Bool):Prop:=(no=true->RRw V v false [] [])/\(no=false->RA V v q)
theorem RE.le {V V':View} {v:Value} {q:Rat} {no:Bool} (h:RE V v q no) (l:V.Le V'):RE V' v q no:=⟨fun e=>(h.1 e).le l,fun e=>(h.2 e).le l⟩
theorem RE.shape {V:View} {v:Value} {q:Rat} {no:Bool} (h:RE V v q no):∃b p n c p' n' c',v=.agg #[.bool b,.slice p n c,.slice p' n' c']:=by
 cases no with
 | true=>obtain ⟨_,_,_,_,_,_,e,-⟩:=h.1 rfl; exact ⟨_,_,_,_,_,_,_,e⟩
 | false=>exact (h.2 rfl).shape
/-- A span of package api. -/
def RSp (V:View) (v:Value) (s:Sp):Prop:=∃b p n c p' n' c' d q m e q' m' e',v=.agg #[.bool b,.slice p n c,.slice p' n' c',.bool d,.slice q m e,.slice q' m' e',.bool s.a,.bool s.b] /\
 RE V (.agg #[.bool b,.slice p n c,.slice p' n' c']) s.lo s.a/\RE V (.agg #[.bool d,.slice q m e,.slice q' m' e']) s.hi s.b
theorem RSp.le {V V':View} {v:Value} {s:Sp} (h:RSp V v s) (l:V.Le V'):RSp V' v s:=by
 obtain ⟨b,p,n,c,p',n',c',d,q,m,e,q',m',e',rfl,h1,h2⟩:=h
 exact ⟨_,_,_,_,_,_,_,_,_,_,_,_,_,_,rfl,h1.le l,h2.le l⟩
/-- A fragment of package api. -/
def RFa (V:View) (v:Value) (l:L3) (s:Sp):Prop:=∃b1 p1 n1 c1 b2 p2 n2 c2 b3 p3 n3 c3 b p n c p' n' c' d q m e q' m' e',
 v=.agg #[.bool b1,.slice p1 n1 c1,.bool b2,.slice p2 n2 c2,.bool b3,.slice p3 n3 c3,.bool b,.slice p n c,.slice p' n' c',.bool d,.slice q m e,.slice q' m' e',.bool s.a,.bool s.b] /\
 RL V (.agg #[.bool b1,.slice p1 n1 c1,.bool b2,.slice p2 n2 c2,.bool b3,.slice p3 n3 c3]) l.1 l.2.1 l.2.2/\RSp V (.agg #[.bool b,.slice p n c,.slice p' n' c',.bool d,.slice q m e,.slice q' m' e',.bool s.a,.bool s.b]) s
theorem RFa.le {V V':View} {v:Value} {l:L3} {s:Sp} (h:RFa V v l s) (e:V.Le V'):RFa V' v l s:=by
 obtain ⟨b1,p1,n1,c1,b2,p2,n2,c2,b3,p3,n3,c3,b,p,n,c,p',n',c',d,q,m,f,q',m',f',rfl,h1,h2⟩:=h
 exact ⟨_,_,_,_,_,_,_,_,_,_,_,_,_,_,_,_,_,_,_,_,_,_,_,_,_,_,rfl,h1.le e,h2.le e⟩
/-- A span of the reference. -/
def RSs (V:View) (v:Value) (s:Sp):Prop:=∃b p n c p' n' c' d q m e q' m' e',v=.agg #[.bool b,.slice p n c,.slice p' n' c',.bool d,.slice q m e,.slice q' m' e',.bool s.a,.bool s.b] /\
 RQ V (.agg #[.bool b,.slice p n c,.slice p' n' c']) s.lo/\RQ V (.agg #[.bool d,.slice q m e,.slice q' m' e']) s.hi
theorem RSs.le {V V':View} {v:Value} {s:Sp} (h:RSs V v s) (l:V.Le V'):RSs V' v s:=by
 obtain ⟨b,p,n,c,p',n',c',d,q,m,e,q',m',e',rfl,h1,h2⟩:=h
 exact ⟨_,_,_,_,_,_,_,_,_,_,_,_,_,_,rfl,h1.le l,h2.le l⟩
/-- A fragment of the reference. -/
def RF (V:View) (v:Value) (l:L3) (s:Sp):Prop:=∃b1 p1 n1 c1 b2 p2 n2 c2 b3 p3 n3 c3 b p n c p' n' c' d q m e q' m' e',
 v=.agg #[.bool b1,.slice p1 n1 c1,.bool b2,.slice p2 n2 c2,.bool b3,.slice p3 n3 c3,.bool b,.slice p n c,.slice p' n' c',.bool d,.slice q m e,.slice q' m' e',.bool s.a,.bool s.b] /\
 RL V (.agg #[.bool b1,.slice p1 n1 c1,.bool b2,.slice p2 n2 c2,.bool b3,.slice p3 n3 c3]) l.1 l.2.1 l.2.2/\RSs V (.agg #[.bool b,.slice p n c,.slice p' n' c',.bool d,.slice q m e,.slice q' m' e',.bool s.a,.bool s.b]) s
theorem RF.le {V V':View} {v:Value} {l:L3} {s:Sp} (h:RF V v l s) (e:V.Le V'):RF V' v l s:=by
 obtain ⟨b1,p1,n1,c1,b2,p2,n2,c2,b3,p3,n3,c3,b,p,n,c,p',n',c',d,q,m,f,q',m',f',rfl,h1,h2⟩:=h
 exact ⟨_,_,_,_,_,_,_,_,_,_,_,_,_,_,_,_,_,_,_,_,_,_,_,_,_,_,rfl,h1.le e,h2.le e⟩
/-! the values at a line -/
def Sp.neg (s:Sp):Sp:=⟨if s.b then 0 else -s.hi,if s.a then 0 else -s.lo,s.b,s.a⟩
def Sp.has (s:Sp) (t:Rat):Bool:=(s.a || decide (cmpQ s.lo t<=0)) && (s.b || decide (cmpQ s.hi t ≥ 0))
def Sp.emp (s:Sp):Bool:=!s.a && !s.b && decide (cmpQ s.lo s.hi ≥ 0)
/-! the same for the reference -/
end Go.Proofs.Tryz
/- Contracts: geo.scaled, Make, Through, Segment. -/
namespace Go.Proofs.Tryz
open Go.Eng Go.Big
/-- Three numbers in a row; those ahead of i are scaled by f. -/
structure Scl (V:View) (vs:List Value) (i:Int) (f a b c:Rat):Prop where
 h0:0<=i
 h3:i<=3
 row:∃(x1 x2:Int) (p:OA) (y1 y2:Int) (q:OA) (z1 z2:Int) (r:OA),vs=[.int .i64 x1,.int .i64 x2,.pointer p,.int .i64 y1,.int .i64 y2,.pointer q,.int .i64 z1,.int .i64 z2,.pointer r] /\
  RR V (.agg #[.int .i64 x1,.int .i64 x2,.pointer p]) (if 0 < i then a * f else a)/\RR V (.agg #[.int .i64 y1,.int .i64 y2,.pointer q]) (if 1 < i then b * f else b)/\RR V (.agg #[.int .i64 z1,.int .i64 z2,.pointer r]) (if 2 < i then c * f else c)
theorem Scl.le {V V':View} {vs:List Value} {i:Int} {f a b c:Rat} (h:Scl V vs i f a b c) (l:V.Le V'):Scl V' vs i f a b c:=by
 obtain ⟨h0,h3,x1,x2,p,y1,y2,q,z1,z2,r,e,g1,g2,g3⟩:=h
 exact ⟨h0,h3,x1,x2,p,y1,y2,q,z1,z2,r,e,g1.le l,g2.le l,g3.le l⟩
end Go.Proofs.Tryz
/- Contracts: spans and fragments of package api, read and written by package geo. -/
namespace Go.Proofs.Tryz
open Go.Eng Go.Big
def rawQ (b:Bool) (xs ys:List Nat):Rat:=mkRat (ival b xs) (val ys)
def nrmQ (b:Bool) (xs ys:List Nat):Bool:=NrmI b xs && decide (digs (val ys)=ys) && !decide (ys=[]) && decide (Nat.gcd (val xs) (val ys)=1)
def zerQ (b:Bool) (xs ys:List Nat):Bool:=!b && decide (xs=[]) && decide (ys=[])
def endQ (b:Bool) (xs ys:List Nat) (no:Bool):Rat:=if no then 0 else rawQ b xs ys
def endOk (b:Bool) (xs ys:List Nat) (no:Bool):Bool:=if no then zerQ b xs ys else nrmQ b xs ys
theorem nrm_gcd {q:Rat}:nrmQ (decide (q.num < 0)) (digs q.num.natAbs) (digs q.den)=true/\rawQ (decide (q.num < 0)) (digs q.num.natAbs) (digs q.den)=q:=by
 constructor
 ·unfold nrmQ
  have h1:NrmI (decide (q.num < 0)) (digs q.num.natAbs)=true:=by
   unfold NrmI
   rw [val_digs]
   by_cases h:q.num < 0
   ·have:digs q.num.natAbs≠[]:=fun e=>by have:=digs_eq_nil.1 e; omega
    simp [h,this]
   ·simp [h]
  have h2:digs q.den≠[]:=fun e=>q.den_nz (digs_eq_nil.1 e)
  rw [h1,val_digs,val_digs]
  simp [h2,q.reduced]
 ·unfold rawQ
  rw [ival_digs,val_digs,Rat.mkRat_self]
theorem c_frac_Normal {V:View} (b:Bool) {p q:OA} {n c m e:Nat} {xs ys:List Nat} (hx:RD V p n c xs) (hy:RD V q m e ys) (hm:xs.length<=1099511627776) (hn:ys.length<=1099511627776) :
  Acts prog 207 #[.agg #[.bool b,.slice p n c,.slice q m e]] V fun r V'=>r=.bool (nrmQ b xs ys):=by
 refine vc_frac_Normal b p n c q m e V _ fun V1 l1=>(c_integer_Normal b (hx.le l1) hm).mono ?_
 rintro r V2 l2 rfl
 refine ⟨_,rfl,fun h V3 l3=>by rw [Bool.not_eq_true'] at h; simp [nrmQ,h],fun h1 V4 l4=>(c_nat_Normal (hy.le (l1.trans (l2.trans l4))) hn).mono ?_⟩
 rw [Bool.not_eq_false'] at h1
 rintro r V5 l5 rfl
 refine ⟨_,rfl,fun h V6 l6=>by rw [Bool.not_eq_true'] at h; simp [nrmQ,h],fun h2=>⟨fun h V7 l7=>?_,fun h3 V8 l8=>?_⟩⟩
 ·have hl:=hy.len
  have:ys=[]:=by
   have h:((m:Nat):Int)=0:=by simpa using h
   exact List.length_eq_zero_iff.1 (by omega)
  simp [nrmQ,this]
 ·rw [Bool.not_eq_false'] at h2
  have hl:=hy.len
  have h3':ys≠[]:=fun e=>by
   have h:¬ ((m:Nat):Int)=0:=by simpa using h3
   rw [e] at hl; exact h (by simp at hl; omega)
  have l08:=l1.trans (l2.trans (l4.trans (l5.trans l8)))
  refine (c_nat_Gcd (hx.le l08) (hy.le l08) hm hn).mono ?_
  rintro r V9 l9 ⟨p1,n1,c1,rfl,g⟩
  have lg:(digs (Nat.gcd (val xs) (val ys))).length<=1099511627776:=by
   have h1:=digs_val_len hx.dig
   have h2:=digs_val_len hy.dig
   by_cases h0:val xs=0
   ·rw [h0,Nat.gcd_zero_left]; omega
   ·have:Nat.gcd (val xs) (val ys)<=val xs:=Nat.gcd_le_left _ (by omega)
    have:=digs_len_mono this
    omega
  refine ⟨_,_,_,rfl,fun V10 l10=>(c_nat_Bits (g.le l10) lg).mono ?_⟩
  rintro r V11 l11 rfl
  refine ⟨_,rfl,fun V12 l12=>?_⟩
  have hb:(((blen (val (digs (Nat.gcd (val xs) (val ys)))):Nat):Int) == 1)=decide (Nat.gcd (val xs) (val ys)=1):=by
   rw [val_digs,Bool.eq_iff_iff,beq_iff_eq,decide_eq_true_eq]
   have gen:∀g:Nat,((blen g:Nat):Int)=1↔g=1:=fun g=>by
    have a1:blen g<=1↔g < 2:=@blen_le g 1
    have a2:blen g<=0↔g < 1:=@blen_le g 0
    omega
   exact gen _
  rw [hb]
  simp [nrmQ,h1,h2,h3']
theorem c_geo_end {V:View} {v:Value} {b:Bool} {xs ys:List Nat} (no:Bool) (h:RRw V v b xs ys) (hm:xs.length<=1099511627776) (hn:ys.length<=1099511627776) :
  Acts prog 155 #[v,.bool no] V fun r V'=>∃w,r=.tuple #[w,.bool (endOk b xs ys no)]/\RR V' w (endQ b xs ys no):=by
 obtain ⟨p,n,c,q,m,e,rfl,hx,hy⟩:=h
 have hl:=hx.len
 have hl':=hy.len
 refine vc_geo_end b p n c q m e no V _ ⟨?_,?_⟩
 ·rintro rfl
  have z:∀V':View,RR V' (.agg #[.int .i64 0,.int .i64 0,.pointer none]) (endQ b xs ys true):=fun V'=>RR.zero V'
  refine ⟨fun h=>⟨fun h1 V1 l1=>⟨_,?_,z _⟩,fun h1 V2 l2=>⟨_,?_,z _⟩⟩,fun h V3 l3=>⟨_,?_,z _⟩⟩
  ·have e1:xs=[]:=by
    have h:((n:Nat):Int)=0:=by simpa using h1
    exact List.length_eq_zero_iff.1 (by omega)
   have e2:(((m:Nat):Int) == 0)=decide (ys=[]):=by
    rw [Bool.eq_iff_iff,beq_iff_eq,decide_eq_true_eq,← List.length_eq_zero_iff]; omega
   rw [Bool.not_eq_true'] at h
   simp [endOk,zerQ,h,e1,← e2]
  ·have e1:xs≠[]:=fun e=>by
    have h:¬ ((n:Nat):Int)=0:=by simpa using h1
    rw [e] at hl; exact h (by simp at hl; omega)
   simp [endOk,zerQ,e1]
  ·rw [Bool.not_eq_false'] at h
   simp [endOk,zerQ,h]
 ·rintro rfl V4 l4
  refine (c_frac_Of' b (hx.le l4) (hy.le l4) hm hn).mono ?_
  rintro r V5 l5 g
  have g0:=g
  obtain ⟨_,_,_,rfl⟩:=g.shape
  refine ⟨_,_,_,rfl,fun V6 l6=>(c_frac_Normal b (hx.le (l4.trans (l5.trans l6))) (hy.le (l4.trans (l5.trans l6))) hm hn).mono ?_⟩
  rintro r V7 l7 rfl
  exact ⟨_,rfl,fun V8 l8=>⟨_,rfl,g0.le (l6.trans (l7.trans l8))⟩⟩
theorem c_Iv_empty {V:View} {v:Value} {s:Sp} (h:RIv V v s) {k:Nat} (hs:s.sz k) (hk:2 * k < 1099511627776) :
  Acts prog 156 #[v] V fun r V'=>r=.bool s.emp:=by
 obtain ⟨x1,x2,p,y1,y2,q,rfl,h1,h2⟩:=h
 refine vc_geo_Iv_empty x1 x2 p y1 y2 q s.a s.b V _ ⟨fun ha=>⟨fun hb V1 l1=>(c_R_Cmp (h1.le l1) (h2.le l1) hs.1 hs.2 (by omega)).mono ?_,fun hb V4 l4=>?_⟩,fun ha V5 l5=>?_⟩
 ·rintro r V2 l2 rfl
  exact ⟨_,rfl,fun V3 l3=>by rw [Bool.not_eq_true'] at ha hb; simp [Sp.emp,ha,hb]⟩
 ·rw [Bool.not_eq_false'] at hb; simp [Sp.emp,hb]
 ·rw [Bool.not_eq_false'] at ha; simp [Sp.emp,ha]
/-- A span of package api in any form. -/
def RSw (V:View) (v:Value) (b1:Bool) (xs1 ys1:List Nat) (b2:Bool) (xs2 ys2:List Nat) (na nb:Bool):Prop:=∃p n c p' n' c' q m e q' m' e',v=.agg #[.bool b1,.slice p n c,.slice p' n' c',.bool b2,.slice q m e,.slice q' m' e',.bool na,.bool nb] /\
 RRw V (.agg #[.bool b1,.slice p n c,.slice p' n' c']) b1 xs1 ys1/\RRw V (.agg #[.bool b2,.slice q m e,.slice q' m' e']) b2 xs2 ys2
theorem RSw.le {V V':View} {v:Value} {b1:Bool} {xs1 ys1:List Nat} {b2:Bool} {xs2 ys2:List Nat} {na nb:Bool} (h:RSw V v b1 xs1 ys1 b2 xs2 ys2 na nb) (l:V.Le V'):RSw V' v b1 xs1 ys1 b2 xs2 ys2 na nb:=by
 obtain ⟨p,n,c,p',n',c',q,m,e,q',m',e',rfl,h1,h2⟩:=h
 exact ⟨_,_,_,_,_,_,_,_,_,_,_,_,rfl,h1.le l,h2.le l⟩
def spW (b1:Bool) (xs1 ys1:List Nat) (b2:Bool) (xs2 ys2:List Nat) (na nb:Bool):Sp:=⟨endQ b1 xs1 ys1 na,endQ b2 xs2 ys2 nb,na,nb⟩
def okW (b1:Bool) (xs1 ys1:List Nat) (b2:Bool) (xs2 ys2:List Nat) (na nb:Bool):Bool:=endOk b1 xs1 ys1 na && endOk b2 xs2 ys2 nb && !(spW b1 xs1 ys1 b2 xs2 ys2 na nb).emp
theorem c_geo_IvOf {V:View} {v:Value} {b1:Bool} {xs1 ys1:List Nat} {b2:Bool} {xs2 ys2:List Nat} {na nb:Bool} (h:RSw V v b1 xs1 ys1 b2 xs2 ys2 na nb) (m1:xs1.length<=1099511627776) (m2:ys1.length<=1099511627776) (m3:xs2.length<=1099511627776) (m4:ys2.length<=1099511627776)
  {k:Nat} (hs:(spW b1 xs1 ys1 b2 xs2 ys2 na nb).sz k) (hk:2 * k < 1099511627776) :
  Acts prog 104 #[v] V fun r V'=>∃w,r=.tuple #[w,.bool (okW b1 xs1 ys1 b2 xs2 ys2 na nb)]/\RIv V' w (spW b1 xs1 ys1 b2 xs2 ys2 na nb):=by
 obtain ⟨p,n,c,p',n',c',q,m,e,q',m',e',rfl,h1,h2⟩:=h
 refine vc_geo_IvOf b1 p n c p' n' c' b2 q m e q' m' e' na nb V _ fun V1 l1=>(c_geo_end na (h1.le l1) m1 m2).mono ?_
 rintro r V2 l2 ⟨w,rfl,g1⟩
 have g10:=g1
 obtain ⟨x1,x2,x3,rfl⟩:=g1.shape
 refine ⟨_,_,_,_,rfl,fun V3 l3=>(c_geo_end nb (h2.le (l1.trans (l2.trans l3))) m3 m4).mono ?_⟩
 rintro r V4 l4 ⟨w,rfl,g2⟩
 have g20:=g2
 obtain ⟨y1,y2,y3,rfl⟩:=g2.shape
 have iv:∀V5:View,V4.Le V5->RIv V5 (.agg #[.int .i64 x1,.int .i64 x2,.pointer x3,.int .i64 y1,.int .i64 y2,.pointer y3,.bool na,.bool nb]) (spW b1 xs1 ys1 b2 xs2 ys2 na nb):=fun V5 l5=>⟨_,_,_,_,_,_,rfl,g10.le (l3.trans (l4.trans l5)),g20.le l5⟩
 refine ⟨_,_,_,_,rfl,fun ha=>⟨fun hb V5 l5=>(c_Iv_empty (iv V5 l5) hs hk).mono ?_,fun hb V8 l8=>⟨_,?_,iv V8 l8⟩⟩,fun ha V9 l9=>⟨_,?_,iv V9 l9⟩⟩
 ·rintro r V6 l6 rfl
  exact ⟨_,rfl,fun V7 l7=>⟨_,by simp [okW,ha,hb],iv V7 (l5.trans (l6.trans l7))⟩⟩
 ·simp [okW,hb]
 ·simp [okW,ha]
/-- What is right to read: a fragment whose line is in lowest terms and whose span has a length. -/
def FOk (l:L3) (s:Sp):Prop:=okL l=true/\s.can/\s.emp=false
theorem RE.raw {V:View} {v:Value} {q:Rat} {no:Bool} (h:RE V v q no) (hc:no=true->q=0):∃b xs ys,RRw V v b xs ys/\endOk b xs ys no=true/\endQ b xs ys no=q/\(∀k,Sz k q->xs.length<=k/\ys.length<=k):=by
 cases no with
 | true=>
  exact ⟨false,[],[],h.1 rfl,rfl,by rw [hc rfl]; rfl,fun k _=>⟨Nat.zero_le _,Nat.zero_le _⟩⟩
 | false=>
  obtain ⟨p,n,c,p',n',c',rfl,h1,h2⟩:=h.2 rfl
  exact ⟨_,_,_,⟨_,_,_,_,_,_,rfl,h1,h2⟩,nrm_gcd.1,nrm_gcd.2,fun k hk=>⟨digs_len_bits hk.1,digs_len_bits hk.2⟩⟩
theorem c_IvOf_ok {V:View} {v:Value} {s:Sp} (h:RSp V v s) (hc:s.can) (hne:s.emp=false) {k:Nat} (hs:s.sz k) (hk:2 * k < 1099511627776) :
  Acts prog 104 #[v] V fun r V'=>∃w,r=.tuple #[w,.bool true]/\RIv V' w s:=by
 obtain ⟨b,p,n,c,p',n',c',d,q,m,e,q',m',e',rfl,h1,h2⟩:=h
 obtain ⟨b1,xs1,ys1,r1,o1,q1,z1⟩:=h1.raw hc.1
 obtain ⟨b2,xs2,ys2,r2,o2,q2,z2⟩:=h2.raw hc.2
 have e1:b=b1:=by obtain ⟨_,_,_,_,_,_,e,-⟩:=r1; injection e with e; simp at e; exact e.1
 have e2:d=b2:=by obtain ⟨_,_,_,_,_,_,e,-⟩:=r2; injection e with e; simp at e; exact e.1
 subst e1 e2
 have z1:=z1 k hs.1
 have z2:=z2 k hs.2
 have es:spW b xs1 ys1 d xs2 ys2 s.a s.b=s:=by unfold spW; rw [q1,q2]
 refine (c_geo_IvOf (V:=V) (b1:=b) (xs1:=xs1) (ys1:=ys1) (b2:=d) (xs2:=xs2) (ys2:=ys2) (na:=s.a) (nb:=s.b) ⟨_,_,_,_,_,_,_,_,_,_,_,_,rfl,r1,r2⟩ (by omega) (by omega) (by omega) (by omega) (k:=k) (by rw [es]; exact hs) hk).mono ?_
 rintro r V2 l2 ⟨w,rfl,g⟩
 rw [es] at g
 exact ⟨w,by unfold okW; rw [es,o1,o2,hne]; rfl,g⟩
theorem c_Iv_API {V:View} {v:Value} {s:Sp} (h:RIv V v s) {k:Nat} (hs:s.sz k) (hk:k<=1099511627776):Acts prog 131 #[v] V fun r V'=>RSp V' r s:=by
 obtain ⟨x1,x2,p,y1,y2,q,rfl,h1,h2⟩:=h
 have t:∀{V:View} {v:Value} {x:Rat} {no:Bool},RA V v x->(!no)=true->RE V v x no:=fun h e=>by
  rw [Bool.not_eq_true'] at e; subst e; exact ⟨(fun h=>nomatch h),fun _=>h⟩
 have f:∀{V:View} {x:Rat} {no:Bool},(!no)=false->RE V (.agg #[.bool false,.slice none 0 0,.slice none 0 0]) x no:=fun e=>by
  rw [Bool.not_eq_false'] at e; subst e; exact ⟨fun _=>RRw.nil,(fun h=>nomatch h)⟩
 refine vc_geo_Iv_API x1 x2 p y1 y2 q s.a s.b V _ ⟨fun ha V1 l1=>(c_R_API (h1.le l1) hs.1 hk).mono ?_,fun ha=>⟨fun hb V7 l7=>(c_R_API (h2.le l7) hs.2 hk).mono ?_,fun hb V10 l10=>?_⟩⟩
 ·rintro r V2 l2 g1
  have g10:=g1
  obtain ⟨_,_,_,_,_,_,_,rfl⟩:=g1.shape
  refine ⟨_,_,_,_,_,_,_,rfl,fun hb V3 l3=>(c_R_API (h2.le (l1.trans (l2.trans l3))) hs.2 hk).mono ?_,fun hb V6 l6=>?_⟩
  ·rintro r V4 l4 g2
   have g20:=g2
   obtain ⟨_,_,_,_,_,_,_,rfl⟩:=g2.shape
   exact ⟨_,_,_,_,_,_,_,rfl,fun V5 l5=>⟨_,_,_,_,_,_,_,_,_,_,_,_,_,_,rfl,t (g10.le (l3.trans (l4.trans l5))) ha,t (g20.le l5) hb⟩⟩
  ·exact ⟨_,_,_,_,_,_,_,_,_,_,_,_,_,_,rfl,t (g10.le l6) ha,f hb⟩
 ·rintro r V8 l8 g2
  have g20:=g2
  obtain ⟨_,_,_,_,_,_,_,rfl⟩:=g2.shape
  exact ⟨_,_,_,_,_,_,_,rfl,fun V9 l9=>⟨_,_,_,_,_,_,_,_,_,_,_,_,_,_,rfl,f ha,t (g20.le l9) hb⟩⟩
 ·exact ⟨_,_,_,_,_,_,_,_,_,_,_,_,_,_,rfl,f ha,f hb⟩
theorem RLi.api {V:View} {r:Value} {l:L3} (h:RL V r ((l.1:Rat)).num ((l.2.1:Rat)).num ((l.2.2:Rat)).num):RL V r l.1 l.2.1 l.2.2:=by
 simpa [Rat.num_intCast] using h
theorem c_Iv_Has {V:View} {v w:Value} {s:Sp} {t:Rat} (h:RIv V v s) (ht:RR V w t) {k:Nat} (hs:s.sz k) (st:Sz k t) (hk:2 * k < 1099511627776) :
  Acts prog 95 #[v,w] V fun r V'=>r=.bool (s.has t):=by
 have ht0:=ht
 obtain ⟨x1,x2,p,y1,y2,q,rfl,h1,h2⟩:=h
 obtain ⟨t0,t1,t2,rfl⟩:=ht.shape
 refine vc_geo_Iv_Has x1 x2 p y1 y2 q s.a s.b t0 t1 t2 V _ ⟨fun ha=>⟨fun hb V1 l1=>by simp [Sp.has,ha,hb],fun hb V2 l2=>(c_R_Cmp (h2.le l2) (ht0.le l2) hs.2 st (by omega)).mono ?_⟩,fun ha V5 l5=>(c_R_Cmp (h1.le l5) (ht0.le l5) hs.1 st (by omega)).mono ?_⟩
 ·rintro r V3 l3 rfl
  exact ⟨_,rfl,fun V4 l4=>by simp [Sp.has,ha,hb]⟩
 ·rintro r V6 l6 rfl
  refine ⟨_,rfl,fun hc=>⟨fun hb V7 l7=>by simp [Sp.has,ha,hb,of_decide_eq_true hc],fun hb V8 l8=>(c_R_Cmp (h2.le (l5.trans (l6.trans l8))) (ht0.le (l5.trans (l6.trans l8))) hs.2 st (by omega)).mono ?_⟩,fun hc V11 l11=>by simp [Sp.has,ha,of_decide_eq_false hc]⟩
  rintro r V9 l9 rfl
  exact ⟨_,rfl,fun V10 l10=>by simp [Sp.has,ha,hb,of_decide_eq_true hc]⟩
end Go.Proofs.Tryz
/- Contracts: the reference's spans and fragments: written, compared, a number's class, Has. -/
namespace Go.Proofs.Tryz
open Go.Eng Go.Big
theorem c_zero_true {V:View} {v:Value} (h:RRw V v false [] []):Acts prog 102 #[v] V fun r V'=>r=.bool true:=by
 obtain ⟨p,n,c,q,m,e,rfl,hx,hy⟩:=h
 obtain rfl:=hx.len
 obtain rfl:=hy.len
 exact vc_ref06_zero false p _ c q _ e V _ ⟨fun _=>⟨fun _ V1 l1=>rfl,(fun h=>nomatch h)⟩,(fun h=>nomatch h)⟩
theorem c_ref06_Same {V:View} {v w:Value} {s:Sp} (h:RSp V v s) (h':RSp V w s) {k:Nat} (hs:s.sz k) (hk:k<=1099511627776) :
  Acts prog 68 #[v,w] V fun r V'=>r=.bool true:=by
 obtain ⟨lo,hi,a,b⟩:=s
 obtain ⟨b1,p,n,c,p',n',c',d,q,m,e,q',m',e',rfl,h1,h2⟩:=h
 obtain ⟨b2,i,j,t,i',j',t',f,o,u,g,o',u',g',rfl,h3,h4⟩:=h'
 dsimp only at h1 h2 h3 h4 ⊢
 refine vc_ref06_Same _ _ _ _ _ _ _ _ _ _ _ _ _ _ _ _ _ _ _ _ _ _ _ _ _ _ _ _ _ _ _ _ V _ ⟨fun _=>⟨fun _=>?_,(by intro h; simp at h)⟩,(by intro h; simp at h)⟩
 have tl:∀V4:View,V.Le V4->b=true->Acts prog 102 #[.agg #[.bool d,.slice q m e,.slice q' m' e']] V4 fun r V'=>r=.bool true:=fun V4 l4 hb=>c_zero_true ((h2.1 hb).le l4)
 have tl':∀V4:View,V.Le V4->b=true->Acts prog 102 #[.agg #[.bool f,.slice o u g,.slice o' u' g']] V4 fun r V'=>r=.bool true:=fun V4 l4 hb=>c_zero_true ((h4.1 hb).le l4)
 have tq:∀V4:View,V.Le V4->b=false->Acts prog 37 #[.agg #[.bool d,.slice q m e,.slice q' m' e'],.agg #[.bool f,.slice o u g,.slice o' u' g']] V4 fun r V'=>r=.bool true:=fun V4 l4 hb=>(c_ref01_SameQ ((h2.2 hb).le l4) ((h4.2 hb).le l4) hs.2 hk).mono fun r V5 _ h=>by rw [h]; simp
 cases a with
 | true=>
  refine ⟨fun _ V1 l1=>(c_zero_true ((h1.1 rfl).le l1)).mono ?_,(fun h=>nomatch h)⟩
  rintro r V2 l2 rfl
  refine ⟨_,rfl,fun _ V3 l3=>(c_zero_true ((h3.1 rfl).le (l1.trans (l2.trans l3)))).mono ?_,(fun h=>nomatch h)⟩
  rintro r V4 l4 rfl
  have L:=l1.trans (l2.trans (l3.trans l4))
  refine ⟨_,rfl,fun _=>⟨fun hb V5 l5=>(tl V5 (L.trans l5) hb).mono ?_,fun hb=>⟨fun _ V5 l5=>(tq V5 (L.trans l5) hb).mono ?_,fun hb'=>by rw [hb] at hb'; cases hb'⟩⟩,(fun h=>nomatch h)⟩
  ·rintro r V6 l6 rfl
   refine ⟨_,rfl,fun _ V7 l7=>(tl' V7 (L.trans (l5.trans (l6.trans l7))) hb).mono ?_,(fun h=>nomatch h)⟩
   rintro r V8 l8 rfl
   exact ⟨_,rfl,fun _ V9 l9=>rfl,(fun h=>nomatch h)⟩
  ·rintro r V6 l6 rfl
   exact ⟨_,rfl,fun V7 l7=>rfl⟩
 | false=>
  refine ⟨(fun h=>nomatch h),fun _=>⟨fun _ V1 l1=>(c_ref01_SameQ ((h1.2 rfl).le l1) ((h3.2 rfl).le l1) hs.1 hk).mono ?_,(fun h=>nomatch h)⟩⟩
  rintro r V4 l4 rfl
  have L:=l1.trans l4
  refine ⟨_,rfl,fun _=>⟨fun hb V5 l5=>(tl V5 (L.trans l5) hb).mono ?_,fun hb=>⟨fun _ V5 l5=>(tq V5 (L.trans l5) hb).mono ?_,fun hb'=>by rw [hb] at hb'; cases hb'⟩⟩,(by intro h; simp at h)⟩
  ·rintro r V6 l6 rfl
   refine ⟨_,rfl,fun _ V7 l7=>(tl' V7 (L.trans (l5.trans (l6.trans l7))) hb).mono ?_,(fun h=>nomatch h)⟩
   rintro r V8 l8 rfl
   exact ⟨_,rfl,fun _ V9 l9=>rfl,(fun h=>nomatch h)⟩
  ·rintro r V6 l6 rfl
   exact ⟨_,rfl,fun V7 l7=>rfl⟩
theorem SzL.digs {k:Nat} {l:L3} (h:SzL k l) (hk:k<=1099511627776):(digs l.1.natAbs).length<=1099511627776/\(digs l.2.1.natAbs).length<=1099511627776/\(digs l.2.2.natAbs).length<=1099511627776:=by
 have d1:=digs_len_bits (show l.1.natAbs < 2 ^ k from h.1.1)
 have d2:=digs_len_bits (show l.2.1.natAbs < 2 ^ k from h.2.1.1)
 have d3:=digs_len_bits (show l.2.2.natAbs < 2 ^ k from h.2.2.1)
 exact ⟨by omega,by omega,by omega⟩
/-- A fragment that lies at an address; a list of fragments. -/
def FAt (V:View) (ad:Addr) (l:L3) (s:Sp):Prop:=∃xs:List Value,RFa V (.agg xs.toArray) l s/\∀i x,xs[i]?=some x->V.at (ad.add i) x
theorem FAt.le {V V':View} {ad:Addr} {l:L3} {s:Sp} (h:FAt V ad l s) (e:V.Le V'):FAt V' ad l s:=by
 obtain ⟨xs,h1,h2⟩:=h; exact ⟨xs,h1.le e,fun i x hx=>e.at (h2 i x hx)⟩
structure RFas (V:View) (p:OA) (n:Nat) (fs:List (L3 × Sp)):Prop where
 len:n=fs.length
 at_:∀(i:Nat) (h:i < fs.length),∃ad,addrAdd p (i * 14)=some ad/\FAt V ad fs[i].1 fs[i].2
theorem RFas.le {V V':View} {p:OA} {n:Nat} {fs:List (L3 × Sp)} (h:RFas V p n fs) (e:V.Le V'):RFas V' p n fs:=⟨h.len,fun i hi=>by obtain ⟨ad,h1,h2⟩:=h.at_ i hi; exact ⟨ad,h1,h2.le e⟩⟩
theorem isSome_addr {p:OA} {j:Nat} {ad:Addr} (h:addrAdd p j=some ad):p.isSome=true:=by
 cases p with
 | none=>cases h
 | some a=>rfl
/-- A span that lies at an address; a list of spans. -/
def SAt (V:View) (ad:Addr) (s:Sp):Prop:=∃xs:List Value,RSs V (.agg xs.toArray) s/\∀i x,xs[i]?=some x->V.at (ad.add i) x
theorem SAt.le {V V':View} {ad:Addr} {s:Sp} (h:SAt V ad s) (e:V.Le V'):SAt V' ad s:=by
 obtain ⟨xs,h1,h2⟩:=h; exact ⟨xs,h1.le e,fun i x hx=>e.at (h2 i x hx)⟩
structure RSl (V:View) (p:OA) (n:Nat) (ss:List Sp):Prop where
 len:n=ss.length
 at_:∀(i:Nat) (h:i < ss.length),∃ad,addrAdd p (i * 8)=some ad/\SAt V ad ss[i]
theorem RSl.le {V V':View} {p:OA} {n:Nat} {ss:List Sp} (h:RSl V p n ss) (e:V.Le V'):RSl V' p n ss:=⟨h.len,fun i hi=>by obtain ⟨ad,h1,h2⟩:=h.at_ i hi; exact ⟨ad,h1,h2.le e⟩⟩
/-- The class of a number: by how it lies to both ends. -/
def clsV (a b:Int):Int:=if 0 < a/\b < 0 then 2 else if (a=0/\b<=0) \/ (b=0/\0<=a) then 1 else 0
def Sp.la (s:Sp) (t:Rat):Int:=if s.a then 1 else cmpQ t s.lo
def Sp.lb (s:Sp) (t:Rat):Int:=if s.b then -1 else cmpQ t s.hi
def clsL:List Sp->Rat->Int
 | [],_=>0
 | s :: r,t=>if clsV (s.la t) (s.lb t)≠0 then clsV (s.la t) (s.lb t) else clsL r t
theorem c_ref06_Class {V:View} {p:OA} {n c:Nat} {v:Value} {ss:List Sp} {t:Rat} (hl:RSl V p n ss) (ht:RQ V v t) {k:Nat} (hs:∀s ∈ ss,s.sz k) (st:Sz k t) (hk:2 * k < 274877906944) (hn:ss.length < 4611686018427387904) :
  Acts prog 36 #[.slice p n c,v] V fun r V'=>r=.int .i64 (clsL ss t):=by
 obtain rfl:=hl.len
 have ht0:=ht
 obtain ⟨_,_,_,_,_,_,rfl⟩:=ht.shape
 refine vc_ref06_Class p _ c _ _ _ _ _ _ _ V _ ⟨fun z V'=>0<=z/\z<=ss.length/\clsL ss t=clsL (ss.drop z.toNat) t,fun z=>(ss.length - z).toNat,⟨0,by and_intros <;> rfl,by omega,by omega,rfl⟩,?_⟩
 rintro z V1 l1 ⟨z0,z1,z2⟩
 refine ⟨rfl,fun hz=>?_,fun hz V12 l12=>?_⟩
 ·have hz:z < ss.length:=of_decide_eq_true hz
  obtain ⟨i,rfl⟩:∃i:Nat,z=i:=⟨z.toNat,by omega⟩
  have hi:i < ss.length:=by omega
  rw [Int.toNat_natCast] at z2 ⊢
  have w:i64.wrap ((i:Int) + 1)=(i:Int) + 1:=i64w (by omega)
  rw [w]
  have si:=hs _ (List.getElem_mem hi)
  obtain ⟨ad,ha,xs,⟨bb,pp,nn,cc,pp',nn',cc',dd,qq,mm,ee,qq',mm',ee',ex,h1,h2⟩,hx⟩:=(hl.le l1).at_ i hi
  have ex:=congrArg Array.toList (Value.agg.inj ex)
  dsimp only at ex
  subst ex
  rw [List.drop_eq_getElem_cons hi] at z2
  generalize ss[i]=s at *
  simp only [clsL] at z2
  refine ⟨isSome_addr ha,⟨by omega,hz⟩,_,_,_,_,_,_,_,_,_,_,_,_,_,_,s.a,s.b,ad,by rw [ha],hx 0 _ rfl,hx 1 _ rfl,hx 2 _ rfl,hx 3 _ rfl,hx 4 _ rfl,hx 5 _ rfl,hx 6 _ rfl,hx 7 _ rfl,fun z _=>z=s.la t,⟨fun h V2 l2=>(c_num_C (ht0.le (l1.trans l2)) (h1.le l2) st si.1 (by omega)).mono ?_,fun h=>⟨1,by and_intros <;> rfl,?_⟩⟩,?_⟩
  ·rintro r V3 l3 rfl
   exact ⟨_,rfl,_,by and_intros <;> rfl,by unfold Sp.la; rw [Bool.not_eq_true'] at h; rw [h]; rfl⟩
  ·unfold Sp.la; rw [Bool.not_eq_false'] at h; rw [h]; rfl
  rintro za V4 l4 rfl
  refine ⟨rfl,fun z _=>z=s.lb t,⟨fun h V5 l5=>(c_num_C (ht0.le (l1.trans (l4.trans l5))) (h2.le (l4.trans l5)) st si.2 (by omega)).mono ?_,fun h=>⟨-1,by and_intros <;> rfl,?_⟩⟩,?_⟩
  ·rintro r V6 l6 rfl
   exact ⟨_,rfl,_,by and_intros <;> rfl,by unfold Sp.lb; rw [Bool.not_eq_true'] at h; rw [h]; rfl⟩
  ·unfold Sp.lb; rw [Bool.not_eq_false'] at h; rw [h]; rfl
  rintro zb V7 l7 rfl
  generalize s.la t=a at *
  generalize s.lb t=b at *
  refine ⟨rfl,fun z _=>z=decide (0 < a/\b < 0),⟨fun h=>⟨_,by and_intros <;> rfl,?_⟩,fun h=>⟨_,by and_intros <;> rfl,?_⟩⟩,?_⟩
  ·have h:0 < a:=of_decide_eq_true h
   simp [h]
  ·have h:¬ 0 < a:=of_decide_eq_false h
   simp [h]
  rintro z9 V8 l8 rfl
  refine ⟨rfl,fun h V9 l9=>?_,fun h=>⟨fun z _=>z=decide ((a=0/\b<=0) \/ (b=0/\0<=a)),⟨fun ha=>⟨fun hb=>⟨_,by and_intros <;> rfl,?_⟩,fun hb=>⟨fun hc=>⟨_,by and_intros <;> rfl,?_⟩,fun hc=>⟨_,by and_intros <;> rfl,?_⟩⟩⟩,fun ha=>⟨fun hc=>⟨_,by and_intros <;> rfl,?_⟩,fun hc=>⟨_,by and_intros <;> rfl,?_⟩⟩⟩,?_⟩⟩
  ·have h:=of_decide_eq_true h
   rw [z2]
   simp [clsV,h]
  ·simp at ha hb; simp [ha,hb]
  ·simp at ha hb hc; simp [ha,hc]
  ·simp at ha hb hc; simp [ha,hc]; omega
  ·simp at ha hc; simp [ha,hc]
  ·simp at ha hc; simp [ha,hc]
  rintro z11 V10 l10 rfl
  have h:=of_decide_eq_false h
  refine ⟨rfl,fun h' V11 l11=>?_,fun h'=>⟨(i:Int) + 1,by dsimp only; omega,by and_intros <;> rfl,by omega,by omega,?_⟩⟩
  ·have h':=of_decide_eq_true h'
   rw [z2]
   have:clsV a b=1:=by unfold clsV; rw [if_neg h,if_pos h']
   rw [this]; rfl
  ·have h':=of_decide_eq_false h'
   have:clsV a b=0:=by unfold clsV; rw [if_neg h,if_neg h']
   rw [z2,this]
   show _=clsL (ss.drop ((i:Int) + 1).toNat) t
   rw [show ((i:Int) + 1).toNat=i + 1 from by omega]
   rfl
 ·have hz:¬ z < ss.length:=of_decide_eq_false hz
  rw [z2,show z.toNat=ss.length from by omega,List.drop_length]
  rfl
theorem cmpQ_swap (x y:Rat):cmpQ y x=- cmpQ x y:=by
 unfold cmpQ
 rw [show y - x=-(x - y) from by grind]
 exact Int.sign_neg _
end Go.Proofs.Tryz
