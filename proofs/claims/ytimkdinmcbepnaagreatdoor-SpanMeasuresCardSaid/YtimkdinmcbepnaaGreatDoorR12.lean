/- A part of the proof (joined by program from: NumJ, VRef, RefA, RefB, RefC, VGeo, GeoA, GeoB, GeoC, VLine, PtA, VRefF, NumK, RefD, RefE, PtB, TreeP, LineA, VScene, SceneA, LineP, LineQ, SceneB, VSceneF, SceneD, VFrag, RefG, FrA, FrB, FrC, SideP). -/
import Derived.Test.YtimkdinmcbepnaaGreatDoorR11
import Derived.Test.YtimkdinmcbepnaaGreatDoorR9
import Derived.Test.YtimkdinmcbepnaaGreatDoorR5
set_option linter.unusedVariables false
open Go.IntKind (i64 u64 u32)
/- Contracts of the reference's rational numbers: Plus, Sub, Times, C. -/
namespace Go.Proofs.Tryz
open Go.Eng Go.Big
theorem c_num_pos {V:View} {p:OA} {n c x:Nat} (h:RN V p n c x) :
  Acts prog 82 #[.bool false,.slice p n c] V fun r V'=>RI V' r (x:Int):=by
 have:=c_num_Make false h
 rwa [if_neg (by decide)] at this
theorem den_one_len {x:Rat} {k:Nat} (h:Sz k x):(digs x.num.natAbs).length<=k/\(digs x.den).length<=k/\(digs (x.den:Int).natAbs).length<=k:=⟨digs_len_bits h.1,digs_len_bits h.2,digs_len_bits h.2⟩
theorem c_num_Plus {V:View} {v w:Value} {x y:Rat} (hx:RQ V v x) (hy:RQ V w y) {k m:Nat} (hk:Sz k x) (hm:Sz m y) (hkm:k + m < 274877906944) :
  Acts prog 23 #[v,w] V fun r V'=>RQ V' r (x + y):=by
 obtain ⟨p,n,c,p',n',c',rfl,hx1,hx2⟩:=hx
 obtain ⟨q,i,e,q',i',e',rfl,hy1,hy2⟩:=hy
 have hlx:=dend_len hx2
 have hly:=dend_len hy2
 obtain ⟨b1,b2,b3,b4⟩:=add_bits hk hm
 obtain ⟨d1,d2,d3⟩:=den_one_len hk
 obtain ⟨d4,d5,d6⟩:=den_one_len hm
 have hxy:x + y=mkRat (x.num * y.den + y.num * x.den) (x.den * y.den):=Rat.add_def' x y
 refine (fun tail=>vc_num_Plus _ p n c p' n' c' _ q i e q' i' e' V _ ⟨fun h0=>⟨fun h1 V1 l1=>?_,fun _=>tail⟩,fun _=>tail⟩) ?_
 ·clear tail
  have h0:x.den=1:=hlx.1 (by simp at h0; omega)
  have h1:y.den=1:=hly.1 (by simp at h1; omega)
  refine (c_num_Add x.num y.num (hx1.le l1) (hy1.le l1) (by omega) (by omega)).mono ?_
  rintro r V2 l2 ⟨p2,n2,c2,rfl,g⟩
  have e1:x + y=((x.num + y.num:Int):Rat):=by
   rw [hxy,h0,h1]; simp [Rat.mkRat_one]
  rw [e1]
  exact ⟨_,_,_,_,rfl,fun V3 l3=>rq_of (z:=x.num + y.num) (d:=1) rfl rfl (g.le l3) RD.nil rfl⟩
 ·intro V1 l1
  refine (c_num_Den y _ (hy2.le l1)).mono ?_
  rintro r V2 l2 ⟨p1,n1,c1,rfl,g1⟩
  refine ⟨_,_,_,rfl,fun V3 l3=>(c_num_pos (g1.le l3)).mono ?_⟩
  rintro r V4 l4 ⟨p3,n3,c3,rfl,g3⟩
  have l04:=l1.trans (l2.trans (l3.trans l4))
  refine ⟨_,_,_,_,rfl,fun V5 l5=>(c_num_Mul x.num y.den (hx1.le (l04.trans l5)) (g3.le l5) (by omega)).mono ?_⟩
  rintro r V6 l6 ⟨p5,n5,c5,rfl,g5⟩
  have l06:=l04.trans (l5.trans l6)
  refine ⟨_,_,_,_,rfl,fun V7 l7=>(c_num_Den x _ (hx2.le (l06.trans l7))).mono ?_⟩
  rintro r V8 l8 ⟨p7,n7,c7,rfl,g7⟩
  have l08:=l06.trans (l7.trans l8)
  refine ⟨_,_,_,rfl,fun V9 l9=>(c_num_pos (g7.le l9)).mono ?_⟩
  rintro r V10 l10 ⟨p9,n9,c9,rfl,g9⟩
  have l10':=l08.trans (l9.trans l10)
  refine ⟨_,_,_,_,rfl,fun V11 l11=>(c_num_Mul y.num x.den (hy1.le (l10'.trans l11)) (g9.le l11) (by omega)).mono ?_⟩
  rintro r V12 l12 ⟨p11,n11,c11,rfl,g11⟩
  have l012:=l10'.trans (l11.trans l12)
  refine ⟨_,_,_,_,rfl,fun V13 l13=>(c_num_Add _ _ (g5.le (l7.trans (l8.trans (l9.trans (l10.trans (l11.trans (l12.trans l13))))))) (g11.le l13) (Nat.le_trans (digs_len_bits b1) (by omega)) (Nat.le_trans (digs_len_bits b2) (by omega))).mono ?_⟩
  rintro r V14 l14 ⟨p13,n13,c13,rfl,g13⟩
  have l014:=l012.trans (l13.trans l14)
  refine ⟨_,_,_,_,rfl,fun V15 l15=>(c_num_Den x _ (hx2.le (l014.trans l15))).mono ?_⟩
  rintro r V16 l16 ⟨p15,n15,c15,rfl,g15⟩
  have l016:=l014.trans (l15.trans l16)
  refine ⟨_,_,_,rfl,fun V17 l17=>(c_num_Den y _ (hy2.le (l016.trans l17))).mono ?_⟩
  rintro r V18 l18 ⟨p17,n17,c17,rfl,g17⟩
  refine ⟨_,_,_,rfl,fun V19 l19=>(c_num_Product (g15.le (l17.trans (l18.trans l19))) (g17.le l19) (by omega)).mono ?_⟩
  rintro r V20 l20 ⟨p19,n19,c19,rfl,g19⟩
  rw [val_digs,val_digs] at g19
  refine ⟨_,_,_,rfl,fun V21 l21=>(c_num_Frac _ (g13.le (l15.trans (l16.trans (l17.trans (l18.trans (l19.trans (l20.trans l21))))))) (g19.le l21) (Nat.le_trans (digs_len_bits b3) (by omega)) (Nat.le_trans (digs_len_bits b4) (by omega)) (Nat.mul_ne_zero x.den_nz y.den_nz)).mono ?_⟩
  rw [hxy]
  rintro r V22 l22 ⟨p21,n21,c21,p22,n22,c22,rfl,g21,g22⟩
  exact ⟨_,_,_,_,_,_,_,rfl,fun V23 l23=>⟨_,_,_,_,_,_,rfl,g21.le l23,g22.le l23⟩⟩
theorem c_num_Sub {V:View} {v w:Value} {x y:Rat} (hx:RQ V v x) (hy:RQ V w y) {k m:Nat} (hk:Sz k x) (hm:Sz m y) (hkm:k + m < 274877906944) :
  Acts prog 78 #[v,w] V fun r V'=>RQ V' r (x - y):=by
 have hx0:=hx
 obtain ⟨p,n,c,p',n',c',rfl,hx1,hx2⟩:=hx
 obtain ⟨q,i,e,q',i',e',rfl,hy1,hy2⟩:=hy
 refine vc_num_Sub _ p n c p' n' c' _ q i e q' i' e' V _ fun V1 l1=>(c_num_Opp y (hy1.le l1) (hy2.le l1)).mono ?_
 rintro r V2 l2 h2
 obtain ⟨p1,n1,c1,p2,n2,c2,rfl,g1,g2⟩:=id h2
 refine ⟨_,_,_,_,_,_,_,rfl,fun V3 l3=>(c_num_Plus (hx0.le (l1.trans (l2.trans l3))) (h2.le l3) hk hm.neg hkm).mono ?_⟩
 rw [← Rat.sub_eq_add_neg]
 rintro r V4 l4 ⟨p3,n3,c3,p4,n4,c4,rfl,g3,g4⟩
 exact ⟨_,_,_,_,_,_,_,rfl,fun V5 l5=>⟨_,_,_,_,_,_,rfl,g3.le l5,g4.le l5⟩⟩
theorem c_num_C {V:View} {v w:Value} {x y:Rat} (hx:RQ V v x) (hy:RQ V w y) {k m:Nat} (hk:Sz k x) (hm:Sz m y) (hkm:k + m < 274877906944) :
  Acts prog 22 #[v,w] V fun r V'=>r=.int .i64 (cmpQ x y):=by
 have hx0:=hx
 have hy0:=hy
 obtain ⟨p,n,c,p',n',c',rfl,hx1,hx2⟩:=hx
 obtain ⟨q,i,e,q',i',e',rfl,hy1,hy2⟩:=hy
 refine vc_num_C _ p n c p' n' c' _ q i e q' i' e' V _ fun V1 l1=>(c_num_Sub (hx0.le l1) (hy0.le l1) hk hm hkm).mono ?_
 rintro r V2 l2 ⟨p1,n1,c1,p2,n2,c2,rfl,g1,g2⟩
 refine ⟨_,_,_,_,_,_,_,rfl,fun V3 l3=>(c_num_S (x - y) (g1.le l3)).mono ?_⟩
 rintro r V4 l4 rfl
 exact ⟨_,rfl,fun V5 l5=>rfl⟩
end Go.Proofs.Tryz
/- By program: the conditions of the functions, from their loaded code. -/
namespace Go.Proofs.Tryz
open Go.Eng
open Go.Value renaming int→I,pointer→P,slice→S,agg→A,bool→B,tuple→T
open Go.IntKind renaming i64→J,u64→U,u32→W
set_option maxRecDepth 100000
theorem vc_ref01_ToN (e:OA) (a i:Nat) (V:View) (R:VR) (h:(∃b:List Value,V.sl e b/\b.length=a * 1/\((0 + a) * 4<=140737488355328/\0<=0/\0 * 1<=([]:List Value).length/\b.length=a * 1/\(∀k ∈ b,k.oneCell'=true)/\∀(l:Nat) (m:C->Value) (f:List Value) (c:Nat),0 + a<=c->c * 1<=(0 + a) * 1 + f.length->(∀d,V.Le d->∀g:Nat,(d.blk g (.cells (([]:List Value).take (0 * 1)++b++f).toArray 221 (0,0)))->R (S (some ⟨g,0,none⟩) (0 + a) c) d)))):
 Acts prog 91 #[S e a i] V R:=
 fd (LF:=LF0) (RF:=[1000010]) [] [] func91 h
theorem vc_ref01_ToI (a:Bool) (b:OA) (c d:Nat) (V:View) (R:VR) (h:(Ca V 91 #[S b c d] fun k l=>∃e f g,k=S e f g/\(Rt l R (A #[B a,S e f g])))):
 Acts prog 90 #[A #[B a,S b c d]] V R:=
 fd (LF:=LF0) (RF:=[1000010]) [] [] func90 h
theorem vc_ref01_SameN (f:OA) (b i:Nat) (g:OA) (e k:Nat) (V:View) (R:VR) (h:((((b:Int) != (e:Int))=true->(Rt V R (B false)))/\(((b:Int) != (e:Int))=false->(∃(l:Int->VP) (q:Int->Nat),(∃r:Int,(s7 f b i g e k (b:Int) (((0:Int)=r)))/\l r V)/\∀(a:Int) (d:View),V.Le d->l a d->(true=true/\(((decide (a < (b:Int)))=true->(f.isSome=true)/\(0<=a/\a < (b:Int))/\(∃m,(∃s,addrAdd f (a.toNat * 1)=some s/\d.at s (I W m))/\(g.isSome=true)/\(0<=a/\a < (e:Int))/\(∃n,(∃t,addrAdd g (a.toNat * 1)=some t/\d.at t (I W n))/\(((m != n)=true->(Rt d R (B false)))/\((m != n)=false->(∃o:Int,q o < q a/\(s7 f b i g e k (b:Int) (((J.wrap (a + (1:Int)))=o)))/\l o d))))))/\((decide (a < (b:Int)))=false->(Rt d R (B true))))))))):
 Acts prog 98 #[S f b i,S g e k] V R:=
 fd (LF:=LF0) (RF:=[1000010]) [(4,⟨Int,false,[0,1,12],[],fun x=>[(13,.c (.v (I J x)))],fun x=>[]⟩)] [] func98 h
theorem vc_ref01_SameI (a:Bool) (c:OA) (d e:Nat) (b:Bool) (f:OA) (g i:Nat) (V:View) (R:VR) (h:(((a == b)=true->(Ca V 98 #[S c d e,S f g i] fun n o=>∃k,n=B k/\(Rt o R (B k))))/\((a == b)=false->(Rt V R (B false))))):
 Acts prog 97 #[A #[B a,S c d e],A #[B b,S f g i]] V R:=
 fd (LF:=LF0) (RF:=[1000010]) [] [] func97 h
end Go.Proofs.Tryz
/- Contracts of the references 01 and 04: ToN, ToI, SameN, SameI, points. -/
namespace Go.Eng
open Go.Big
/-- A point of the reference. -/
def RP (V:View) (v:Value) (x y:Rat):Prop:=∃p n c p' n' c' q m e q' m' e',v=.agg #[.bool (decide (x.num < 0)),.slice p n c,.slice p' n' c',.bool (decide (y.num < 0)),.slice q m e,.slice q' m' e'] /\
 RQ V (.agg #[.bool (decide (x.num < 0)),.slice p n c,.slice p' n' c']) x/\RQ V (.agg #[.bool (decide (y.num < 0)),.slice q m e,.slice q' m' e']) y
theorem RP.le {V V':View} {v:Value} {x y:Rat} (h:RP V v x y) (l:V.Le V'):RP V' v x y:=by
 obtain ⟨p,n,c,p',n',c',q,m,e,q',m',e',rfl,h1,h2⟩:=h
 exact ⟨p,n,c,p',n',c',q,m,e,q',m',e',rfl,h1.le l,h2.le l⟩
theorem RQ.shape {V:View} {v:Value} {q:Rat} (h:RQ V v q):∃p n c p' n' c',v=.agg #[.bool (decide (q.num < 0)),.slice p n c,.slice p' n' c']:=by
 obtain ⟨p,n,c,p',n',c',e,-⟩:=h; exact ⟨_,_,_,_,_,_,e⟩
end Go.Eng
namespace Go.Proofs.Tryz
open Go.Eng Go.Big
theorem c_ref01_ToN {V:View} {p:OA} {n c:Nat} {ds:List Nat} (h:RD V p n c ds) (hm:ds.length<=1099511627776) :
  Acts prog 91 #[.slice p n c] V fun r V'=>∃p1 n1 c1,r=.slice p1 n1 c1/\RD V' p1 n1 c1 ds:=by
 have hl:=h.len
 refine vc_ref01_ToN p n c V _ ⟨u32s ds,h.sl,by simp [hl],by omega,by omega,by simp,by simp [hl],?_,?_⟩
 ·intro v hv
  simp only [u32s,List.mem_map] at hv
  obtain ⟨d,-,rfl⟩:=hv
  rfl
 ·intro bk J sp c' h1 h2 V1 l1 b hb
  refine ⟨_,_,_,rfl,?_⟩
  simp only [Nat.zero_add,Nat.zero_mul,List.take_zero,List.nil_append] at hb h1 ⊢
  exact copied h.dig hl h1 hb
theorem c_ref01_ToI {V:View} {v:Value} {z:Int} (h:RI V v z) (hm:(digs z.natAbs).length<=1099511627776) :
  Acts prog 90 #[v] V fun r V'=>RI V' r z:=by
 obtain ⟨p,n,c,rfl,h⟩:=h
 refine vc_ref01_ToI _ p n c V _ fun V1 l1=>(c_ref01_ToN (h.le l1) hm).mono ?_
 rintro r V2 l2 ⟨p1,n1,c1,rfl,g⟩
 exact ⟨_,_,_,rfl,fun V3 l3=>⟨_,_,_,rfl,g.le l3⟩⟩
end Go.Proofs.Tryz
/- Contracts of the references 01 and 04: SameN, SameI, lines. -/
namespace Go.Eng
open Go.Big
/-- A line with integer coefficients, of the reference or of package api. -/
def RL (V:View) (v:Value) (a b c:Int):Prop:=∃p n s p' n' s' q m e,v=.agg #[.bool (decide (a < 0)),.slice p n s,.bool (decide (b < 0)),.slice p' n' s',.bool (decide (c < 0)),.slice q m e] /\
 RD V p n s (digs a.natAbs)/\RD V p' n' s' (digs b.natAbs)/\RD V q m e (digs c.natAbs)
theorem RL.le {V V':View} {v:Value} {a b c:Int} (h:RL V v a b c) (l:V.Le V'):RL V' v a b c:=by
 obtain ⟨p,n,s,p',n',s',q,m,e,rfl,h1,h2,h3⟩:=h
 exact ⟨p,n,s,p',n',s',q,m,e,rfl,h1.le l,h2.le l,h3.le l⟩
end Go.Eng
namespace Go.Proofs.Tryz
open Go.Eng Go.Big
theorem c_ref01_SameN {V:View} {p q:OA} {n c m e:Nat} {xs ys:List Nat} (hx:RD V p n c xs) (hy:RD V q m e ys) (hm:xs.length<=1099511627776) :
  Acts prog 98 #[.slice p n c,.slice q m e] V fun r V'=>r=.bool (decide (xs=ys)):=by
 have hlx:=hx.len
 have hly:=hy.len
 refine vc_ref01_SameN p n c q m e V _ ⟨fun h0 V1 l1=>?_,fun h0=>?_⟩
 ·have h0:n≠m:=by simp at h0; omega
  rw [decide_eq_false fun h=>h0 (by rw [hlx,hly,h])]
 ·have h0:n=m:=by simp at h0; omega
  refine ⟨fun z V'=>0<=z/\z<=n/\xs.take z.toNat=ys.take z.toNat,fun z=>n - z.toNat,⟨0,by (try dsimp only); and_intros <;> first | exact True.intro | rfl,by (try dsimp only); omega,by (try dsimp only); omega,rfl⟩,?_⟩
  rintro i V2 l2 ⟨hi0,hi1,ht⟩
  dsimp only at hi1 ht ⊢
  obtain ⟨i,rfl⟩:=Int.eq_ofNat_of_zero_le hi0
  simp only [Int.toNat_natCast] at ht
  refine ⟨by trivial,fun h3=>?_,fun h3 V4 l4=>?_⟩
  ·have h3:i < n:=by simpa using h3
   refine (hx.le l2).rd i rfl (by omega) ((hy.le l2).rd i rfl (by omega) ⟨fun h4 V8 l8=>?_,fun h4=>?_⟩)
   ·have h4:xs[i]≠ys[i]:=by simp at h4; omega
    rw [decide_eq_false fun h=>h4 (by subst h; rfl)]
   ·have h4:xs[i]=ys[i]:=by simp at h4; omega
    have w:i64.wrap ((i:Int) + 1)=((i + 1:Nat):Int):=by rw [i64w (by omega)]; omega
    simp only [w]
    refine ⟨((i + 1:Nat):Int),?_,by (try dsimp only); and_intros <;> first | exact True.intro | rfl,by (try dsimp only); omega,by (try dsimp only); omega,?_⟩
    ·(try dsimp only); omega
    ·(try dsimp only)
     simp only [Int.toNat_natCast]
     rw [List.take_succ_eq_append_getElem (by omega),List.take_succ_eq_append_getElem (l:=ys) (by omega),ht,h4]
  ·have h3:i=n:=by simp at h3; omega
   rw [List.take_of_length_le (by omega),List.take_of_length_le (by omega)] at ht
   rw [decide_eq_true ht]
theorem same_int {z w:Int}:(decide (z < 0) == decide (w < 0))=true->(decide (digs z.natAbs=digs w.natAbs)=decide (z=w)):=by
 intro h
 have h1:(z < 0↔w < 0):=by simpa using h
 rw [Bool.eq_iff_iff,decide_eq_true_eq,decide_eq_true_eq]
 constructor
 ·intro h2
  have:=digs_inj h2
  omega
 ·intro h2; rw [h2]
theorem c_ref01_SameI {V:View} {z w:Int} {p q:OA} {n c m e:Nat} (hx:RD V p n c (digs z.natAbs)) (hy:RD V q m e (digs w.natAbs)) (hm:(digs z.natAbs).length<=1099511627776) :
  Acts prog 97 #[.agg #[.bool (decide (z < 0)),.slice p n c],.agg #[.bool (decide (w < 0)),.slice q m e]] V fun r V'=>r=.bool (decide (z=w)):=by
 refine vc_ref01_SameI _ p n c _ q m e V _ ⟨fun h0 V1 l1=>(c_ref01_SameN (hx.le l1) (hy.le l1) hm).mono ?_,fun h0 V1 l1=>?_⟩
 ·rintro r V2 l2 rfl
  refine ⟨_,rfl,fun V3 l3=>?_⟩
  rw [same_int h0]
 ·rw [decide_eq_false fun h=>by subst h; simp at h0]
end Go.Proofs.Tryz
/- Contracts of the reference 04: MakeL. -/
namespace Go.Proofs.Tryz
open Go.Eng Go.Big
/-- The greatest common divisor of three coefficients. -/
def gcd3 (a b c:Int):Nat:=Nat.gcd (Nat.gcd a.natAbs b.natAbs) c.natAbs
end Go.Proofs.Tryz
/- By program: the conditions of the functions, from their loaded code. -/
namespace Go.Proofs.Tryz
open Go.Eng
set_option maxRecDepth 100000
end Go.Proofs.Tryz
/- Contracts of package geo: lines. -/
namespace Go.Eng
open Go.Big
/-- A line of package geo. -/
def RLn (V:View) (v:Value) (a b c:Rat):Prop:=∃(x1 x2:Int) (p:OA) (y1 y2:Int) (q:OA) (z1 z2:Int) (r:OA),v=.agg #[.int .i64 x1,.int .i64 x2,.pointer p,.int .i64 y1,.int .i64 y2,.pointer q,.int .i64 z1,.int .i64 z2,.pointer r] /\
 RR V (.agg #[.int .i64 x1,.int .i64 x2,.pointer p]) a/\RR V (.agg #[.int .i64 y1,.int .i64 y2,.pointer q]) b/\RR V (.agg #[.int .i64 z1,.int .i64 z2,.pointer r]) c
theorem RLn.le {V V':View} {v:Value} {a b c:Rat} (h:RLn V v a b c) (l:V.Le V'):RLn V' v a b c:=by
 obtain ⟨x1,x2,p,y1,y2,q,z1,z2,r,rfl,h1,h2,h3⟩:=h
 exact ⟨x1,x2,p,y1,y2,q,z1,z2,r,rfl,h1.le l,h2.le l,h3.le l⟩
end Go.Eng
namespace Go.Proofs.Tryz
open Go.Eng Go.Big
end Go.Proofs.Tryz
/- Contracts of package geo: LnOf. -/
namespace Go.Proofs.Tryz
open Go.Eng Go.Big
/-- What LnOf decides. -/
def okLn (b1:Bool) (xs:List Nat) (b2:Bool) (ys:List Nat) (b3:Bool) (zs:List Nat):Bool:=
 NrmI b1 xs && NrmI b2 ys && NrmI b3 zs && !(decide ((ival b1 xs:Rat)=0) && decide ((ival b2 ys:Rat)=0)) && decide (gcdQ (gcdQ (ival b1 xs) (ival b2 ys)) (ival b3 zs)=((1:Int):Rat))
end Go.Proofs.Tryz
/- Contracts: cmp.Or; geo Cmp, Equal. -/
namespace Go.Proofs.Tryz
open Go.Eng Go.Big
end Go.Proofs.Tryz
/- By program: the conditions of the functions, from their loaded code. -/
namespace Go.Proofs.Tryz
open Go.Eng
set_option maxRecDepth 100000
end Go.Proofs.Tryz
/- Contracts of points and lines of package geo (printed by straight.py). -/
namespace Go.Proofs.Tryz
open Go.Eng Go.Big
/-- A point of package geo. -/
def RPt (V:View) (v:Value) (x y:Rat):Prop:=∃(x1 x2:Int) (p:OA) (y1 y2:Int) (q:OA),v=.agg #[.int .i64 x1,.int .i64 x2,.pointer p,.int .i64 y1,.int .i64 y2,.pointer q] /\
 RR V (.agg #[.int .i64 x1,.int .i64 x2,.pointer p]) x/\RR V (.agg #[.int .i64 y1,.int .i64 y2,.pointer q]) y
theorem RPt.le {V V':View} {v:Value} {x y:Rat} (h:RPt V v x y) (l:V.Le V'):RPt V' v x y:=by
 obtain ⟨x1,x2,p,y1,y2,q,e,h1,h2⟩:=h
 exact ⟨x1,x2,p,y1,y2,q,e,h1.le l,h2.le l⟩
end Go.Proofs.Tryz
/- By program: the conditions of the functions, from their loaded code. -/
namespace Go.Proofs.Tryz
open Go.Eng
open Go.Value renaming int→I,pointer→P,slice→S,agg→A,bool→B,tuple→T
open Go.IntKind renaming i64→J,u64→U,u32→W
set_option maxRecDepth 100000
theorem vc_ref01_ToQ (a:Bool) (b:OA) (c d:Nat) (e:OA) (f g:Nat) (V:View) (R:VR) (h:(Ca V 90 #[A #[B a,S b c d]] fun u w=>∃i,∃k l m,u=A #[B i,S k l m]/\(Ca w 83 #[A #[B a,S b c d,S e f g]] fun x y=>∃n o p,x=S n o p/\(Ca y 91 #[S n o p] fun z a0=>∃q r s,z=S q r s/\(Rt a0 R (A #[B i,S k l m,S q r s])))))):
 Acts prog 28 #[A #[B a,S b c d,S e f g]] V R:=
 fd (LF:=LF0) (RF:=[1000010]) [] [] func28 h
theorem vc_ref01_SameQ (b:Bool) (c:OA) (d e:Nat) (f:OA) (g i:Nat) (k:Bool) (l:OA) (m n:Nat) (o:OA) (p q:Nat) (V:View) (R:VR) (h:(Ca V 97 #[A #[B b,S c d e],A #[B k,S l m n]] fun w r=>∃a,w=B a/\((a=true->(Ca r 98 #[S f g i,S o p q] fun x y=>∃s,x=B s/\(Rt y R (B s))))/\(a=false->(Rt r R (B false)))))):
 Acts prog 37 #[A #[B b,S c d e,S f g i],A #[B k,S l m n,S o p q]] V R:=
 fd (LF:=LF0) (RF:=[1000010]) [] [] func37 h
theorem vc_ref06_Full (V:View) (R:VR) (h:(Rt V R (A #[B false,S none 0 0,S none 0 0,B false,S none 0 0,S none 0 0,B true,B true]))):
 Acts prog 27 #[] V R:=
 fd (LF:=LF0) (RF:=[1000010]) [] [] func27 h
theorem vc_ref06_zero (a:Bool) (g:OA) (b i:Nat) (k:OA) (c l:Nat) (V:View) (R:VR) (h:(((!a)=true->((((b:Int) == (0:Int))=true->(Rt V R (B ((c:Int) == (0:Int)))))/\(((b:Int) == (0:Int))=false->(Rt V R (B false)))))/\((!a)=false->(Rt V R (B false))))):
 Acts prog 102 #[A #[B a,S g b i,S k c l]] V R:=
 fd (LF:=LF0) (RF:=[1000010]) [] [] func102 h
theorem vc_ref06_Write (s:Bool) (t:OA) (u w:Nat) (x:OA) (y z:Nat) (c:Bool) (d:OA) (e f:Nat) (g:OA) (i k:Nat) (b a:Bool) (V:View) (R:VR) (h:(((!b)=true->(Ca V 28 #[A #[B s,S t u w,S x y z]] fun b9 a0=>∃l,∃m n o,∃p q r,b9=A #[B l,S m n o,S p q r]/\(((!a)=true->(Ca a0 28 #[A #[B c,S d e f,S g i k]] fun c0 c1=>∃a1,∃a2 a3 a4,∃a5 a6 a7,c0=A #[B a1,S a2 a3 a4,S a5 a6 a7]/\(Rt c1 R (A #[B l,S m n o,S p q r,B a1,S a2 a3 a4,S a5 a6 a7,B b,B a]))))/\((!a)=false->(Rt a0 R (A #[B l,S m n o,S p q r,B false,S none 0 0,S none 0 0,B b,B a]))))))/\((!b)=false->(((!a)=true->(Ca V 28 #[A #[B c,S d e f,S g i k]] fun c2 c3=>∃b0,∃b1 b2 b3,∃b4 b5 b6,c2=A #[B b0,S b1 b2 b3,S b4 b5 b6]/\(Rt c3 R (A #[B false,S none 0 0,S none 0 0,B b0,S b1 b2 b3,S b4 b5 b6,B b,B a]))))/\((!a)=false->(Rt V R (A #[B false,S none 0 0,S none 0 0,B false,S none 0 0,S none 0 0,B b,B a]))))))):
 Acts prog 59 #[A #[B s,S t u w,S x y z,B c,S d e f,S g i k,B b,B a]] V R:=
 fd (LF:=LF0) (RF:=[1000010]) [] [] func59 h
theorem vc_ref06_Same (s:Bool) (t:OA) (u w:Nat) (x:OA) (y z:Nat) (b:Bool) (c:OA) (d e:Nat) (f:OA) (g i:Nat) (r a a0:Bool) (a1:OA) (a2 a3:Nat) (a4:OA) (a5 a6:Nat) (k:Bool) (l:OA) (m n:Nat) (o:OA) (p q:Nat) (b1 b2:Bool) (V:View) (R:VR) (h:(((r == b1)=true->(((a == b2)=true->((r=true->(Ca V 102 #[A #[B s,S t u w,S x y z]] fun k3 b3=>∃b4,k3=B b4/\((b4=true->(Ca b3 102 #[A #[B a0,S a1 a2 a3,S a4 a5 a6]] fun k4 a7=>∃b5,k4=B b5/\((b5=true->((a=true->(Ca a7 102 #[A #[B b,S c d e,S f g i]] fun k5 b6=>∃b7,k5=B b7/\((b7=true->(Ca b6 102 #[A #[B k,S l m n,S o p q]] fun k6 b8=>∃b9,k6=B b9/\((b9=true->(Rt b8 R (B true)))/\(b9=false->(((!a)=true->(Ca b8 37 #[A #[B b,S c d e,S f g i],A #[B k,S l m n,S o p q]] fun k7 k8=>∃d6,k7=B d6/\(Rt k8 R (B d6))))/\((!a)=false->(Rt b8 R (B false))))))))/\(b7=false->(((!a)=true->(Ca b6 37 #[A #[B b,S c d e,S f g i],A #[B k,S l m n,S o p q]] fun k9 l0=>∃d9,k9=B d9/\(Rt l0 R (B d9))))/\((!a)=false->(Rt b6 R (B false))))))))/\(a=false->(((!a)=true->(Ca a7 37 #[A #[B b,S c d e,S f g i],A #[B k,S l m n,S o p q]] fun l1 l2=>∃e2,l1=B e2/\(Rt l2 R (B e2))))/\((!a)=false->(Rt a7 R (B false)))))))/\(b5=false->(((!r)=true->(Ca a7 37 #[A #[B s,S t u w,S x y z],A #[B a0,S a1 a2 a3,S a4 a5 a6]] fun l3 a8=>∃c0,l3=B c0/\((c0=true->((a=true->(Ca a8 102 #[A #[B b,S c d e,S f g i]] fun l4 c1=>∃c2,l4=B c2/\((c2=true->(Ca c1 102 #[A #[B k,S l m n,S o p q]] fun l5 c3=>∃c4,l5=B c4/\((c4=true->(Rt c3 R (B true)))/\(c4=false->(((!a)=true->(Ca c3 37 #[A #[B b,S c d e,S f g i],A #[B k,S l m n,S o p q]] fun l6 l7=>∃e6,l6=B e6/\(Rt l7 R (B e6))))/\((!a)=false->(Rt c3 R (B false))))))))/\(c2=false->(((!a)=true->(Ca c1 37 #[A #[B b,S c d e,S f g i],A #[B k,S l m n,S o p q]] fun l8 l9=>∃e9,l8=B e9/\(Rt l9 R (B e9))))/\((!a)=false->(Rt c1 R (B false))))))))/\(a=false->(((!a)=true->(Ca a8 37 #[A #[B b,S c d e,S f g i],A #[B k,S l m n,S o p q]] fun m0 m1=>∃f2,m0=B f2/\(Rt m1 R (B f2))))/\((!a)=false->(Rt a8 R (B false)))))))/\(c0=false->(Rt a8 R (B false))))))/\((!r)=false->(Rt a7 R (B false))))))))/\(b4=false->(((!r)=true->(Ca b3 37 #[A #[B s,S t u w,S x y z],A #[B a0,S a1 a2 a3,S a4 a5 a6]] fun m2 a9=>∃c5,m2=B c5/\((c5=true->((a=true->(Ca a9 102 #[A #[B b,S c d e,S f g i]] fun m3 c6=>∃c7,m3=B c7/\((c7=true->(Ca c6 102 #[A #[B k,S l m n,S o p q]] fun m4 c8=>∃c9,m4=B c9/\((c9=true->(Rt c8 R (B true)))/\(c9=false->(((!a)=true->(Ca c8 37 #[A #[B b,S c d e,S f g i],A #[B k,S l m n,S o p q]] fun m5 m6=>∃f8,m5=B f8/\(Rt m6 R (B f8))))/\((!a)=false->(Rt c8 R (B false))))))))/\(c7=false->(((!a)=true->(Ca c6 37 #[A #[B b,S c d e,S f g i],A #[B k,S l m n,S o p q]] fun m7 m8=>∃g1,m7=B g1/\(Rt m8 R (B g1))))/\((!a)=false->(Rt c6 R (B false))))))))/\(a=false->(((!a)=true->(Ca a9 37 #[A #[B b,S c d e,S f g i],A #[B k,S l m n,S o p q]] fun m9 n0=>∃g4,m9=B g4/\(Rt n0 R (B g4))))/\((!a)=false->(Rt a9 R (B false)))))))/\(c5=false->(Rt a9 R (B false))))))/\((!r)=false->(Rt b3 R (B false))))))))/\(r=false->(((!r)=true->(Ca V 37 #[A #[B s,S t u w,S x y z],A #[B a0,S a1 a2 a3,S a4 a5 a6]] fun n1 b0=>∃d0,n1=B d0/\((d0=true->((a=true->(Ca b0 102 #[A #[B b,S c d e,S f g i]] fun n2 d1=>∃d2,n2=B d2/\((d2=true->(Ca d1 102 #[A #[B k,S l m n,S o p q]] fun n3 d3=>∃d4,n3=B d4/\((d4=true->(Rt d3 R (B true)))/\(d4=false->(((!a)=true->(Ca d3 37 #[A #[B b,S c d e,S f g i],A #[B k,S l m n,S o p q]] fun n4 n5=>∃i0,n4=B i0/\(Rt n5 R (B i0))))/\((!a)=false->(Rt d3 R (B false))))))))/\(d2=false->(((!a)=true->(Ca d1 37 #[A #[B b,S c d e,S f g i],A #[B k,S l m n,S o p q]] fun n6 n7=>∃i3,n6=B i3/\(Rt n7 R (B i3))))/\((!a)=false->(Rt d1 R (B false))))))))/\(a=false->(((!a)=true->(Ca b0 37 #[A #[B b,S c d e,S f g i],A #[B k,S l m n,S o p q]] fun n8 n9=>∃i6,n8=B i6/\(Rt n9 R (B i6))))/\((!a)=false->(Rt b0 R (B false)))))))/\(d0=false->(Rt b0 R (B false))))))/\((!r)=false->(Rt V R (B false)))))))/\((a == b2)=false->(Rt V R (B false)))))/\((r == b1)=false->(Rt V R (B false))))):
 Acts prog 68 #[A #[B s,S t u w,S x y z,B b,S c d e,S f g i,B r,B a],A #[B a0,S a1 a2 a3,S a4 a5 a6,B k,S l m n,S o p q,B b1,B b2]] V R:=
 fd (LF:=LF0) (RF:=[1000010]) [] [] func68 h
theorem vc_ref06_Class (e:OA) (a n:Nat) (b:Bool) (f:OA) (g i:Nat) (k:OA) (l m:Nat) (V:View) (R:VR) (h:(∃(b5:Int->VP) (c2:Int->Nat),(∃c3:Int,(s5 0 e a n (a:Int) (((0:Int)=c3)/\s6 b f g i k l (sm m)))/\b5 c3 V)/\∀(d:Int) (o:View),V.Le o->b5 d o->(true=true/\(((decide (d < (a:Int)))=true->(e.isSome=true)/\(0<=d/\d < (a:Int))/\(∃a0,∃a1 a2 a3,∃a4 a5 a6,∃a7,∃a8 a9 b0,∃b1 b2 b3,∃w,∃x,∃s,addrAdd e (d.toNat * 8)=some s/\o.at (s.add 0) (B a0)/\o.at (s.add 1) (S a1 a2 a3)/\o.at (s.add 2) (S a4 a5 a6)/\o.at (s.add 3) (B a7)/\o.at (s.add 4) (S a8 a9 b0)/\o.at (s.add 5) (S b1 b2 b3)/\o.at (s.add 6) (B w)/\o.at (s.add 7) (B x)/\(∃b6:Int->VP,(((!w)=true->(Ca o 22 #[A #[B b,S f g i,S k l m],A #[B a0,S a1 a2 a3,S a4 a5 a6]] fun e0 e1=>∃c4,e0=I J c4/\(∃c5:Int,(sm 0/\sm 0/\((-1:Int)=(-1:Int))/\s5 e a n (a:Int) d ((c4=c5)/\s12 b f g i k l m a0 a1 a2 a3 a4 (s10 a5 a6 a7 a8 a9 b0 b1 b2 b3 w (sm x))))/\b6 c5 e1)))/\((!w)=false->(∃c6:Int,(sm 0/\sm 0/\((-1:Int)=(-1:Int))/\s5 e a n (a:Int) d (((1:Int)=c6)/\s12 b f g i k l m a0 a1 a2 a3 a4 (s10 a5 a6 a7 a8 a9 b0 b1 b2 b3 w (sm x))))/\b6 c6 o)))/\∀(q:Int) (y:View),o.Le y->b6 q y->(true=true/\(∃b7:Int->VP,(((!x)=true->(Ca y 22 #[A #[B b,S f g i,S k l m],A #[B a7,S a8 a9 b0,S b1 b2 b3]] fun e2 e3=>∃c7,e2=I J c7/\(∃c8:Int,(s7 0 q e a n (a:Int) d ((c7=c8)/\s6 b f g i k l (sm m)))/\b7 c8 e3)))/\((!x)=false->(∃c9:Int,(s7 0 q e a n (a:Int) d (((-1:Int)=c9)/\s6 b f g i k l (sm m)))/\b7 c9 y)))/\∀(r:Int) (z:View),y.Le z->b7 r z->(true=true/\(∃b8:Bool->VP,(((decide (q > (0:Int)))=true->(∃d0:Bool,(s8 0 q r e a n (a:Int) d (((decide (r < (0:Int)))=d0)/\s6 b f g i k l (sm m)))/\b8 d0 z))/\((decide (q > (0:Int)))=false->(∃d1:Bool,(s8 0 q r e a n (a:Int) d ((false=d1)/\s6 b f g i k l (sm m)))/\b8 d1 z)))/\∀(b9:Bool) (t:View),z.Le t->b8 b9 t->(true=true/\((b9=true->(Rt t R (I J 2)))/\(b9=false->(∃u:Bool->VP,(((q == (0:Int))=true->(((decide (r<=(0:Int)))=true->(∃d3:Bool,(s6 0 e a n (a:Int) d ((true=d3)/\s6 b f g i k l (sm m)))/\u d3 t))/\((decide (r<=(0:Int)))=false->(((r == (0:Int))=true->(∃d4:Bool,(s6 0 e a n (a:Int) d (((decide (q ≥ (0:Int)))=d4)/\s6 b f g i k l (sm m)))/\u d4 t))/\((r == (0:Int))=false->(∃d5:Bool,(s6 0 e a n (a:Int) d ((false=d5)/\s6 b f g i k l (sm m)))/\u d5 t))))))/\((q == (0:Int))=false->(((r == (0:Int))=true->(∃d6:Bool,(s6 0 e a n (a:Int) d (((decide (q ≥ (0:Int)))=d6)/\s6 b f g i k l (sm m)))/\u d6 t))/\((r == (0:Int))=false->(∃d7:Bool,(s6 0 e a n (a:Int) d ((false=d7)/\s6 b f g i k l (sm m)))/\u d7 t)))))/\∀(c0:Bool) (b4:View),t.Le b4->u c0 b4->(true=true/\((c0=true->(Rt b4 R (I J 1)))/\(c0=false->(∃c1:Int,c2 c1 < c2 d/\(s5 0 e a n (a:Int) (((J.wrap (d + (1:Int)))=c1)/\s6 b f g i k l (sm m)))/\b5 c1 b4)))))))))))))))/\((decide (d < (a:Int)))=false->(Rt o R (I J 0))))))):
 Acts prog 36 #[S e a n,A #[B b,S f g i,S k l m]] V R:=
 fd (LF:=LF0) (RF:=[1000010]) [(2,⟨Int,false,[3,9,10],[3],fun p=>[(11,.c (.v (I J p)))],fun p=>[]⟩)] [(6,⟨Int,false,[3,6,8,9,10,11],[3,6],fun p=>[(7,.c (.v (I J p)))],fun p=>[]⟩),(8,⟨Int,false,[3,7,9,10,11],[3],fun p=>[(8,.c (.v (I J p)))],fun p=>[]⟩),(600009,⟨Bool,false,[3,7,8,9,10,11],[3],fun p=>[(34,.c (.v (B p)))],fun p=>[]⟩),(600011,⟨Bool,false,[3,9,10,11],[3],fun p=>[(48,.c (.v (B p)))],fun p=>[]⟩)] func36 h
end Go.Proofs.Tryz
/- Contracts of the reference's num: Over; ref04's q. -/
namespace Go.Proofs.Tryz
open Go.Eng Go.Big
theorem c_num_Over {V:View} {v w:Value} {x y:Rat} (hx:RQ V v x) (hy:RQ V w y) (hy0:y.num≠0) {k m:Nat} (hk:Sz k x) (hm:Sz m y) (hkm:k + m < 274877906944) :
  Acts prog 206 #[v,w] V fun r V'=>RQ V' r (x * y⁻¹):=by
 obtain ⟨p,n,c,p',n',c',rfl,hx1,hx2⟩:=hx
 obtain ⟨q,i,e,q',i',e',rfl,hy1,hy2⟩:=hy
 have hmi:=sz_inv hm
 have q1:=digs_len_bits hk.1
 have q2:=digs_len_bits hk.2
 have q3:=digs_len_bits hm.1
 have q4:=digs_len_bits hmi.1
 have iv:(y⁻¹).num=(if decide (y.num < 0)=true then -((y.den:Nat):Int) else ((y.den:Nat):Int))/\(y⁻¹).den=y.num.natAbs:=by
  rcases Int.lt_or_gt_of_ne hy0 with h | h
  ·rw [if_pos (decide_eq_true h)]; exact inv_neg h
  ·rw [if_neg (fun hh=>by have:=of_decide_eq_true hh; omega)]; exact inv_pos h
 have hxy:x * y⁻¹=mkRat (x.num * (y⁻¹).num) (x.den * (y⁻¹).den):=Rat.mul_def' x y⁻¹
 have b1:(x.num * (y⁻¹).num).natAbs < 2 ^ (k + m):=by rw [Int.natAbs_mul]; exact pow_mul_lt hk.1 hmi.1
 have b2:x.den * (y⁻¹).den < 2 ^ (k + m):=pow_mul_lt hk.2 hmi.2
 refine vc_num_Over _ p n c p' n' c' _ q i e q' i' e' V _ fun V1 l1=>(c_num_Den y _ (hy2.le l1)).mono ?_
 rintro r V2 l2 ⟨p1,n1,c1,rfl,g1⟩
 refine ⟨_,_,_,rfl,fun V3 l3=>(c_num_Make _ (g1.le l3)).mono ?_⟩
 rw [← iv.1]
 rintro r V4 l4 ⟨p4,n4,c4,rfl,g4⟩
 refine ⟨_,_,_,_,rfl,fun V5 l5=>(c_num_Mul x.num (y⁻¹).num (hx1.le (l1.trans (l2.trans (l3.trans (l4.trans l5))))) (g4.le l5) (by omega)).mono ?_⟩
 rintro r V6 l6 ⟨p6,n6,c6,rfl,g6⟩
 have l06:=l1.trans (l2.trans (l3.trans (l4.trans (l5.trans l6))))
 refine ⟨_,_,_,_,rfl,fun V7 l7=>(c_num_Den x _ (hx2.le (l06.trans l7))).mono ?_⟩
 rintro r V8 l8 ⟨p8,n8,c8,rfl,g8⟩
 refine ⟨_,_,_,rfl,fun V9 l9=>(c_num_Product (g8.le l9) (hy1.le (l06.trans (l7.trans (l8.trans l9)))) (by omega)).mono ?_⟩
 rintro r V10 l10 ⟨p10,n10,c10,rfl,g10⟩
 rw [val_digs,val_digs,← iv.2] at g10
 refine ⟨_,_,_,rfl,fun V11 l11=>(c_num_Frac _ (g6.le (l7.trans (l8.trans (l9.trans (l10.trans l11))))) (g10.le l11) (Nat.le_trans (digs_len_bits b1) (by omega)) (Nat.le_trans (digs_len_bits b2) (by omega)) (Nat.mul_ne_zero x.den_nz (y⁻¹).den_nz)).mono ?_⟩
 rw [hxy]
 rintro r V22 l22 ⟨p21,n21,c21,p22,n22,c22,rfl,g21,g22⟩
 exact ⟨_,_,_,_,_,_,_,rfl,fun V23 l23=>⟨_,_,_,_,_,_,rfl,g21.le l23,g22.le l23⟩⟩
end Go.Proofs.Tryz
/- Contracts of the reference 04: Through. -/
namespace Go.Proofs.Tryz
open Go.Eng Go.Big
theorem RQ.int {V:View} {q:Rat} {b:Bool} {p:OA} {n c:Nat} {p':OA} {n' c':Nat} (h:RQ V (.agg #[.bool b,.slice p n c,.slice p' n' c']) q):RI V (.agg #[.bool b,.slice p n c]) q.num:=by
 obtain ⟨p1,n1,c1,p2,n2,c2,e,h1,h2⟩:=h
 cases e
 exact ⟨_,_,_,rfl,h1⟩
theorem RQ.den {V:View} {q:Rat} {b:Bool} {p:OA} {n c:Nat} {p':OA} {n' c':Nat} (h:RQ V (.agg #[.bool b,.slice p n c,.slice p' n' c']) q):RD V p' n' c' (dend q.den):=by
 obtain ⟨p1,n1,c1,p2,n2,c2,e,h1,h2⟩:=h
 cases e
 exact h2
end Go.Proofs.Tryz
/- Contracts of points and lines of the reference (printed by straight_ref.py). -/
namespace Go.Proofs.Tryz
open Go.Eng Go.Big
end Go.Proofs.Tryz
/- Contracts: points of package api, read, written and compared. -/
namespace Go.Proofs.Tryz
open Go.Eng Go.Big
theorem RA.shape {V:View} {v:Value} {q:Rat} (h:RA V v q):∃b p n c p' n' c',v=.agg #[.bool b,.slice p n c,.slice p' n' c']:=by
 obtain ⟨p,n,c,p',n',c',e,-⟩:=h; exact ⟨_,_,_,_,_,_,_,e⟩
/-- A point of package api in normal form. -/
def RAP (V:View) (v:Value) (x y:Rat):Prop:=∃b p n c p' n' c' d q m e q' m' e',v=.agg #[.bool b,.slice p n c,.slice p' n' c',.bool d,.slice q m e,.slice q' m' e'] /\
 RA V (.agg #[.bool b,.slice p n c,.slice p' n' c']) x/\RA V (.agg #[.bool d,.slice q m e,.slice q' m' e']) y
theorem RAP.le {V V':View} {v:Value} {x y:Rat} (h:RAP V v x y) (l:V.Le V'):RAP V' v x y:=by
 obtain ⟨b,p,n,c,p',n',c',d,q,m,e,q',m',e',rfl,h1,h2⟩:=h
 exact ⟨_,_,_,_,_,_,_,_,_,_,_,_,_,_,rfl,h1.le l,h2.le l⟩
theorem c_ref01_ToQ {V:View} {v:Value} {q:Rat} (h:RQ V v q) {k:Nat} (s:Sz k q) (hk:k<=1099511627776):Acts prog 28 #[v] V fun r V'=>RA V' r q:=by
 obtain ⟨p,n,c,p',n',c',rfl,h1,h2⟩:=h
 have q1:=digs_len_bits s.1
 have q2:=digs_len_bits s.2
 refine vc_ref01_ToQ _ p n c p' n' c' V _ fun V1 l1=>(c_ref01_ToI ⟨_,_,_,rfl,h1.le l1⟩ (by omega)).mono ?_
 rintro r V2 l2 ⟨p1,n1,c1,rfl,g1⟩
 refine ⟨_,_,_,_,rfl,fun V3 l3=>(c_num_Den q _ (h2.le (l1.trans (l2.trans l3)))).mono ?_⟩
 rintro r V4 l4 ⟨p2,n2,c2,rfl,g2⟩
 refine ⟨_,_,_,rfl,fun V5 l5=>(c_ref01_ToN (g2.le l5) (by omega)).mono ?_⟩
 rintro r V6 l6 ⟨p3,n3,c3,rfl,g3⟩
 exact ⟨_,_,_,rfl,fun V7 l7=>⟨_,_,_,_,_,_,rfl,g1.le (l3.trans (l4.trans (l5.trans (l6.trans l7)))),g3.le l7⟩⟩
theorem c_ref01_SameQ {V:View} {v w:Value} {x y:Rat} (hx:RA V v x) (hy:RA V w y) {k:Nat} (s:Sz k x) (hk:k<=1099511627776) :
  Acts prog 37 #[v,w] V fun r V'=>r=.bool (decide (x=y)):=by
 obtain ⟨p,n,c,p',n',c',rfl,h1,h2⟩:=hx
 obtain ⟨q,m,e,q',m',e',rfl,h3,h4⟩:=hy
 have q1:=digs_len_bits s.1
 have q2:=digs_len_bits s.2
 refine vc_ref01_SameQ _ p n c p' n' c' _ q m e q' m' e' V _ fun V1 l1=>(c_ref01_SameI (h1.le l1) (h3.le l1) (by omega)).mono ?_
 rintro r V2 l2 rfl
 refine ⟨_,rfl,fun g V3 l3=>(c_ref01_SameN (h2.le (l1.trans (l2.trans l3))) (h4.le (l1.trans (l2.trans l3))) (by omega)).mono ?_,fun g V6 l6=>?_⟩
 ·have g:=of_decide_eq_true g
  rintro r V4 l4 rfl
  refine ⟨_,rfl,fun V5 l5=>?_⟩
  have e:digs x.den=digs y.den↔x=y:=⟨fun h=>Rat.ext g (by have:=congrArg val h; rwa [val_digs,val_digs] at this),fun h=>by rw [h]⟩
  rw [show decide (digs x.den=digs y.den)=decide (x=y) from by rw [decide_eq_decide]; exact e]
 ·have g:=of_decide_eq_false g
  rw [decide_eq_false (fun h=>g (by rw [h]))]
end Go.Proofs.Tryz
/- Trees and their lists of nodes: plain laws, no program in sight. -/
namespace Go.Proofs.Tryz
open Go.Eng Go.Big
/-- A line: its integer coefficients. -/
abbrev L3:=Int × Int × Int
def okL (x:L3):Bool:=decide (¬ (x.1=0/\x.2.1=0)) && decide (gcd3 x.1 x.2.1 x.2.2=1)
def Bd (x:L3):Prop:=x.1.natAbs < 2 ^ 1000/\x.2.1.natAbs < 2 ^ 1000/\x.2.2.natAbs < 2 ^ 1000
inductive Tr where
 | leaf (i:Bool) | node (l:L3) (a b:Tr)
 deriving DecidableEq
structure Nd where
 ln:L3
 left:Int
 right:Int
 deriving DecidableEq
def Tr.size:Tr->Nat
 | .leaf _=>0
 | .node _ a b=>a.size + b.size + 1
def Tr.All (p:L3->Prop):Tr->Prop
 | .leaf _=>True
 | .node l a b=>p l/\a.All p/\b.All p
theorem Tr.All.imp {p q:L3->Prop} (h:∀x,p x->q x):∀{t:Tr},t.All p->t.All q
 | .leaf _,_=>trivial
 | .node _ _ _,⟨h1,h2,h3⟩=>⟨h _ h1,Tr.All.imp h h2,Tr.All.imp h h3⟩
/-! reading a list of nodes -/
structure RS where
 seen:List Bool
 cnt:Nat
 bad:Bool
/-! the nodes in another order -/
def mvN (n by_ i:Nat):Nat:=n - 1 - (i + by_) % n
def mv (n by_:Nat) (i:Int):Int:=if i < 0 then i else (mvN n by_ i.toNat:Int)
end Go.Proofs.Tryz
/- Lines in normal form, in memory. -/
namespace Go.Proofs.Tryz
open Go.Eng Go.Big
theorem addadd (a:Addr) (i j:Nat):(a.add i).add j=a.add (i + j):=by
 unfold Addr.add
 by_cases h1:i=0
 ·subst h1; simp
 ·by_cases h2:j=0
  ·subst h2; simp [h1]
  ·simp [h1,h2,Nat.add_assoc]
theorem okLn_okL {a b c:Int}:okLn (decide (a < 0)) (digs a.natAbs) (decide (b < 0)) (digs b.natAbs) (decide (c < 0)) (digs c.natAbs)=okL (a,b,c):=by
 have hn:∀z:Int,NrmI (decide (z < 0)) (digs z.natAbs)=true:=by
  intro z
  unfold NrmI
  rw [val_digs]
  simp only [decide_true,Bool.true_and]
  by_cases h:z < 0
  ·simp only [h,decide_true,Bool.not_true,Bool.false_or,decide_eq_true_eq]
   intro e
   have:=digs_eq_nil.1 e
   omega
  ·simp [h]
 have hg:gcdQ (gcdQ (a:Rat) (b:Rat)) (c:Rat)=((gcd3 a b c:Nat):Int):=by
  have g2:∀x y:Int,gcdQ (x:Rat) (y:Rat)=((Nat.gcd x.natAbs y.natAbs:Nat):Int):=by
   intro x y
   unfold gcdQ
   have e1:((x:Rat)).num=x:=rfl
   have e2:((y:Rat)).num=y:=rfl
   have e3:((x:Rat)).den=1:=rfl
   have e4:((y:Rat)).den=1:=rfl
   rw [e1,e2,e3,e4]
   simp only [Nat.mul_one]
   exact Rat.mkRat_one _
  rw [g2,g2]
  rfl
 unfold okLn okL
 rw [hn,hn,hn,ival_digs,ival_digs,ival_digs,hg]
 have h0:∀z:Int,((z:Rat)=0)↔z=0:=fun z=>by exact Rat.intCast_eq_zero_iff
 simp only [Bool.true_and,h0]
 rw [Bool.eq_iff_iff]
 simp only [Bool.and_eq_true,Bool.not_eq_true',Bool.and_eq_false_iff,decide_eq_false_iff_not,decide_eq_true_eq]
 have h1:(((gcd3 a b c:Nat):Int):Rat)=((1:Int):Rat)↔gcd3 a b c=1:=by
  rw [Rat.intCast_inj]; omega
 rw [h1]
 constructor
 ·rintro ⟨h,h'⟩; exact ⟨fun e=>by rcases h with h | h; exact h e.1; exact h e.2,h'⟩
 ·rintro ⟨h,h'⟩
  refine ⟨?_,h'⟩
  by_cases ha:a=0
  ·exact .inr fun hb=>h ⟨ha,hb⟩
  ·exact .inl ha
theorem sz_int {z:Int} {k:Nat} (h:z.natAbs < 2 ^ k) (hk:0 < k):Sz k (z:Rat):=⟨h,Nat.one_lt_two_pow (by omega)⟩
theorem Bd.digs {x:L3} (h:Bd x):(digs x.1.natAbs).length<=1000/\(digs x.2.1.natAbs).length<=1000/\(digs x.2.2.natAbs).length<=1000:=⟨digs_len_bits h.1,digs_len_bits h.2.1,digs_len_bits h.2.2⟩
theorem Bd.sz {x:L3} (h:Bd x):Sz 1000 (x.1:Rat)/\Sz 1000 (x.2.1:Rat)/\Sz 1000 (x.2.2:Rat):=⟨sz_int h.1 (by omega),sz_int h.2.1 (by omega),sz_int h.2.2 (by omega)⟩
end Go.Proofs.Tryz
/- By program: the conditions of the functions, from their loaded code. -/
namespace Go.Proofs.Tryz
open Go.Eng
open Go.Value renaming int→I,pointer→P,slice→S,agg→A,bool→B,tuple→T
open Go.IntKind renaming i64→J,u64→U,u32→W
set_option maxRecDepth 100000
theorem vc_scene_New (d:OA) (a b:Nat) (V:View) (R:VR) (h:(0<=(minI (a:Int) (400))/\(minI (a:Int) (400))<=(b:Int))/\(∀c,V.Le c->∀e:Nat,(c.blk e (.cells #[S d ((minI (a:Int) (400)).toNat) b,I J 0] 107 (0,0)))->R (P (some ⟨e,0,none⟩)) c)):
 Acts prog 10 #[S d a b] V R:=
 fd (LF:=LF0) (RF:=[1000010]) [] [] func10 h
theorem vc_scene_Tape_Next (e:Nat) (f:OA) (b g:Nat) (a d:Int) (V:View) (R:VR) (hw100000:V.w.heap[e]?=some (.cells #[S f b g,I J a] 107 (0,0))) (hx100000:V.X e) (h:(((decide (a ≥ (b:Int)))=true->(∀k,V.Le k->k.w.heap[e]?=some (.cells #[S f b g,I J a] 107 (0,0))->R (I J 0) k))/\((decide (a ≥ (b:Int)))=false->(f.isSome=true)/\(0<=a/\a < (b:Int))/\(∃i,(∃n,addrAdd f (a.toNat * 1)=some n/\V.at n (I J i))/\(d≠0)/\(((decide ((i.tmod d) < (0:Int)))=true->(∀l,V.Le l->l.w.heap[e]?=some (.cells #[S f b g,I J (J.wrap (a + (1:Int)))] 107 (0,0))->R (I J (J.wrap ((i.tmod d) + d))) l))/\((decide ((i.tmod d) < (0:Int)))=false->(∀m,V.Le m->m.w.heap[e]?=some (.cells #[S f b g,I J (J.wrap (a + (1:Int)))] 107 (0,0))->R (I J (i.tmod d)) m))))))):
 Acts prog 31 #[P (some ⟨e,0,none⟩),I J d] V R:=
 fn_does (LF:=LF0) (RF:=[1000010]) (β0:=(upd1 (fun _=>0) 100000 e)) tab_ok mixed [] [] func31 (by kernel_rfl) [(0,.c (.ptr 100000 0)),(1,.c (.v (I J d)))] [(100000,⟨.lit [.v (S f b g),.v (I J a)],107⟩)] (by kernel_rfl) ⟨⟨hw100000,hx100000⟩,trivial,trivial⟩ h (by kernel_rfl)
end Go.Proofs.Tryz
/- The scene's tape: Next, P, V, L, Tree; lines and trees that it makes. -/
namespace Go.Proofs.Tryz
open Go.Eng Go.Big
/-! plain laws: the line through two points of the grid -/
def small (z:Int) (k:Nat):Bool:=decide (z.natAbs<=k)
end Go.Proofs.Tryz
/- Plain laws: the line in normal form. -/
namespace Go.Proofs.Tryz
open Go.Eng Go.Big
end Go.Proofs.Tryz
/- Plain laws: the line through two points: program and reference agree. -/
namespace Go.Proofs.Tryz
open Go.Eng Go.Big
end Go.Proofs.Tryz
/- Contracts of the scene's tape: Next, P, V, L; trees of the reference in memory: Code, Tree. -/
namespace Go.Proofs.Tryz
open Go.Eng Go.Big
/-- Ints that can be read. -/
def Rdl (V:View) (p:OA) (n:Nat):Prop:=∀i,i < n->∃(a:Addr) (x:Int),addrAdd p (i * 1)=some a/\V.at a (.int .i64 x)
theorem Rdl.le {V V':View} {p:OA} {n:Nat} (h:Rdl V p n) (l:V.Le V'):Rdl V' p n:=fun i hi=>by
 obtain ⟨a,x,e,hx⟩:=h i hi; exact ⟨a,x,e,l.at hx⟩
/-- The tape's block. -/
def TpAt (V:View) (tb:Nat) (p:OA) (n c:Nat) (at_:Int):Prop:=V.w.heap[tb]?=some (.cells #[.slice p n c,.int .i64 at_] 107 (0,0))
theorem c_Next {V:View} {tb:Nat} {p:OA} {n c:Nat} {at_:Int} (k:Int) (hr:Rdl V p n) (hn:n<=400) (hw:TpAt V tb p n c at_) (hx:V.X tb) (h0:0<=at_) (hk:0 < k) (hk2:k<=1000) :
  Acts prog 31 #[.pointer (some ⟨tb,0,none⟩),.int .i64 k] V fun r V'=>∃x at',r=.int .i64 x/\0<=x/\x < k/\0<=at'/\TpAt V' tb p n c at':=by
 refine vc_scene_Tape_Next tb p n c at_ k V _ hw hx ⟨fun g V1 l1 e=>⟨0,at_,rfl,by omega,hk,h0,e⟩,fun g=>?_⟩
 have g:at_ < n:=by have:=of_decide_eq_false g; omega
 obtain ⟨i,rfl⟩:∃i:Nat,at_=i:=⟨at_.toNat,by omega⟩
 obtain ⟨a,x,e1,e2⟩:=hr i (by omega)
 have hs:p.isSome=true:=by
  cases p with
  | none=>simp [addrAdd] at e1
  | some a=>rfl
 have m1:(x.tmod k).natAbs < k.natAbs:=by rw [Int.natAbs_tmod]; exact Nat.mod_lt _ (by omega)
 have w1:i64.wrap ((i:Int) + 1)=((i + 1:Nat):Int):=by rw [i64w (by omega)]; omega
 rw [Int.toNat_natCast,w1]
 have w2:i64.wrap (x.tmod k + k)=x.tmod k + k:=i64w (by omega)
 refine ⟨hs,⟨by omega,by omega⟩,x,⟨a,e1,e2⟩,by omega,fun g2 V2 l2 e=>⟨x.tmod k + k,_,by rw [w2],?_,?_,?_,e⟩,fun g2 V3 l3 e=>⟨_,_,rfl,?_,?_,?_,e⟩⟩
 ·omega
 ·have:=of_decide_eq_true g2; omega
 ·omega
 ·have:=of_decide_eq_false g2; omega
 ·omega
 ·omega
theorem RQ.zero {V:View}:RQ V (.agg #[.bool false,.slice none 0 0,.slice none 0 0]) ((0:Int):Rat):=⟨none,0,0,none,0,0,rfl,RD.nil,RD.nil⟩
theorem RP.zero {V:View}:RP V (.agg #[.bool false,.slice none 0 0,.slice none 0 0,.bool false,.slice none 0 0,.slice none 0 0]) ((0:Int):Rat) ((0:Int):Rat):=
 ⟨none,0,0,none,0,0,none,0,0,none,0,0,rfl,RQ.zero,RQ.zero⟩
theorem sz4 {z:Int} (h:-40<=z/\z<=40):Sz 10 (z:Rat):=sz_int (by omega) (by omega)
end Go.Proofs.Tryz
/- By program: the conditions of the functions, from their loaded code. -/
namespace Go.Proofs.Tryz
open Go.Eng
open Go.Value renaming int→I,pointer→P,slice→S,agg→A,bool→B,tuple→T
open Go.IntKind renaming i64→J,u64→U,u32→W
set_option maxRecDepth 100000
theorem vc_scene_Tape_Q (a:Nat) (p:OA) (q r:Nat) (s:Int) (V:View) (R:VR) (hw100000:V.w.heap[a]?=some (.cells #[S p q r,I J s] 107 (0,0))) (hx100000:V.X a) (h:(∀f,V.Le f->∀b:Nat,(f.w.heap[b]?=some (.cells #[S p q r,I J s] 107 (0,0)))->(f.H b)->Acts prog 31 #[P (some ⟨b,0,none⟩),I J 9] (f.lend [b]) fun c7 y=>∃g,c7=I J g/\∃z a0 a1,∃a2,y.w.heap[b]?=some (.cells #[S z a0 a1,I J a2] 107 (0,0))/\(∀i,y.shut.Le i->∀d:Nat,(i.w.heap[d]?=some (.cells #[S z a0 a1,I J a2] 107 (0,0)))->(i.H d)->Acts prog 31 #[P (some ⟨d,0,none⟩),I J 6] (i.lend [d]) fun c8 k=>∃e,c8=I J e/\∃l m n,∃o,k.w.heap[d]?=some (.cells #[S l m n,I J o] 107 (0,0))/\(((e == (0:Int))=true->(∀a3,k.shut.Le a3->Acts prog 30 #[I J (J.wrap ((J.wrap ((2:Int) * (J.wrap (g - (4:Int)))))+1)),I J 2] a3 fun c9 d0=>∃a4,∃a5 a6 a7,∃a8 a9 b0,c9=A #[B a4,S a5 a6 a7,S a8 a9 b0]/\(∀t,d0.Le t->t.w.heap[a]?=some (.cells #[S l m n,I J o] 107 (0,0))->R (A #[B a4,S a5 a6 a7,S a8 a9 b0]) t)))/\((e == (0:Int))=false->(((e == (1:Int))=true->(∀b1,k.shut.Le b1->Acts prog 30 #[I J (J.wrap ((J.wrap ((3:Int) * (J.wrap (g - (4:Int)))))+1)),I J 3] b1 fun d1 d2=>∃b2,∃b3 b4 b5,∃b6 b7 b8,d1=A #[B b2,S b3 b4 b5,S b6 b7 b8]/\(∀u,d2.Le u->u.w.heap[a]?=some (.cells #[S l m n,I J o] 107 (0,0))->R (A #[B b2,S b3 b4 b5,S b6 b7 b8]) u)))/\((e == (1:Int))=false->(∀b9,k.shut.Le b9->Acts prog 19 #[I J (J.wrap (g - (4:Int)))] b9 fun d3 d4=>∃c0,∃c1 c2 c3,∃c4 c5 c6,d3=A #[B c0,S c1 c2 c3,S c4 c5 c6]/\(∀x,d4.Le x->x.w.heap[a]?=some (.cells #[S l m n,I J o] 107 (0,0))->R (A #[B c0,S c1 c2 c3,S c4 c5 c6]) x))))))))):
 Acts prog 29 #[P (some ⟨a,0,none⟩)] V R:=
 fn_does (LF:=LF0) (RF:=[1000010]) (β0:=(upd1 (fun _=>0) 100000 a)) tab_ok mixed [] [] func29 (by kernel_rfl) [(0,.c (.ptr 100000 0))] [(100000,⟨.lit [.v (S p q r),.v (I J s)],107⟩)] (by kernel_rfl) ⟨⟨hw100000,hx100000⟩,trivial,trivial⟩ h (by kernel_rfl)
theorem vc_scene_Tape_S (a:Nat) (a8:OA) (a9 b0:Nat) (b1:Int) (V:View) (R:VR) (hw100000:V.w.heap[a]?=some (.cells #[S a8 a9 b0,I J b1] 107 (0,0))) (hx100000:V.X a) (h:(∀x,V.Le x->∀d:Nat,(x.w.heap[d]?=some (.cells #[S a8 a9 b0,I J b1] 107 (0,0)))->(x.H d)->Acts prog 29 #[P (some ⟨d,0,none⟩)] (x.lend [d]) fun f9 c3=>∃e,∃f g i,∃k l m,f9=A #[B e,S f g i,S k l m]/\∃c4 c5 c6,∃c7,c3.w.heap[d]?=some (.cells #[S c4 c5 c6,I J c7] 107 (0,0))/\(∀y,c3.shut.Le y->∀n:Nat,(y.w.heap[n]?=some (.cells #[S c4 c5 c6,I J c7] 107 (0,0)))->(y.H n)->Acts prog 31 #[P (some ⟨n,0,none⟩),I J 6] (y.lend [n]) fun g0 c8=>∃c9,g0=I J c9/\∃d0 d1 d2,∃d3,c8.w.heap[n]?=some (.cells #[S d0 d1 d2,I J d3] 107 (0,0))/\(∀d4,c8.shut.Le d4->Acts prog 30 #[I J (J.wrap ((1:Int) + c9)),I J 2] d4 fun g1 g2=>∃d5,∃d6 d7 d8,∃d9 e0 e1,g1=A #[B d5,S d6 d7 d8,S d9 e0 e1]/\(Ca g2 23 #[A #[B e,S f g i,S k l m],A #[B d5,S d6 d7 d8,S d9 e0 e1]] fun g3 g4=>∃z,∃a0 a1 a2,∃a3 a4 a5,g3=A #[B z,S a0 a1 a2,S a3 a4 a5]/\(∀a6,g4.Le a6->∀o:Nat,(a6.w.heap[o]?=some (.cells #[S d0 d1 d2,I J d3] 107 (0,0)))->(a6.H o)->Acts prog 31 #[P (some ⟨o,0,none⟩),I J 8] (a6.lend [o]) fun g5 p=>∃b,g5=I J b/\∃q r s,∃t,p.w.heap[o]?=some (.cells #[S q r s,I J t] 107 (0,0))/\(((b == (0:Int))=true->(∀b2,p.shut.Le b2->b2.w.heap[a]?=some (.cells #[S q r s,I J t] 107 (0,0))->R (A #[B false,S none 0 0,S none 0 0,B z,S a0 a1 a2,S a3 a4 a5,B true,B false]) b2))/\((b == (0:Int))=false->(((b == (1:Int))=true->(∀b3,p.shut.Le b3->b3.w.heap[a]?=some (.cells #[S q r s,I J t] 107 (0,0))->R (A #[B e,S f g i,S k l m,B false,S none 0 0,S none 0 0,B false,B true]) b3))/\((b == (1:Int))=false->(((b == (2:Int))=true->(∀a7,p.shut.Le a7->∀u:Nat,(a7.w.heap[u]?=some (.cells #[S q r s,I J t] 107 (0,0)))->(a7.H u)->Acts prog 31 #[P (some ⟨u,0,none⟩),I J 4] (a7.lend [u]) fun g6 b4=>∃b5,g6=I J b5/\∃b6 b7 b8,∃b9,b4.w.heap[u]?=some (.cells #[S b6 b7 b8,I J b9] 107 (0,0))/\(((b5 == (0:Int))=true->(∀e2,b4.shut.Le e2->Acts prog 27 #[] e2 fun g7 g8=>∃e3,∃e4 e5 e6,∃e7 e8 e9,∃f0,∃f1 f2 f3,∃f4 f5 f6,∃f7,∃f8,g7=A #[B e3,S e4 e5 e6,S e7 e8 e9,B f0,S f1 f2 f3,S f4 f5 f6,B f7,B f8]/\(∀c0,g8.Le c0->c0.w.heap[a]?=some (.cells #[S b6 b7 b8,I J b9] 107 (0,0))->R (A #[B e3,S e4 e5 e6,S e7 e8 e9,B f0,S f1 f2 f3,S f4 f5 f6,B f7,B f8]) c0)))/\((b5 == (0:Int))=false->(∀c1,b4.shut.Le c1->c1.w.heap[a]?=some (.cells #[S b6 b7 b8,I J b9] 107 (0,0))->R (A #[B e,S f g i,S k l m,B z,S a0 a1 a2,S a3 a4 a5,B false,B false]) c1)))))/\((b == (2:Int))=false->(∀c2,p.shut.Le c2->c2.w.heap[a]?=some (.cells #[S q r s,I J t] 107 (0,0))->R (A #[B e,S f g i,S k l m,B z,S a0 a1 a2,S a3 a4 a5,B false,B false]) c2))))))))))))):
 Acts prog 87 #[P (some ⟨a,0,none⟩)] V R:=
 fn_does (LF:=LF0) (RF:=[1000010]) (β0:=(upd1 (fun _=>0) 100000 a)) tab_ok mixed [] [] func87 (by kernel_rfl) [(0,.c (.ptr 100000 0))] [(100000,⟨.lit [.v (S a8 a9 b0),.v (I J b1)],107⟩)] (by kernel_rfl) ⟨⟨hw100000,hx100000⟩,trivial,trivial⟩ h (by kernel_rfl)
end Go.Proofs.Tryz
/- Contracts: num.Part; the tape's Q and Point. -/
namespace Go.Proofs.Tryz
open Go.Eng Go.Big
theorem c_num_Part {V:View} (n:Int) (d:Nat) (h0:-1000<=n) (h1:n<=1000) (hd0:d≠0) (hd:d<=1000) :
  Acts prog 30 #[.int .i64 n,.int .i64 (d:Int)] V fun r V'=>RQ V' r (mkRat n d):=by
 refine vc_num_Part n d V _ fun V1 l1=>(c_num_Int n (by omega) (by omega)).mono ?_
 rintro r V2 l2 ⟨p,m,c,rfl,g⟩
 rw [u64w (by omega)]
 refine ⟨_,_,_,_,rfl,fun V3 l3=>(c_num_Word d (by omega)).mono ?_⟩
 rintro r V4 l4 ⟨p2,m2,c2,rfl,g2⟩
 refine ⟨_,_,_,rfl,fun V5 l5=>(c_num_Frac n (g.le (l3.trans (l4.trans l5))) (g2.le l5) (Nat.le_trans (digs_len_bits (k:=10) (by omega)) (by omega)) (Nat.le_trans (digs_len_bits (k:=10) (by omega)) (by omega)) hd0).mono ?_⟩
 rintro r V6 l6 h
 have h':=h
 obtain ⟨_,_,_,_,_,_,rfl⟩:=h.shape
 exact ⟨_,_,_,_,_,_,_,rfl,fun V7 l7=>h'.le l7⟩
theorem sz_half:∀x:Fin 9,Sz 10 (mkRat (2 * ((x.1:Int) - 4) + 1) 2)/\Sz 10 (mkRat (3 * ((x.1:Int) - 4) + 1) 3):=by unfold Sz; decide +kernel
theorem c_Q {V:View} {tb:Nat} {p:OA} {n c:Nat} {at_:Int} (hr:Rdl V p n) (hn:n<=400) (hw:TpAt V tb p n c at_) (hx:V.X tb) (h0:0<=at_) :
  Acts prog 29 #[.pointer (some ⟨tb,0,none⟩)] V fun r V'=>∃(q:Rat) (at':Int),RQ V' r q/\Sz 10 q/\0<=at'/\TpAt V' tb p n c at':=by
 refine vc_scene_Tape_Q tb p n c at_ V _ hw hx fun V1 l1 bk1 e1 h1=>(c_Next (V:=V1.lend [bk1]) 9 (hr.le fun b o h=>l1 b o h) hn e1 ⟨by simp,h1⟩ h0 (by omega) (by omega)).mono ?_
 rintro r V2 l2 ⟨x,at1,rfl,x0,x1,t1,hw1⟩
 refine ⟨_,rfl,_,_,_,_,hw1,fun V3 l3 bk5 e3 h3=>(c_Next (V:=V3.lend [bk5]) 6 (hr.le fun b o h=>l3 b o (l2 b o (l1 b o h))) hn e3 ⟨by simp,h3⟩ t1 (by omega) (by omega)).mono ?_⟩
 rintro r V4 l4 ⟨y,at2,rfl,y0,y1,t2,hw2⟩
 obtain ⟨i,rfl⟩:∃i:Nat,x=i:=⟨x.toNat,by omega⟩
 obtain ⟨z1,z2⟩:=sz_half ⟨i,by omega⟩
 dsimp only at z1 z2
 have w1:i64.wrap ((i:Int) - 4)=(i:Int) - 4:=i64w (by omega)
 have w2:i64.wrap (i64.wrap (2 * ((i:Int) - 4)) + 1)=2 * ((i:Int) - 4) + 1:=by rw [i64w (x:=2 * ((i:Int) - 4)) (by omega),i64w (by omega)]
 have w3:i64.wrap (i64.wrap (3 * ((i:Int) - 4)) + 1)=3 * ((i:Int) - 4) + 1:=by rw [i64w (x:=3 * ((i:Int) - 4)) (by omega),i64w (by omega)]
 rw [w1,w2,w3]
 refine ⟨_,rfl,_,_,_,_,hw2,fun _ V5 l5=>(c_num_Part (2 * ((i:Int) - 4) + 1) 2 (by omega) (by omega) (by omega) (by omega)).mono ?_,fun _=>⟨fun _ V8 l8=>(c_num_Part (3 * ((i:Int) - 4) + 1) 3 (by omega) (by omega) (by omega) (by omega)).mono ?_,fun _ V11 l11=>(c_num_Of ((i:Int) - 4) (by omega) (by omega)).mono ?_⟩⟩
 ·rintro r V6 l6 h
  have h':=h
  obtain ⟨_,_,_,_,_,_,rfl⟩:=h.shape
  exact ⟨_,_,_,_,_,_,_,rfl,fun V7 l7 e7=>⟨_,at2,h'.le l7,z1,t2,e7⟩⟩
 ·rintro r V6 l6 h
  have h':=h
  obtain ⟨_,_,_,_,_,_,rfl⟩:=h.shape
  exact ⟨_,_,_,_,_,_,_,rfl,fun V7 l7 e7=>⟨_,at2,h'.le l7,z2,t2,e7⟩⟩
 ·rintro r V6 l6 h
  have h':=h
  obtain ⟨_,_,_,_,_,_,rfl⟩:=h.shape
  exact ⟨_,_,_,_,_,_,_,rfl,fun V7 l7 e7=>⟨_,at2,h'.le l7,sz4 (by omega),t2,e7⟩⟩
end Go.Proofs.Tryz
/- By program: the conditions of the functions, from their loaded code. -/
namespace Go.Proofs.Tryz
open Go.Eng
open Go.Value renaming int→I,pointer→P,slice→S,agg→A,bool→B,tuple→T
open Go.IntKind renaming i64→J,u64→U,u32→W
set_option maxRecDepth 100000
theorem vc_geo_end (a:Bool) (d:OA) (b e:Nat) (f:OA) (c g:Nat) (i:Bool) (V:View) (R:VR) (h:((i=true->(((!a)=true->((((b:Int) == (0:Int))=true->(Rt V R (T #[A #[I J 0,I J 0,P none],B ((c:Int) == (0:Int))])))/\(((b:Int) == (0:Int))=false->(Rt V R (T #[A #[I J 0,I J 0,P none],B false])))))/\((!a)=false->(Rt V R (T #[A #[I J 0,I J 0,P none],B false])))))/\(i=false->(Ca V 93 #[A #[B a,S d b e,S f c g]] fun s t=>∃n,∃o,∃p,s=A #[I J n,I J o,P p]/\(Ca t 207 #[A #[B a,S d b e,S f c g]] fun u w=>∃q,u=B q/\(Rt w R (T #[A #[I J n,I J o,P p],B q]))))))):
 Acts prog 155 #[A #[B a,S d b e,S f c g],B i] V R:=
 fd (LF:=LF0) (RF:=[1000010]) [] [] func155 h
theorem vc_geo_IvOf (n:Bool) (o:OA) (p q:Nat) (r:OA) (s t:Nat) (u:Bool) (w:OA) (x y:Nat) (z:OA) (a0 a1:Nat) (a b:Bool) (V:View) (R:VR) (h:(Ca V 155 #[A #[B n,S o p q,S r s t],B a] fun a6 a7=>∃c,∃d,∃e,∃k,a6=T #[A #[I J c,I J d,P e],B k]/\(Ca a7 155 #[A #[B u,S w x y,S z a0 a1],B b] fun a8 l=>∃f,∃g,∃i,∃m,a8=T #[A #[I J f,I J g,P i],B m]/\((k=true->((m=true->(Ca l 156 #[A #[I J c,I J d,P e,I J f,I J g,P i,B a,B b]] fun a9 b0=>∃a2,a9=B a2/\(Rt b0 R (T #[A #[I J c,I J d,P e,I J f,I J g,P i,B a,B b],B (!a2)]))))/\(m=false->(Rt l R (T #[A #[I J c,I J d,P e,I J f,I J g,P i,B a,B b],B false])))))/\(k=false->(Rt l R (T #[A #[I J c,I J d,P e,I J f,I J g,P i,B a,B b],B false]))))))):
 Acts prog 104 #[A #[B n,S o p q,S r s t,B u,S w x y,S z a0 a1,B a,B b]] V R:=
 fd (LF:=LF0) (RF:=[1000010]) [] [] func104 h
theorem vc_geo_Iv_API (o p:Int) (q:OA) (c d:Int) (e:OA) (b a:Bool) (V:View) (R:VR) (h:(((!b)=true->(Ca V 76 #[A #[I J o,I J p,P q]] fun b1 r=>∃f,∃g i k,∃l m n,b1=A #[B f,S g i k,S l m n]/\(((!a)=true->(Ca r 76 #[A #[I J c,I J d,P e]] fun b2 b3=>∃s,∃t u w,∃x y z,b2=A #[B s,S t u w,S x y z]/\(Rt b3 R (A #[B f,S g i k,S l m n,B s,S t u w,S x y z,B b,B a]))))/\((!a)=false->(Rt r R (A #[B f,S g i k,S l m n,B false,S none 0 0,S none 0 0,B b,B a]))))))/\((!b)=false->(((!a)=true->(Ca V 76 #[A #[I J c,I J d,P e]] fun b4 b5=>∃a2,∃a3 a4 a5,∃a6 a7 a8,b4=A #[B a2,S a3 a4 a5,S a6 a7 a8]/\(Rt b5 R (A #[B false,S none 0 0,S none 0 0,B a2,S a3 a4 a5,S a6 a7 a8,B b,B a]))))/\((!a)=false->(Rt V R (A #[B false,S none 0 0,S none 0 0,B false,S none 0 0,S none 0 0,B b,B a]))))))):
 Acts prog 131 #[A #[I J o,I J p,P q,I J c,I J d,P e,B b,B a]] V R:=
 fd (LF:=LF0) (RF:=[1000010]) [] [] func131 h
theorem vc_geo_Iv_empty (c d:Int) (e:OA) (f g:Int) (i:OA) (a b:Bool) (V:View) (R:VR) (h:(((!a)=true->(((!b)=true->(Ca V 129 #[A #[I J c,I J d,P e],A #[I J f,I J g,P i]] fun o p=>∃k,o=I J k/\(Rt p R (B (decide (k ≥ (0:Int)))))))/\((!b)=false->(Rt V R (B false)))))/\((!a)=false->(Rt V R (B false))))):
 Acts prog 156 #[A #[I J c,I J d,P e,I J f,I J g,P i,B a,B b]] V R:=
 fd (LF:=LF0) (RF:=[1000010]) [] [] func156 h
theorem vc_geo_Iv_Has (m n:Int) (o:OA) (e f:Int) (g:OA) (i a:Bool) (b c:Int) (d:OA) (V:View) (R:VR) (h:((i=true->((a=true->(Rt V R (B true)))/\(a=false->(Ca V 129 #[A #[I J e,I J f,P g],A #[I J b,I J c,P d]] fun x y=>∃q,x=I J q/\(Rt y R (B (decide (q ≥ (0:Int)))))))))/\(i=false->(Ca V 129 #[A #[I J m,I J n,P o],A #[I J b,I J c,P d]] fun z k=>∃l,z=I J l/\(((decide (l<=(0:Int)))=true->((a=true->(Rt k R (B true)))/\(a=false->(Ca k 129 #[A #[I J e,I J f,P g],A #[I J b,I J c,P d]] fun a0 a1=>∃t,a0=I J t/\(Rt a1 R (B (decide (t ≥ (0:Int)))))))))/\((decide (l<=(0:Int)))=false->(Rt k R (B false)))))))):
 Acts prog 95 #[A #[I J m,I J n,P o,I J e,I J f,P g,B i,B a],A #[I J b,I J c,P d]] V R:=
 fd (LF:=LF0) (RF:=[1000010]) [] [] func95 h
end Go.Proofs.Tryz
/- Contracts: the reference's Side and Rev; the program's interval: Neg. -/
namespace Go.Proofs.Tryz
open Go.Eng Go.Big
end Go.Proofs.Tryz
/- Intervals and fragments: how they lie in memory; the values at a line. -/
namespace Go.Eng
open Go.Big
theorem RR.zero (V:View):RR V (.agg #[.int .i64 0,.int .i64 0,.pointer none]) 0:=.inl ⟨rfl,by unfold Wd; decide⟩
end Go.Eng
namespace Go.Proofs.Tryz
open Go.Eng Go.Big
/-- A span: its ends, and whether they are missing. -/
structure Sp where
 lo:Rat
 hi:Rat
 a:Bool
 b:Bool
/-- An end that is missing is 0. -/
def Sp.can (s:Sp):Prop:=(s.a=true->s.lo=0)/\(s.b=true->s.hi=0)
def Sp.sz (k:Nat) (s:Sp):Prop:=Sz k s.lo/\Sz k s.hi
def Sp.zero:Sp:=⟨0,0,false,false⟩
def SzL (k:Nat) (l:L3):Prop:=Sz k (l.1:Rat)/\Sz k (l.2.1:Rat)/\Sz k (l.2.2:Rat)
/-- An interval of package geo. -/
def RIv (V:View) (v:Value) (s:Sp):Prop:=∃(x1 x2:Int) (p:OA) (y1 y2:Int) (q:OA),v=.agg #[.int .i64 x1,.int .i64 x2,.pointer p,.int .i64 y1,.int .i64 y2,.pointer q,.bool s.a,.bool s.b] /\
 RR V (.agg #[.int .i64 x1,.int .i64 x2,.pointer p]) s.lo/\RR V (.agg #[.int .i64 y1,.int .i64 y2,.pointer q]) s.hi
theorem RIv.le {V V':View} {v:Value} {s:Sp} (h:RIv V v s) (l:V.Le V'):RIv V' v s:=by
 obtain ⟨x1,x2,p,y1,y2,q,e,h1,h2⟩:=h
 exact ⟨x1,x2,p,y1,y2,q,e,h1.le l,h2.le l⟩
/-- A line of package geo with integer coefficients. -/
def RLi (V:View) (v:Value) (l:L3):Prop:=RLn V v (l.1:Rat) (l.2.1:Rat) (l.2.2:Rat)
theorem RLi.le {V V':View} {v:Value} {l:L3} (h:RLi V v l) (e:V.Le V'):RLi V' v l:=RLn.le h e
/-- A fragment of package geo. -/
def RFr (V:View) (v:Value) (l:L3) (s:Sp):Prop:=∃(x1 x2:Int) (p:OA) (y1 y2:Int) (q:OA) (z1 z2:Int) (r:OA) (u1 u2:Int) (t:OA) (w1 w2:Int) (o:OA),
 v=.agg #[.int .i64 x1,.int .i64 x2,.pointer p,.int .i64 y1,.int .i64 y2,.pointer q,.int .i64 z1,.int .i64 z2,.pointer r,.int .i64 u1,.int .i64 u2,.pointer t,.int .i64 w1,.int .i64 w2,.pointer o,.bool s.a,.bool s.b] /\
 RLi V (.agg #[.int .i64 x1,.int .i64 x2,.pointer p,.int .i64 y1,.int .i64 y2,.pointer q,.int .i64 z1,.int .i64 z2,.pointer r]) l /\
 RIv V (.agg #[.int .i64 u1,.int .i64 u2,.pointer t,.int .i64 w1,.int .i64 w2,.pointer o,.bool s.a,.bool s.b]) s
theorem RFr.le {V V':View} {v:Value} {l:L3} {s:Sp} (h:RFr V v l s) (e:V.Le V'):RFr V' v l s:=by
 obtain ⟨x1,x2,p,y1,y2,q,z1,z2,r,u1,u2,t,w1,w2,o,rfl,h1,h2⟩:=h
 exact ⟨x1,x2,p,y1,y2,q,z1,z2,r,u1,u2,t,w1,w2,o,rfl,h1.le e,h2.le e⟩
/-- A number of package api in any form. -/
def RRw (V:View) (v:Value) (b:Bool) (xs ys:List Nat):Prop:=∃p n c p' n' c',v=.agg #[.bool b,.slice p n c,.slice p' n' c']/\RD V p n c xs/\RD V p' n' c' ys
theorem RRw.le {V V':View} {v:Value} {b:Bool} {xs ys:List Nat} (h:RRw V v b xs ys) (l:V.Le V'):RRw V' v b xs ys:=by
 obtain ⟨p,n,c,p',n',c',e,h1,h2⟩:=h; exact ⟨p,n,c,p',n',c',e,h1.le l,h2.le l⟩
theorem RRw.nil {V:View}:RRw V (.agg #[.bool false,.slice none 0 0,.slice none 0 0]) false [] []:=⟨_,_,_,_,_,_,rfl,RD.nil,RD.nil⟩
/-- An end of a span of package api. -/
def RE (V:View) (v:Value) (q:Rat) (no:Bool):Prop:=(no=true->RRw V v false [] [])/\(no=false->RA V v q)
theorem RE.le {V V':View} {v:Value} {q:Rat} {no:Bool} (h:RE V v q no) (l:V.Le V'):RE V' v q no:=⟨fun e=>(h.1 e).le l,fun e=>(h.2 e).le l⟩
theorem RE.shape {V:View} {v:Value} {q:Rat} {no:Bool} (h:RE V v q no):∃b p n c p' n' c',v=.agg #[.bool b,.slice p n c,.slice p' n' c']:=by
 cases no with
 | true=>obtain ⟨_,_,_,_,_,_,e,-⟩:=h.1 rfl; exact ⟨_,_,_,_,_,_,_,e⟩
 | false=>exact (h.2 rfl).shape
/-- A span of package api. -/
def RSp (V:View) (v:Value) (s:Sp):Prop:=∃b p n c p' n' c' d q m e q' m' e',v=.agg #[.bool b,.slice p n c,.slice p' n' c',.bool d,.slice q m e,.slice q' m' e',.bool s.a,.bool s.b] /\
 RE V (.agg #[.bool b,.slice p n c,.slice p' n' c']) s.lo s.a/\RE V (.agg #[.bool d,.slice q m e,.slice q' m' e']) s.hi s.b
theorem RSp.le {V V':View} {v:Value} {s:Sp} (h:RSp V v s) (l:V.Le V'):RSp V' v s:=by
 obtain ⟨b,p,n,c,p',n',c',d,q,m,e,q',m',e',rfl,h1,h2⟩:=h
 exact ⟨_,_,_,_,_,_,_,_,_,_,_,_,_,_,rfl,h1.le l,h2.le l⟩
/-- A fragment of package api. -/
def RFa (V:View) (v:Value) (l:L3) (s:Sp):Prop:=∃b1 p1 n1 c1 b2 p2 n2 c2 b3 p3 n3 c3 b p n c p' n' c' d q m e q' m' e',
 v=.agg #[.bool b1,.slice p1 n1 c1,.bool b2,.slice p2 n2 c2,.bool b3,.slice p3 n3 c3,.bool b,.slice p n c,.slice p' n' c',.bool d,.slice q m e,.slice q' m' e',.bool s.a,.bool s.b] /\
 RL V (.agg #[.bool b1,.slice p1 n1 c1,.bool b2,.slice p2 n2 c2,.bool b3,.slice p3 n3 c3]) l.1 l.2.1 l.2.2/\RSp V (.agg #[.bool b,.slice p n c,.slice p' n' c',.bool d,.slice q m e,.slice q' m' e',.bool s.a,.bool s.b]) s
theorem RFa.le {V V':View} {v:Value} {l:L3} {s:Sp} (h:RFa V v l s) (e:V.Le V'):RFa V' v l s:=by
 obtain ⟨b1,p1,n1,c1,b2,p2,n2,c2,b3,p3,n3,c3,b,p,n,c,p',n',c',d,q,m,f,q',m',f',rfl,h1,h2⟩:=h
 exact ⟨_,_,_,_,_,_,_,_,_,_,_,_,_,_,_,_,_,_,_,_,_,_,_,_,_,_,rfl,h1.le e,h2.le e⟩
/-- A span of the reference. -/
def RSs (V:View) (v:Value) (s:Sp):Prop:=∃b p n c p' n' c' d q m e q' m' e',v=.agg #[.bool b,.slice p n c,.slice p' n' c',.bool d,.slice q m e,.slice q' m' e',.bool s.a,.bool s.b] /\
 RQ V (.agg #[.bool b,.slice p n c,.slice p' n' c']) s.lo/\RQ V (.agg #[.bool d,.slice q m e,.slice q' m' e']) s.hi
theorem RSs.le {V V':View} {v:Value} {s:Sp} (h:RSs V v s) (l:V.Le V'):RSs V' v s:=by
 obtain ⟨b,p,n,c,p',n',c',d,q,m,e,q',m',e',rfl,h1,h2⟩:=h
 exact ⟨_,_,_,_,_,_,_,_,_,_,_,_,_,_,rfl,h1.le l,h2.le l⟩
/-- A fragment of the reference. -/
def RF (V:View) (v:Value) (l:L3) (s:Sp):Prop:=∃b1 p1 n1 c1 b2 p2 n2 c2 b3 p3 n3 c3 b p n c p' n' c' d q m e q' m' e',
 v=.agg #[.bool b1,.slice p1 n1 c1,.bool b2,.slice p2 n2 c2,.bool b3,.slice p3 n3 c3,.bool b,.slice p n c,.slice p' n' c',.bool d,.slice q m e,.slice q' m' e',.bool s.a,.bool s.b] /\
 RL V (.agg #[.bool b1,.slice p1 n1 c1,.bool b2,.slice p2 n2 c2,.bool b3,.slice p3 n3 c3]) l.1 l.2.1 l.2.2/\RSs V (.agg #[.bool b,.slice p n c,.slice p' n' c',.bool d,.slice q m e,.slice q' m' e',.bool s.a,.bool s.b]) s
theorem RF.le {V V':View} {v:Value} {l:L3} {s:Sp} (h:RF V v l s) (e:V.Le V'):RF V' v l s:=by
 obtain ⟨b1,p1,n1,c1,b2,p2,n2,c2,b3,p3,n3,c3,b,p,n,c,p',n',c',d,q,m,f,q',m',f',rfl,h1,h2⟩:=h
 exact ⟨_,_,_,_,_,_,_,_,_,_,_,_,_,_,_,_,_,_,_,_,_,_,_,_,_,_,rfl,h1.le e,h2.le e⟩
/-! the values at a line -/
def Sp.neg (s:Sp):Sp:=⟨if s.b then 0 else -s.hi,if s.a then 0 else -s.lo,s.b,s.a⟩
def Sp.has (s:Sp) (t:Rat):Bool:=(s.a || decide (cmpQ s.lo t<=0)) && (s.b || decide (cmpQ s.hi t ≥ 0))
def Sp.emp (s:Sp):Bool:=!s.a && !s.b && decide (cmpQ s.lo s.hi ≥ 0)
/-! the same for the reference -/
end Go.Proofs.Tryz
/- Contracts: geo.scaled, Make, Through, Segment. -/
namespace Go.Proofs.Tryz
open Go.Eng Go.Big
/-- Three numbers in a row; those ahead of i are scaled by f. -/
structure Scl (V:View) (vs:List Value) (i:Int) (f a b c:Rat):Prop where
 h0:0<=i
 h3:i<=3
 row:∃(x1 x2:Int) (p:OA) (y1 y2:Int) (q:OA) (z1 z2:Int) (r:OA),vs=[.int .i64 x1,.int .i64 x2,.pointer p,.int .i64 y1,.int .i64 y2,.pointer q,.int .i64 z1,.int .i64 z2,.pointer r] /\
  RR V (.agg #[.int .i64 x1,.int .i64 x2,.pointer p]) (if 0 < i then a * f else a)/\RR V (.agg #[.int .i64 y1,.int .i64 y2,.pointer q]) (if 1 < i then b * f else b)/\RR V (.agg #[.int .i64 z1,.int .i64 z2,.pointer r]) (if 2 < i then c * f else c)
theorem Scl.le {V V':View} {vs:List Value} {i:Int} {f a b c:Rat} (h:Scl V vs i f a b c) (l:V.Le V'):Scl V' vs i f a b c:=by
 obtain ⟨h0,h3,x1,x2,p,y1,y2,q,z1,z2,r,e,g1,g2,g3⟩:=h
 exact ⟨h0,h3,x1,x2,p,y1,y2,q,z1,z2,r,e,g1.le l,g2.le l,g3.le l⟩
end Go.Proofs.Tryz
/- Contracts: spans and fragments of package api, read and written by package geo. -/
namespace Go.Proofs.Tryz
open Go.Eng Go.Big
def rawQ (b:Bool) (xs ys:List Nat):Rat:=mkRat (ival b xs) (val ys)
def nrmQ (b:Bool) (xs ys:List Nat):Bool:=NrmI b xs && decide (digs (val ys)=ys) && !decide (ys=[]) && decide (Nat.gcd (val xs) (val ys)=1)
def zerQ (b:Bool) (xs ys:List Nat):Bool:=!b && decide (xs=[]) && decide (ys=[])
def endQ (b:Bool) (xs ys:List Nat) (no:Bool):Rat:=if no then 0 else rawQ b xs ys
def endOk (b:Bool) (xs ys:List Nat) (no:Bool):Bool:=if no then zerQ b xs ys else nrmQ b xs ys
theorem nrm_gcd {q:Rat}:nrmQ (decide (q.num < 0)) (digs q.num.natAbs) (digs q.den)=true/\rawQ (decide (q.num < 0)) (digs q.num.natAbs) (digs q.den)=q:=by
 constructor
 ·unfold nrmQ
  have h1:NrmI (decide (q.num < 0)) (digs q.num.natAbs)=true:=by
   unfold NrmI
   rw [val_digs]
   by_cases h:q.num < 0
   ·have:digs q.num.natAbs≠[]:=fun e=>by have:=digs_eq_nil.1 e; omega
    simp [h,this]
   ·simp [h]
  have h2:digs q.den≠[]:=fun e=>q.den_nz (digs_eq_nil.1 e)
  rw [h1,val_digs,val_digs]
  simp [h2,q.reduced]
 ·unfold rawQ
  rw [ival_digs,val_digs,Rat.mkRat_self]
theorem c_frac_Normal {V:View} (b:Bool) {p q:OA} {n c m e:Nat} {xs ys:List Nat} (hx:RD V p n c xs) (hy:RD V q m e ys) (hm:xs.length<=1099511627776) (hn:ys.length<=1099511627776) :
  Acts prog 207 #[.agg #[.bool b,.slice p n c,.slice q m e]] V fun r V'=>r=.bool (nrmQ b xs ys):=by
 refine vc_frac_Normal b p n c q m e V _ fun V1 l1=>(c_integer_Normal b (hx.le l1) hm).mono ?_
 rintro r V2 l2 rfl
 refine ⟨_,rfl,fun h V3 l3=>by rw [Bool.not_eq_true'] at h; simp [nrmQ,h],fun h1 V4 l4=>(c_nat_Normal (hy.le (l1.trans (l2.trans l4))) hn).mono ?_⟩
 rw [Bool.not_eq_false'] at h1
 rintro r V5 l5 rfl
 refine ⟨_,rfl,fun h V6 l6=>by rw [Bool.not_eq_true'] at h; simp [nrmQ,h],fun h2=>⟨fun h V7 l7=>?_,fun h3 V8 l8=>?_⟩⟩
 ·have hl:=hy.len
  have:ys=[]:=by
   have h:((m:Nat):Int)=0:=by simpa using h
   exact List.length_eq_zero_iff.1 (by omega)
  simp [nrmQ,this]
 ·rw [Bool.not_eq_false'] at h2
  have hl:=hy.len
  have h3':ys≠[]:=fun e=>by
   have h:¬ ((m:Nat):Int)=0:=by simpa using h3
   rw [e] at hl; exact h (by simp at hl; omega)
  have l08:=l1.trans (l2.trans (l4.trans (l5.trans l8)))
  refine (c_nat_Gcd (hx.le l08) (hy.le l08) hm hn).mono ?_
  rintro r V9 l9 ⟨p1,n1,c1,rfl,g⟩
  have lg:(digs (Nat.gcd (val xs) (val ys))).length<=1099511627776:=by
   have h1:=digs_val_len hx.dig
   have h2:=digs_val_len hy.dig
   by_cases h0:val xs=0
   ·rw [h0,Nat.gcd_zero_left]; omega
   ·have:Nat.gcd (val xs) (val ys)<=val xs:=Nat.gcd_le_left _ (by omega)
    have:=digs_len_mono this
    omega
  refine ⟨_,_,_,rfl,fun V10 l10=>(c_nat_Bits (g.le l10) lg).mono ?_⟩
  rintro r V11 l11 rfl
  refine ⟨_,rfl,fun V12 l12=>?_⟩
  have hb:(((blen (val (digs (Nat.gcd (val xs) (val ys)))):Nat):Int) == 1)=decide (Nat.gcd (val xs) (val ys)=1):=by
   rw [val_digs,Bool.eq_iff_iff,beq_iff_eq,decide_eq_true_eq]
   have gen:∀g:Nat,((blen g:Nat):Int)=1↔g=1:=fun g=>by
    have a1:blen g<=1↔g < 2:=@blen_le g 1
    have a2:blen g<=0↔g < 1:=@blen_le g 0
    omega
   exact gen _
  rw [hb]
  simp [nrmQ,h1,h2,h3']
theorem c_geo_end {V:View} {v:Value} {b:Bool} {xs ys:List Nat} (no:Bool) (h:RRw V v b xs ys) (hm:xs.length<=1099511627776) (hn:ys.length<=1099511627776) :
  Acts prog 155 #[v,.bool no] V fun r V'=>∃w,r=.tuple #[w,.bool (endOk b xs ys no)]/\RR V' w (endQ b xs ys no):=by
 obtain ⟨p,n,c,q,m,e,rfl,hx,hy⟩:=h
 have hl:=hx.len
 have hl':=hy.len
 refine vc_geo_end b p n c q m e no V _ ⟨?_,?_⟩
 ·rintro rfl
  have z:∀V':View,RR V' (.agg #[.int .i64 0,.int .i64 0,.pointer none]) (endQ b xs ys true):=fun V'=>RR.zero V'
  refine ⟨fun h=>⟨fun h1 V1 l1=>⟨_,?_,z _⟩,fun h1 V2 l2=>⟨_,?_,z _⟩⟩,fun h V3 l3=>⟨_,?_,z _⟩⟩
  ·have e1:xs=[]:=by
    have h:((n:Nat):Int)=0:=by simpa using h1
    exact List.length_eq_zero_iff.1 (by omega)
   have e2:(((m:Nat):Int) == 0)=decide (ys=[]):=by
    rw [Bool.eq_iff_iff,beq_iff_eq,decide_eq_true_eq,← List.length_eq_zero_iff]; omega
   rw [Bool.not_eq_true'] at h
   simp [endOk,zerQ,h,e1,← e2]
  ·have e1:xs≠[]:=fun e=>by
    have h:¬ ((n:Nat):Int)=0:=by simpa using h1
    rw [e] at hl; exact h (by simp at hl; omega)
   simp [endOk,zerQ,e1]
  ·rw [Bool.not_eq_false'] at h
   simp [endOk,zerQ,h]
 ·rintro rfl V4 l4
  refine (c_frac_Of' b (hx.le l4) (hy.le l4) hm hn).mono ?_
  rintro r V5 l5 g
  have g0:=g
  obtain ⟨_,_,_,rfl⟩:=g.shape
  refine ⟨_,_,_,rfl,fun V6 l6=>(c_frac_Normal b (hx.le (l4.trans (l5.trans l6))) (hy.le (l4.trans (l5.trans l6))) hm hn).mono ?_⟩
  rintro r V7 l7 rfl
  exact ⟨_,rfl,fun V8 l8=>⟨_,rfl,g0.le (l6.trans (l7.trans l8))⟩⟩
theorem c_Iv_empty {V:View} {v:Value} {s:Sp} (h:RIv V v s) {k:Nat} (hs:s.sz k) (hk:2 * k < 1099511627776) :
  Acts prog 156 #[v] V fun r V'=>r=.bool s.emp:=by
 obtain ⟨x1,x2,p,y1,y2,q,rfl,h1,h2⟩:=h
 refine vc_geo_Iv_empty x1 x2 p y1 y2 q s.a s.b V _ ⟨fun ha=>⟨fun hb V1 l1=>(c_R_Cmp (h1.le l1) (h2.le l1) hs.1 hs.2 (by omega)).mono ?_,fun hb V4 l4=>?_⟩,fun ha V5 l5=>?_⟩
 ·rintro r V2 l2 rfl
  exact ⟨_,rfl,fun V3 l3=>by rw [Bool.not_eq_true'] at ha hb; simp [Sp.emp,ha,hb]⟩
 ·rw [Bool.not_eq_false'] at hb; simp [Sp.emp,hb]
 ·rw [Bool.not_eq_false'] at ha; simp [Sp.emp,ha]
/-- A span of package api in any form. -/
def RSw (V:View) (v:Value) (b1:Bool) (xs1 ys1:List Nat) (b2:Bool) (xs2 ys2:List Nat) (na nb:Bool):Prop:=∃p n c p' n' c' q m e q' m' e',v=.agg #[.bool b1,.slice p n c,.slice p' n' c',.bool b2,.slice q m e,.slice q' m' e',.bool na,.bool nb] /\
 RRw V (.agg #[.bool b1,.slice p n c,.slice p' n' c']) b1 xs1 ys1/\RRw V (.agg #[.bool b2,.slice q m e,.slice q' m' e']) b2 xs2 ys2
theorem RSw.le {V V':View} {v:Value} {b1:Bool} {xs1 ys1:List Nat} {b2:Bool} {xs2 ys2:List Nat} {na nb:Bool} (h:RSw V v b1 xs1 ys1 b2 xs2 ys2 na nb) (l:V.Le V'):RSw V' v b1 xs1 ys1 b2 xs2 ys2 na nb:=by
 obtain ⟨p,n,c,p',n',c',q,m,e,q',m',e',rfl,h1,h2⟩:=h
 exact ⟨_,_,_,_,_,_,_,_,_,_,_,_,rfl,h1.le l,h2.le l⟩
def spW (b1:Bool) (xs1 ys1:List Nat) (b2:Bool) (xs2 ys2:List Nat) (na nb:Bool):Sp:=⟨endQ b1 xs1 ys1 na,endQ b2 xs2 ys2 nb,na,nb⟩
def okW (b1:Bool) (xs1 ys1:List Nat) (b2:Bool) (xs2 ys2:List Nat) (na nb:Bool):Bool:=endOk b1 xs1 ys1 na && endOk b2 xs2 ys2 nb && !(spW b1 xs1 ys1 b2 xs2 ys2 na nb).emp
theorem c_geo_IvOf {V:View} {v:Value} {b1:Bool} {xs1 ys1:List Nat} {b2:Bool} {xs2 ys2:List Nat} {na nb:Bool} (h:RSw V v b1 xs1 ys1 b2 xs2 ys2 na nb) (m1:xs1.length<=1099511627776) (m2:ys1.length<=1099511627776) (m3:xs2.length<=1099511627776) (m4:ys2.length<=1099511627776)
  {k:Nat} (hs:(spW b1 xs1 ys1 b2 xs2 ys2 na nb).sz k) (hk:2 * k < 1099511627776) :
  Acts prog 104 #[v] V fun r V'=>∃w,r=.tuple #[w,.bool (okW b1 xs1 ys1 b2 xs2 ys2 na nb)]/\RIv V' w (spW b1 xs1 ys1 b2 xs2 ys2 na nb):=by
 obtain ⟨p,n,c,p',n',c',q,m,e,q',m',e',rfl,h1,h2⟩:=h
 refine vc_geo_IvOf b1 p n c p' n' c' b2 q m e q' m' e' na nb V _ fun V1 l1=>(c_geo_end na (h1.le l1) m1 m2).mono ?_
 rintro r V2 l2 ⟨w,rfl,g1⟩
 have g10:=g1
 obtain ⟨x1,x2,x3,rfl⟩:=g1.shape
 refine ⟨_,_,_,_,rfl,fun V3 l3=>(c_geo_end nb (h2.le (l1.trans (l2.trans l3))) m3 m4).mono ?_⟩
 rintro r V4 l4 ⟨w,rfl,g2⟩
 have g20:=g2
 obtain ⟨y1,y2,y3,rfl⟩:=g2.shape
 have iv:∀V5:View,V4.Le V5->RIv V5 (.agg #[.int .i64 x1,.int .i64 x2,.pointer x3,.int .i64 y1,.int .i64 y2,.pointer y3,.bool na,.bool nb]) (spW b1 xs1 ys1 b2 xs2 ys2 na nb):=fun V5 l5=>⟨_,_,_,_,_,_,rfl,g10.le (l3.trans (l4.trans l5)),g20.le l5⟩
 refine ⟨_,_,_,_,rfl,fun ha=>⟨fun hb V5 l5=>(c_Iv_empty (iv V5 l5) hs hk).mono ?_,fun hb V8 l8=>⟨_,?_,iv V8 l8⟩⟩,fun ha V9 l9=>⟨_,?_,iv V9 l9⟩⟩
 ·rintro r V6 l6 rfl
  exact ⟨_,rfl,fun V7 l7=>⟨_,by simp [okW,ha,hb],iv V7 (l5.trans (l6.trans l7))⟩⟩
 ·simp [okW,hb]
 ·simp [okW,ha]
/-- What is right to read: a fragment whose line is in lowest terms and whose span has a length. -/
def FOk (l:L3) (s:Sp):Prop:=okL l=true/\s.can/\s.emp=false
theorem RE.raw {V:View} {v:Value} {q:Rat} {no:Bool} (h:RE V v q no) (hc:no=true->q=0):∃b xs ys,RRw V v b xs ys/\endOk b xs ys no=true/\endQ b xs ys no=q/\(∀k,Sz k q->xs.length<=k/\ys.length<=k):=by
 cases no with
 | true=>
  exact ⟨false,[],[],h.1 rfl,rfl,by rw [hc rfl]; rfl,fun k _=>⟨Nat.zero_le _,Nat.zero_le _⟩⟩
 | false=>
  obtain ⟨p,n,c,p',n',c',rfl,h1,h2⟩:=h.2 rfl
  exact ⟨_,_,_,⟨_,_,_,_,_,_,rfl,h1,h2⟩,nrm_gcd.1,nrm_gcd.2,fun k hk=>⟨digs_len_bits hk.1,digs_len_bits hk.2⟩⟩
theorem c_IvOf_ok {V:View} {v:Value} {s:Sp} (h:RSp V v s) (hc:s.can) (hne:s.emp=false) {k:Nat} (hs:s.sz k) (hk:2 * k < 1099511627776) :
  Acts prog 104 #[v] V fun r V'=>∃w,r=.tuple #[w,.bool true]/\RIv V' w s:=by
 obtain ⟨b,p,n,c,p',n',c',d,q,m,e,q',m',e',rfl,h1,h2⟩:=h
 obtain ⟨b1,xs1,ys1,r1,o1,q1,z1⟩:=h1.raw hc.1
 obtain ⟨b2,xs2,ys2,r2,o2,q2,z2⟩:=h2.raw hc.2
 have e1:b=b1:=by obtain ⟨_,_,_,_,_,_,e,-⟩:=r1; injection e with e; simp at e; exact e.1
 have e2:d=b2:=by obtain ⟨_,_,_,_,_,_,e,-⟩:=r2; injection e with e; simp at e; exact e.1
 subst e1 e2
 have z1:=z1 k hs.1
 have z2:=z2 k hs.2
 have es:spW b xs1 ys1 d xs2 ys2 s.a s.b=s:=by unfold spW; rw [q1,q2]
 refine (c_geo_IvOf (V:=V) (b1:=b) (xs1:=xs1) (ys1:=ys1) (b2:=d) (xs2:=xs2) (ys2:=ys2) (na:=s.a) (nb:=s.b) ⟨_,_,_,_,_,_,_,_,_,_,_,_,rfl,r1,r2⟩ (by omega) (by omega) (by omega) (by omega) (k:=k) (by rw [es]; exact hs) hk).mono ?_
 rintro r V2 l2 ⟨w,rfl,g⟩
 rw [es] at g
 exact ⟨w,by unfold okW; rw [es,o1,o2,hne]; rfl,g⟩
theorem c_Iv_API {V:View} {v:Value} {s:Sp} (h:RIv V v s) {k:Nat} (hs:s.sz k) (hk:k<=1099511627776):Acts prog 131 #[v] V fun r V'=>RSp V' r s:=by
 obtain ⟨x1,x2,p,y1,y2,q,rfl,h1,h2⟩:=h
 have t:∀{V:View} {v:Value} {x:Rat} {no:Bool},RA V v x->(!no)=true->RE V v x no:=fun h e=>by
  rw [Bool.not_eq_true'] at e; subst e; exact ⟨(fun h=>nomatch h),fun _=>h⟩
 have f:∀{V:View} {x:Rat} {no:Bool},(!no)=false->RE V (.agg #[.bool false,.slice none 0 0,.slice none 0 0]) x no:=fun e=>by
  rw [Bool.not_eq_false'] at e; subst e; exact ⟨fun _=>RRw.nil,(fun h=>nomatch h)⟩
 refine vc_geo_Iv_API x1 x2 p y1 y2 q s.a s.b V _ ⟨fun ha V1 l1=>(c_R_API (h1.le l1) hs.1 hk).mono ?_,fun ha=>⟨fun hb V7 l7=>(c_R_API (h2.le l7) hs.2 hk).mono ?_,fun hb V10 l10=>?_⟩⟩
 ·rintro r V2 l2 g1
  have g10:=g1
  obtain ⟨_,_,_,_,_,_,_,rfl⟩:=g1.shape
  refine ⟨_,_,_,_,_,_,_,rfl,fun hb V3 l3=>(c_R_API (h2.le (l1.trans (l2.trans l3))) hs.2 hk).mono ?_,fun hb V6 l6=>?_⟩
  ·rintro r V4 l4 g2
   have g20:=g2
   obtain ⟨_,_,_,_,_,_,_,rfl⟩:=g2.shape
   exact ⟨_,_,_,_,_,_,_,rfl,fun V5 l5=>⟨_,_,_,_,_,_,_,_,_,_,_,_,_,_,rfl,t (g10.le (l3.trans (l4.trans l5))) ha,t (g20.le l5) hb⟩⟩
  ·exact ⟨_,_,_,_,_,_,_,_,_,_,_,_,_,_,rfl,t (g10.le l6) ha,f hb⟩
 ·rintro r V8 l8 g2
  have g20:=g2
  obtain ⟨_,_,_,_,_,_,_,rfl⟩:=g2.shape
  exact ⟨_,_,_,_,_,_,_,rfl,fun V9 l9=>⟨_,_,_,_,_,_,_,_,_,_,_,_,_,_,rfl,f ha,t (g20.le l9) hb⟩⟩
 ·exact ⟨_,_,_,_,_,_,_,_,_,_,_,_,_,_,rfl,f ha,f hb⟩
theorem RLi.api {V:View} {r:Value} {l:L3} (h:RL V r ((l.1:Rat)).num ((l.2.1:Rat)).num ((l.2.2:Rat)).num):RL V r l.1 l.2.1 l.2.2:=by
 simpa [Rat.num_intCast] using h
theorem c_Iv_Has {V:View} {v w:Value} {s:Sp} {t:Rat} (h:RIv V v s) (ht:RR V w t) {k:Nat} (hs:s.sz k) (st:Sz k t) (hk:2 * k < 1099511627776) :
  Acts prog 95 #[v,w] V fun r V'=>r=.bool (s.has t):=by
 have ht0:=ht
 obtain ⟨x1,x2,p,y1,y2,q,rfl,h1,h2⟩:=h
 obtain ⟨t0,t1,t2,rfl⟩:=ht.shape
 refine vc_geo_Iv_Has x1 x2 p y1 y2 q s.a s.b t0 t1 t2 V _ ⟨fun ha=>⟨fun hb V1 l1=>by simp [Sp.has,ha,hb],fun hb V2 l2=>(c_R_Cmp (h2.le l2) (ht0.le l2) hs.2 st (by omega)).mono ?_⟩,fun ha V5 l5=>(c_R_Cmp (h1.le l5) (ht0.le l5) hs.1 st (by omega)).mono ?_⟩
 ·rintro r V3 l3 rfl
  exact ⟨_,rfl,fun V4 l4=>by simp [Sp.has,ha,hb]⟩
 ·rintro r V6 l6 rfl
  refine ⟨_,rfl,fun hc=>⟨fun hb V7 l7=>by simp [Sp.has,ha,hb,of_decide_eq_true hc],fun hb V8 l8=>(c_R_Cmp (h2.le (l5.trans (l6.trans l8))) (ht0.le (l5.trans (l6.trans l8))) hs.2 st (by omega)).mono ?_⟩,fun hc V11 l11=>by simp [Sp.has,ha,of_decide_eq_false hc]⟩
  rintro r V9 l9 rfl
  exact ⟨_,rfl,fun V10 l10=>by simp [Sp.has,ha,hb,of_decide_eq_true hc]⟩
end Go.Proofs.Tryz
/- Plain laws: the part of a span on one side of a line and its sample; the only common point of two fragments is symmetric. -/
namespace Go.Proofs.Tryz
open Go.Eng Go.Big
theorem cmpQ_or (x y:Rat):(x < y/\cmpQ x y=-1) \/ (x=y/\cmpQ x y=0) \/ (y < x/\cmpQ x y=1):=by
 by_cases h1:x < y
 ·exact .inl ⟨h1,cmpQ_lt.1 h1⟩
 ·by_cases h2:x=y
  ·exact .inr (.inl ⟨h2,cmpQ_eq.1 h2⟩)
  ·have h3:y < x:=by grind
   exact .inr (.inr ⟨h3,cmpQ_gt.1 h3⟩)
theorem Sp.emp_iff {s:Sp}:s.emp=false↔(s.a=true \/ s.b=true \/ s.lo < s.hi):=by
 unfold Sp.emp
 rcases cmpQ_or s.lo s.hi with ⟨h,e⟩ | ⟨h,e⟩ | ⟨h,e⟩ <;> rw [e] <;> cases s.a <;> cases s.b <;> simp <;> grind
def Sp.samp (s:Sp):Rat:=if s.a then (if s.b then 0 else s.hi - ((1:Int):Rat)) else if s.b then s.lo + ((1:Int):Rat) else (s.lo + s.hi) * ((2:Int):Rat)⁻¹
/-! the only common point -/
end Go.Proofs.Tryz
