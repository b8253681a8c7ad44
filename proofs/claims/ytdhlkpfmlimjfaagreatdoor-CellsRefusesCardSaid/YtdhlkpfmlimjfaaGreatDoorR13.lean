import Derived.Test.YtdhlkpfmlimjfaaGreatDoorR12
import Derived.Test.YtdhlkpfmlimjfaaGreatDoorR8
import Derived.Test.YtdhlkpfmlimjfaaGreatDoorR11
import Derived.Test.YtdhlkpfmlimjfaaGreatDoorR6
set_option linter.unusedVariables false
open Go.IntKind (i64 u64 u32)
namespace Go.Proofs.Tryz
open Go.Eng Go.Big
theorem eF {V:View}{p q:OA}{n c m e:Nat}{x y:Nat}(hx:RN V p n c x)(hy:RN V q m e y)(hm:(ae x).length<=274877906944)(hm':(ae y).length<=274877906944) :
  Acts prog 118 #[.slice p n c,.slice q m e] V fun r V'=>∃p1 n1 c1,r=.slice p1 n1 c1/\RN V' p1 n1 c1 (Nat.gcd x y):=by
 have M:=hx.len
 have xj:=hy.len
 refine tR p n c q m e V _ fun N u=>(jl (hx.le u) (by omega)).mono ?_
 rintro r V2 C rfl
 rw [ab]
 refine ⟨_,_,rfl,fun z V'=>True,⟨fun A=>?_,fun A=>⟨(),by (try dsimp only);and_intros<;>first|exact True.intro|rfl,trivial⟩⟩,?_⟩
 ·have A:n<=2:=by simpa using A
  refine fun V3 O=>(jl (hy.le (u.trans (C.trans O))) (by omega)).mono ?_
  rintro r V4 l4 rfl
  rw [ab]
  refine ⟨_,_,rfl,fun j=>?_,fun j=>⟨(),by (try dsimp only);and_intros<;>first|exact True.intro|rfl,trivial⟩⟩
  have j:m<=2:=by simpa using j
  have D:=m_ (x:=x) (by omega)
  have P:=m_ (x:=y) (by omega)
  rw [if_pos A,if_pos j]
  refine ⟨fun z V'=>∃a b:Nat,z=((a:Int),(b:Int))/\a<18446744073709551616/\b<18446744073709551616/\Nat.gcd a b=Nat.gcd x y,fun z=>z.2.toNat,
   ⟨((x:Int),(y:Int)),by (try dsimp only);and_intros<;>first|exact True.intro|rfl,x,y,rfl,D,P,rfl⟩,?_⟩
  rintro _ V5 l5 ⟨a,b,rfl,t,g,l⟩
  dsimp only
  refine ⟨by trivial,fun f=>?_,fun f=>?_⟩
  ·have f:0<b:=by simpa using f
   have Q:(a:Int).tmod (b:Int)=((a%b:Nat):Int):=by rw [Int.tmod_eq_emod_of_nonneg (by omega)];omega
   have B:a%b<b:=Nat.mod_lt _ f
   refine ⟨by omega,((b:Int),((a%b:Nat):Int)),?_,by (try dsimp only);and_intros<;>first|exact True.intro|rfl|exact Q,b,a%b,rfl,g,by omega,?_⟩
   ·(try dsimp only);simp only [Int.toNat_natCast];exact B
   ·rw [←l,Nat.gcd_comm a b,Nat.gcd_rec b a,Nat.gcd_comm]
  ·have f:b=0:=by simp at f;omega
   subst f
   rw [Nat.gcd_zero_right] at l
   refine fun V6 l6=>(cO a t).mono ?_
   rintro r V7 l7 ⟨p1,n1,c1,rfl,E⟩
   rw [l] at E
   exact ⟨_,_,_,rfl,fun V8 R=>⟨_,_,_,rfl,E.le R⟩⟩
 rintro _ V9 K _
 replace hx:=hx.le (u.trans (C.trans K))
 replace hy:=hy.le (u.trans (C.trans K))
 refine ⟨by trivial,fun z k V'=>∃a b:Nat,RN V' z.1 z.2.1 z.2.2.1 a/\RN V' z.2.2.2.1 z.2.2.2.2.1 z.2.2.2.2.2 b/\b=k/\(ae a).length<=274877906944/\(ae b).length<=274877906944/\Nat.gcd a b=Nat.gcd x y,
  ⟨(p,n,c,q,m,e),y,by (try dsimp only);and_intros<;>first|exact True.intro|rfl,x,y,hx,hy,rfl,hm,hm',rfl⟩,?_⟩
 rintro ⟨ap,an,ac,S,F,T⟩ _ U W ⟨a,b,t,g,rfl,G,w,l⟩
 dsimp only at t g ⊢
 have o:=t.len
 have H:=g.len
 refine ⟨by trivial,fun f=>?_,fun f=>?_⟩
 ·have f:0<F:=by simpa using f
  have i:0<b:=by
   rcases Nat.eq_zero_or_pos b with h|h
   ·subst h;simp at H;omega
   ·exact h
  refine fun X s=>(cY (t.le s) (g.le s) G w i).mono ?_
  rintro r Y I ⟨p1,n1,c1,Z,n2,c2,rfl,E,g2⟩
  have B:a%b<b:=Nat.mod_lt _ i
  have a0:=ay (Nat.le_of_lt B)
  refine ⟨_,_,_,_,_,_,rfl,(S,F,T,Z,n2,c2),a%b,B,by (try dsimp only);and_intros<;>first|exact True.intro|rfl,b,a%b,g.le (s.trans I),g2,rfl,w,by omega,?_⟩
  rw [←l,Nat.gcd_comm a b,Nat.gcd_rec b a,Nat.gcd_comm]
 ·have f:F=0:=by simp at f;omega
  have i:b=0:=aT.1 (List.length_eq_zero_iff.1 (by omega))
  subst i
  rw [Nat.gcd_zero_right] at l
  rw [←l]
  refine ⟨aA (ae a),t.sl,by simp [o],by omega,by omega,by simp,by simp [o],?_,?_⟩
  ·intro v L
   simp only [aA,List.mem_map] at L
   obtain ⟨d,-,rfl⟩:=L
   rfl
  ·intro bk J sp c' j h2 N u b g
   refine ⟨_,_,_,rfl,?_⟩
   simp only [Nat.zero_add,Nat.zero_mul,List.take_zero,List.nil_append] at g j ⊢
   exact copied (aB a) o j g
theorem dO {V:View}(b:Bool){p:OA}{n c x:Nat}(h:RN V p n c x) :
  Acts prog 69 #[.bool b,.slice p n c] V fun r V'=>RI V' r (if b then -(x:Int) else x):=by
 have f:=fM h.len
 refine zN b p n c V _ ⟨fun a e d=>?_,fun a e d=>?_⟩
 ·rw [if_pos a]
  refine RI.mk ?_ ?_
  ·rw [Bool.eq_iff_iff,decide_eq_true_eq,decide_eq_true_eq]
   omega
  ·rw [Int.natAbs_neg,Int.natAbs_natCast];exact h.le d
 ·rw [a,if_neg (by decide)]
  refine RI.mk ?_ ?_
  ·symm;rw [decide_eq_false_iff_not];omega
  ·rw [Int.natAbs_natCast];exact h.le d
theorem gE {V:View}{b:Bool}{p:OA}{n c x:Nat}{z:Int}(h:RN V p n c x)(hz:(if b then -(x:Int) else x)=z) :
  Acts prog 69 #[.bool b,.slice p n c] V fun r V'=>∃(DI:Bool)(EU:OA)(EH DP:Nat),r=.agg #[.bool DI,.slice EU EH DP]/\∀V3:View,V'.Le V3->RI V3 (.agg #[.bool DI,.slice EU EH DP]) z:=by
 refine (dO b h).mono ?_
 rintro r V2 d ⟨e,f,i,rfl,g⟩
 rw [hz] at g ⊢
 exact ⟨_,_,_,_,rfl,fun V3 a=>⟨_,_,_,rfl,g.le a⟩⟩
theorem CC {V:View}(n:Int)(h0:-9223372036854775808<=n)(h1:n<=9223372036854775807) :
  Acts prog 120 #[.int .i64 n] V fun r V'=>RI V' r n:=by
 refine Bt n V _ ⟨fun a d f=>?_,fun a d f=>?_⟩
 ·have a:n<0:=by simpa using a
  have e:u64.wrap (0-u64.wrap n)=((-n).toNat:Int):=by rw [n_,n_];omega
  rw [e]
  refine (cO _ (by omega)).mono ?_
  rintro r V2 g ⟨h,i,j,rfl,b⟩
  exact ⟨_,_,_,rfl,fun k c=>gE (b.le c) (by simp;omega)⟩
 ·have a:0<=n:=by simpa using a
  have e:u64.wrap n=(n.toNat:Int):=by rw [aJ (by omega)];omega
  rw [e]
  refine (cO _ (by omega)).mono ?_
  rintro r V2 g ⟨h,i,j,rfl,b⟩
  exact ⟨_,_,_,rfl,fun k c=>gE (b.le c) (by simp;omega)⟩
theorem xM {V:View}(z:Int){p:OA}{n c:Nat}(h:RN V p n c z.natAbs) :
  Acts prog 100 #[.agg #[.bool (decide (z<0)),.slice p n c]] V fun r V'=>RI V' r (-z):=by
 refine wV _ p n c V _ fun d a=>gE (h.le a) ?_
 by_cases b:z<0<;>simp [b]<;>omega
theorem ky {V:View}(z w:Int){p q:OA}{n c m e:Nat}(ha:RN V p n c z.natAbs)(hb:RN V q m e w.natAbs)(hm:(ae z.natAbs).length+(ae w.natAbs).length<=1099511627776) :
  Acts prog 114 #[.agg #[.bool (decide (z<0)),.slice p n c],.agg #[.bool (decide (w<0)),.slice q m e]] V fun r V'=>RI V' r (z*w):=by
 refine Bu _ p n c _ q m e V _ fun h a=>(bY (ha.le a) (hb.le a) hm).mono ?_
 rintro r V2 i ⟨j,k,l,rfl,b⟩
 rw [ab,ab] at b
 refine ⟨_,_,_,rfl,fun o d=>gE (b.le d) ?_⟩
 have f:z=aq (decide (z<0)) (ae z.natAbs):=(au z).symm
 have g:w=aq (decide (w<0)) (ae w.natAbs):=(au w).symm
 conv=>rhs;rw [f,g]
 unfold aq
 rw [ab,ab]
 cases decide (z<0)<;>cases decide (w<0)<;>simp [Int.neg_mul,Int.mul_neg]
theorem ux {V:View}(z w:Int){p q:OA}{n c m e:Nat}(ha:RN V p n c z.natAbs)(hb:RN V q m e w.natAbs)(hm:(ae z.natAbs).length<=1099511627776)(hn:(ae w.natAbs).length<=1099511627776) :
  Acts prog 112 #[.agg #[.bool (decide (z<0)),.slice p n c],.agg #[.bool (decide (w<0)),.slice q m e]] V fun r V'=>RI V' r (z+w):=by
 refine Bp _ p n c _ q m e V _ ⟨fun i t a=>(CD (ha.le a) (hb.le a) hm hn).mono ?_,fun i t a=>(eW (ha.le a) (hb.le a) hm hn).mono ?_⟩
 ·rintro r V2 g ⟨k,l,o,rfl,b⟩
  rw [ab,ab] at b
  refine ⟨_,_,_,rfl,fun s d=>gE (b.le d) ?_⟩
  by_cases h:z<0<;>by_cases hw:w<0<;>simp [h,hw] at i⊢<;> omega
 ·rintro r V2 g rfl
  refine ⟨_,rfl,fun f s d=>?_,fun f s d=>?_⟩
  ·have f:z.natAbs<w.natAbs:=by simpa [eG] using f
   refine (ld (hb.le (a.trans (g.trans d))) (ha.le (a.trans (g.trans d))) hn (ay (Nat.le_of_lt f)) (by rw [ab,ab];omega)).mono ?_
   rintro r u v ⟨k,l,o,rfl,b⟩
   rw [ab,ab] at b
   refine ⟨_,_,_,rfl,fun x j=>gE (b.le j) ?_⟩
   by_cases h:z<0<;>by_cases hw:w<0<;>simp [h,hw] at i⊢<;> omega
  ·have f:w.natAbs<=z.natAbs:=by simpa [←Int.not_lt,eG] using f
   refine (ld (ha.le (a.trans (g.trans d))) (hb.le (a.trans (g.trans d))) hm (ay f) (by rw [ab,ab];omega)).mono ?_
   rintro r u v ⟨k,l,o,rfl,b⟩
   rw [ab,ab] at b
   refine ⟨_,_,_,rfl,fun x j=>gE (b.le j) ?_⟩
   by_cases h:z<0<;>by_cases hw:w<0<;>simp [h,hw] at i⊢<;> omega
end Go.Proofs.Tryz
namespace Go.Eng
open Go.Big
def pD (d:Nat):List Nat:=if d=1 then [] else ae d
def RQ (V:View)(v:Value)(q:Rat):Prop:=∃p n c p' n' c',v=.agg #[.bool (decide (q.num<0)),.slice p n c,.slice p' n' c'] /\
 RD V p n c (ae q.num.natAbs)/\RD V p' n' c' (pD q.den)
theorem RQ.le {V V':View}{v:Value}{q:Rat}(h:RQ V v q)(l:V.Le V'):RQ V' v q:=by
 obtain ⟨p,n,c,a,b,d,e,f,g⟩:=h
 exact ⟨p,n,c,a,b,d,e,f.le l,g.le l⟩
theorem x_ {q:Rat}:pD q.den=[]↔q.den=1:=by
 unfold pD
 split
 ·rename_i h;simp [h]
 ·rename_i h
  rw [aT]
  have:=q.den_nz
  omega
end Go.Eng
namespace Go.Proofs.Tryz
open Go.Eng Go.Big
theorem jZ {V:View}{q:Rat}{p:OA}{n c:Nat}(h:RD V p n c (pD q.den)):n=0↔q.den=1:=by
 rw [←x_,h.len,List.length_eq_zero_iff]
theorem cX {V:View}(q:Rat){p p':OA}{n c n' c':Nat}(b:Bool)(h2:RD V p' n' c' (pD q.den)) :
  Acts prog 68 #[.agg #[.bool b,.slice p n c,.slice p' n' c']] V fun r V'=>∃p1 n1 c1,r=.slice p1 n1 c1/\RN V' p1 n1 c1 q.den:=by
 have d:=jZ h2
 refine Br b p n c p' n' c' V _ ⟨fun a h f=>iI.mono ?_,fun a h f=>⟨_,_,_,rfl,?_⟩⟩
 ·rintro r V2 j ⟨p1,n1,c1,rfl,g⟩
  have:q.den=1:=d.1 (by simp at a;omega)
  rw [this]
  exact ⟨_,_,_,rfl,fun k i=>⟨_,_,_,rfl,g.le i⟩⟩
 ·have:q.den≠1:=fun e=>by have:=d.2 e;simp at a;omega
  unfold pD at h2
  rw [if_neg this] at h2
  exact h2.le f
theorem mG {V:View}{q:Rat}{z:Int}{d:Nat}{p p':OA}{n c n' c':Nat}(hn:q.num=z)(hd:q.den=d)(h1:RD V p n c (ae z.natAbs))(h2:RD V p' n' c' (pD d)){b:Bool}(hb:b=decide (z<0)) :
  RQ V (.agg #[.bool b,.slice p n c,.slice p' n' c']) q:=by
 subst hn hd hb
 exact ⟨_,_,_,_,_,_,rfl,h1,h2⟩
theorem qD {V:View}(z:Int){d:Nat}{p q:OA}{n c m e:Nat}(hx:RN V p n c z.natAbs)(hy:RN V q m e d)(hm:(ae z.natAbs).length<=274877906944)(hn:(ae d).length<=274877906944)(hd:d≠0) :
  Acts prog 113 #[.agg #[.bool (decide (z<0)),.slice p n c],.slice q m e] V fun r V'=>RQ V' r (mkRat z d):=by
 refine zK _ p n c q m e V _ fun V1 C=>(eF (hx.le C) (hy.le C) hm hn).mono ?_
 rintro r V2 X ⟨p1,n1,c1,rfl,j⟩
 have J:=Nat.gcd_dvd_right z.natAbs d
 have K:=Nat.gcd_dvd_left z.natAbs d
 have L:0<Nat.gcd z.natAbs d:=Nat.gcd_pos_of_pos_right _ (by omega)
 have l:(ae (Nat.gcd z.natAbs d)).length<=274877906944:=Nat.le_trans (ay (Nat.le_of_dvd (by omega) J)) hn
 have M:(mkRat z d).num=z / (Nat.gcd d z.natAbs:Nat):=by rw [Rat.num_mkRat,if_neg hd]
 have a:(mkRat z d).den=d / Nat.gcd d z.natAbs:=by rw [Rat.den_mkRat,if_neg hd]
 rw [Nat.gcd_comm d] at M a
 generalize hG:Nat.gcd z.natAbs d=g at *
 generalize mkRat z d=w at *
 refine ⟨_,_,_,rfl,fun V3 D=>iI.mono ?_⟩
 rintro r V4 E ⟨p2,n2,c2,rfl,h1⟩
 refine ⟨_,_,_,rfl,fun V5 o=>(eW (j.le (D.trans (E.trans o))) (h1.le o) (by omega) (by decide)).mono ?_⟩
 rintro r V6 N rfl
 replace hx:=hx.le (C.trans (X.trans (D.trans (E.trans (o.trans N)))))
 replace hy:=hy.le (C.trans (X.trans (D.trans (E.trans (o.trans N)))))
 replace j:=j.le (D.trans (E.trans (o.trans N)))
 refine ⟨_,rfl,fun Y V7 F=>(cY (hx.le F) (j.le F) hm l L).mono ?_,fun Y vl G=>iI.mono ?_⟩
 ·rintro r V8 Z ⟨p4,n4,c4,p5,n5,c5,rfl,g1,-⟩
  have a0:(mkRat z d).num.natAbs=(mkRat z d).num.natAbs:=rfl
  obtain ⟨k,O⟩:=K
  have P:z.natAbs / g=k:=by rw [O,Nat.mul_div_cancel_left _ L]
  rw [P] at g1
  have hz:z=(g:Int)*(if z<0 then -(k:Int) else k):=by
   split
   ·rw [Int.mul_neg,←Int.natCast_mul,←O];omega
   ·rw [←Int.natCast_mul,←O];omega
  have b:w.num=(if z<0 then -(k:Int) else k):=by
   rw [M]
   generalize (if z<0 then -(k:Int) else k)=t at *
   rw [hz,Int.mul_ediv_cancel_left _ (by omega)]
  refine ⟨_,_,_,_,_,_,rfl,fun V9 Q=>(dO _ (g1.le Q)).mono ?_⟩
  have M0:(if decide (z<0)=true then -(k:Int) else k)=w.num:=by
   rw [b];simp
  rw [M0]
  rintro r a1 s ⟨p7,n7,c7,rfl,g2⟩
  refine ⟨_,_,_,_,rfl,fun a2 f=>(cY (hy.le (F.trans (Z.trans (Q.trans (s.trans f))))) (j.le (F.trans (Z.trans (Q.trans (s.trans f))))) hn l L).mono ?_⟩
  rintro r a3 u ⟨p8,n8,c8,p9,n9,c9,rfl,R,-⟩
  rw [←a] at R
  refine ⟨_,_,_,_,_,_,rfl,fun a4 h=>iI.mono ?_⟩
  rintro r a5 H ⟨NB,a6,a7,rfl,S⟩
  have a8:(ae w.den).length<=274877906944:=by rw [a];exact Nat.le_trans (ay (Nat.div_le_self _ _)) hn
  refine ⟨_,_,_,rfl,fun a9 v=>(eW (R.le (h.trans (H.trans v))) (S.le v) (by omega) (by decide)).mono ?_⟩
  rintro r lV T rfl
  refine ⟨_,rfl,fun i oB U=>mG rfl rfl (g2.le (f.trans (u.trans (h.trans (H.trans (v.trans (T.trans U))))))) ?_ rfl,fun i qj x=>mG rfl rfl (g2.le (f.trans (u.trans (h.trans (H.trans (v.trans (T.trans x))))))) ?_ rfl⟩
  ·have:w.den=1:=fV.1 (by simpa using i)
   rw [x_.2 this];exact RD.nil
  ·have:w.den≠1:=fun e=>by rw [fV.2 e] at i;simp at i
   unfold pD
   rw [if_neg this]
   exact R.le (h.trans (H.trans (v.trans (T.trans x))))
 ·have y:g=1:=fV.1 (by simpa using Y)
  have b:w.num=z:=by rw [M,y];simp
  have A:w.den=d:=by rw [a,y];simp
  rintro r BF I ⟨S6,b0,b5,rfl,S⟩
  refine ⟨_,_,_,rfl,fun sZ B=>(eW (hy.le (G.trans (I.trans B))) (S.le B) (by omega) (by decide)).mono ?_⟩
  rintro r xo W rfl
  refine ⟨_,rfl,fun i oB U=>mG b A (hx.le (G.trans (I.trans (B.trans (W.trans U))))) ?_ rfl,fun i qj x=>mG b A (hx.le (G.trans (I.trans (B.trans (W.trans x))))) ?_ rfl⟩
  ·have:d=1:=fV.1 (by simpa using i)
   unfold pD
   rw [if_pos this];exact RD.nil
  ·have:d≠1:=fun e=>by rw [fV.2 e] at i;simp at i
   unfold pD
   rw [if_neg this]
   exact hy.le (G.trans (I.trans (B.trans (W.trans x))))
theorem qE {V:View}(n:Int)(h0:-9223372036854775808<=n)(h1:n<=9223372036854775807) :
  Acts prog 71 #[.int .i64 n] V fun r V'=>RQ V' r (n:Rat):=by
 refine Ds n V _ fun b e=>(CC n h0 h1).mono ?_
 rintro r V2 f ⟨p,m,c,rfl,g⟩
 exact ⟨_,_,_,_,rfl,fun h a=>mG (z:=n) (d:=1) rfl rfl (g.le a) RD.nil rfl⟩
theorem uy {V:View}(q:Rat){p p':OA}{n c n' c':Nat}(h1:RD V p n c (ae q.num.natAbs))(h2:RD V p' n' c' (pD q.den)) :
  Acts prog 64 #[.agg #[.bool (decide (q.num<0)),.slice p n c,.slice p' n' c']] V fun r V'=>RQ V' r (-q):=by
 refine Bw _ p n c p' n' c' V _ fun f a=>(xM q.num (h1.le a)).mono ?_
 rintro r V2 e ⟨h,i,j,rfl,g⟩
 exact ⟨_,_,_,_,rfl,fun k b=>mG (q:=-q) (z:=-q.num) (d:=q.den) (by rfl) (by rfl) (g.le b) ((h2.le a).le (e.trans b)) rfl⟩
theorem nD {V:View}{p:OA}{n c x:Nat}(h:RN V p n c x) :
  Acts prog 69 #[.bool false,.slice p n c] V fun r V'=>RI V' r (x:Int):=by
 have:=dO false h
 rwa [if_neg (by decide)] at this
theorem bK {x:Rat}{k:Nat}(h:Sz k x):(ae x.num.natAbs).length<=k/\(ae x.den).length<=k/\(ae (x.den:Int).natAbs).length<=k:=⟨af h.1,af h.2,af h.2⟩
theorem lf {V:View}{v w:Value}{x y:Rat}(hx:RQ V v x)(hy:RQ V w y){k m:Nat}(hk:Sz k x)(hm:Sz m y)(hkm:k+m<274877906944) :
  Acts prog 65 #[v,w] V fun r V'=>RQ V' r (x+y):=by
 obtain ⟨p,n,c,p',n',c',rfl,j,b⟩:=hx
 obtain ⟨q,i,e,q',i',e',rfl,l,f⟩:=hy
 have D:=jZ b
 have xj:=jZ f
 obtain ⟨b1,b2,b3,b4⟩:=qk hk hm
 obtain ⟨d1,d2,d3⟩:=bK hk
 obtain ⟨d4,d5,d6⟩:=bK hm
 have o:x+y=mkRat (x.num*y.den+y.num*x.den) (x.den*y.den):=Rat.add_def' x y
 refine (fun tail=>zO _ p n c p' n' c' _ q i e q' i' e' V _ ⟨fun E=>⟨fun F V1 s=>?_,fun _=>tail⟩,fun _=>tail⟩) ?_
 ·clear tail
  have E:x.den=1:=D.1 (by simp at E;omega)
  have F:y.den=1:=xj.1 (by simp at F;omega)
  refine (ux x.num y.num (j.le s) (l.le s) (by omega) (by omega)).mono ?_
  rintro r V2 S ⟨p2,n2,c2,rfl,g⟩
  have e1:x+y=((x.num+y.num:Int):Rat):=by
   rw [o,E,F];simp [Rat.mkRat_one]
  rw [e1]
  exact ⟨_,_,_,_,rfl,fun V3 C=>mG (z:=x.num+y.num) (d:=1) rfl rfl (g.le C) RD.nil rfl⟩
 ·intro V1 s
  refine (cX y _ (f.le s)).mono ?_
  rintro r V2 S ⟨p1,n1,c1,rfl,g1⟩
  refine ⟨_,_,_,rfl,fun V3 C=>(nD (g1.le C)).mono ?_⟩
  rintro r V4 l4 ⟨p3,n3,c3,rfl,g3⟩
  have t:=s.trans (S.trans (C.trans l4))
  refine ⟨_,_,_,_,rfl,fun V5 G=>(ky x.num y.den (j.le (t.trans G)) (g3.le G) (by omega)).mono ?_⟩
  rintro r V6 l6 ⟨p5,n5,c5,rfl,g5⟩
  have T:=t.trans (G.trans l6)
  refine ⟨_,_,_,_,rfl,fun V7 H=>(cX x _ (b.le (T.trans H))).mono ?_⟩
  rintro r V8 U ⟨p7,n7,c7,rfl,g7⟩
  have L9:=T.trans (H.trans U)
  refine ⟨_,_,_,rfl,fun V9 I=>(nD (g7.le I)).mono ?_⟩
  rintro r a0 u ⟨p9,n9,c9,rfl,g9⟩
  have W:=L9.trans (I.trans u)
  refine ⟨_,_,_,_,rfl,fun a1 a=>(ky y.num x.den (l.le (W.trans a)) (g9.le a) (by omega)).mono ?_⟩
  rintro r a2 A ⟨RU,a3,a4,rfl,J⟩
  have Gm:=W.trans (a.trans A)
  refine ⟨_,_,_,_,rfl,fun a5 h=>(ux _ _ (g5.le (H.trans (U.trans (I.trans (u.trans (a.trans (A.trans h))))))) (J.le h) (Nat.le_trans (af b1) (by omega)) (Nat.le_trans (af b2) (by omega))).mono ?_⟩
  rintro r a6 eh ⟨S7,a7,a8,rfl,K⟩
  have X:=Gm.trans (h.trans eh)
  refine ⟨_,_,_,_,rfl,fun a9 L=>(cX x _ (b.le (X.trans L))).mono ?_⟩
  rintro r lV Y ⟨S8,b0,b5,rfl,M⟩
  have Et:=X.trans (L.trans Y)
  refine ⟨_,_,_,rfl,fun oB N=>(cX y _ (f.le (Et.trans N))).mono ?_⟩
  rintro r qj Z ⟨S9,b6,b7,rfl,O⟩
  refine ⟨_,_,_,rfl,fun vl P=>(bY (M.le (N.trans (Z.trans P))) (O.le P) (by omega)).mono ?_⟩
  rintro r BF kb ⟨S_,b8,b9,rfl,B⟩
  rw [ab,ab] at B
  refine ⟨_,_,_,rfl,fun sZ gN=>(qD _ (K.le (L.trans (Y.trans (N.trans (Z.trans (P.trans (kb.trans gN))))))) (B.le gN) (Nat.le_trans (af b3) (by omega)) (Nat.le_trans (af b4) (by omega)) (Nat.mul_ne_zero x.den_nz y.den_nz)).mono ?_⟩
  rw [o]
  rintro r xo kQ ⟨RX,c0,c4,Ma,c6,LS,rfl,Q,R⟩
  exact ⟨_,_,_,_,_,_,_,rfl,fun xp jP=>⟨_,_,_,_,_,_,rfl,Q.le jP,R.le jP⟩⟩
theorem cN {V:View}{v w:Value}{x y:Rat}(hx:RQ V v x)(hy:RQ V w y){k m:Nat}(hk:Sz k x)(hm:Sz m y)(hkm:k+m<274877906944) :
  Acts prog 66 #[v,w] V fun r V'=>RQ V' r (x*y):=by
 obtain ⟨p,n,c,K,L,M,rfl,b,f⟩:=hx
 obtain ⟨q,i,e,N,O,P,rfl,h,j⟩:=hy
 have s:=jZ f
 have Q:=jZ j
 obtain ⟨d1,d2,d3⟩:=bK hk
 obtain ⟨d4,d5,d6⟩:=bK hm
 have l:x*y=mkRat (x.num*y.num) (x.den*y.den):=Rat.mul_def' x y
 have b1:(x.num*y.num).natAbs<2^(k+m):=by rw [Int.natAbs_mul];exact bG hk.1 hm.1
 have b2:x.den*y.den<2^(k+m):=bG hk.2 hm.2
 refine (fun tail=>wX _ p n c K L M _ q i e N O P V _ ⟨fun t=>⟨fun u R a=>?_,fun _=>tail⟩,fun _=>tail⟩) ?_
 ·clear tail
  have t:x.den=1:=s.1 (by simp at t;omega)
  have u:y.den=1:=Q.1 (by simp at u;omega)
  refine (ky x.num y.num (b.le a) (h.le a) (by omega)).mono ?_
  rintro r V2 A ⟨S,T,U,rfl,g⟩
  have W:x*y=((x.num*y.num:Int):Rat):=by
   rw [l,t,u];simp [Rat.mkRat_one]
  rw [W]
  exact ⟨_,_,_,_,rfl,fun X o=>mG (z:=x.num*y.num) (d:=1) rfl rfl (g.le o) RD.nil rfl⟩
 ·intro R a
  refine (ky x.num y.num (b.le a) (h.le a) (by omega)).mono ?_
  rintro r V2 A ⟨S,T,U,rfl,Y⟩
  refine ⟨_,_,_,_,rfl,fun X o=>(cX x _ (f.le (a.trans (A.trans o)))).mono ?_⟩
  rintro r V4 F ⟨p4,n4,c4,rfl,Z⟩
  refine ⟨_,_,_,rfl,fun V5 B=>(cX y _ (j.le (a.trans (A.trans (o.trans (F.trans B)))))).mono ?_⟩
  rintro r V6 G ⟨p6,n6,c6,rfl,g6⟩
  refine ⟨_,_,_,rfl,fun V7 C=>(bY (Z.le (B.trans (G.trans C))) (g6.le C) (by omega)).mono ?_⟩
  rintro r V8 l8 ⟨p8,n8,c8,rfl,H⟩
  rw [ab,ab] at H
  refine ⟨_,_,_,rfl,fun V9 I=>(qD _ (Y.le (o.trans (F.trans (B.trans (G.trans (C.trans (l8.trans I))))))) (H.le I) (Nat.le_trans (af b1) (by omega)) (Nat.le_trans (af b2) (by omega)) (Nat.mul_ne_zero x.den_nz y.den_nz)).mono ?_⟩
  rw [l]
  rintro r xo kQ ⟨RX,a0,a1,Ma,a2,LS,rfl,D,E⟩
  exact ⟨_,_,_,_,_,_,_,rfl,fun xp J=>⟨_,_,_,_,_,_,rfl,D.le J,E.le J⟩⟩
end Go.Proofs.Tryz
namespace Go.Eng
open Go.Big
def RP (V:View)(v:Value)(x y:Rat):Prop:=∃p n c p' n' c' q m e q' m' e',v=.agg #[.bool (decide (x.num<0)),.slice p n c,.slice p' n' c',.bool (decide (y.num<0)),.slice q m e,.slice q' m' e'] /\
 RQ V (.agg #[.bool (decide (x.num<0)),.slice p n c,.slice p' n' c']) x/\RQ V (.agg #[.bool (decide (y.num<0)),.slice q m e,.slice q' m' e']) y
theorem RP.le {V V':View}{v:Value}{x y:Rat}(h:RP V v x y)(l:V.Le V'):RP V' v x y:=by
 obtain ⟨p,n,c,a,b,d,q,m,e,f,g,i,rfl,j,k⟩:=h
 exact ⟨p,n,c,a,b,d,q,m,e,f,g,i,rfl,j.le l,k.le l⟩
theorem RQ.shape {V:View}{v:Value}{q:Rat}(h:RQ V v q):∃p n c p' n' c',v=.agg #[.bool (decide (q.num<0)),.slice p n c,.slice p' n' c']:=by
 obtain ⟨p,n,c,p',n',c',e,-⟩:=h;exact ⟨_,_,_,_,_,_,e⟩
end Go.Eng
namespace Go.Proofs.Tryz
open Go.Eng Go.Big
theorem xO {V:View}{p:OA}{n c:Nat}{ds:List Nat}(h:RD V p n c ds)(hm:ds.length<=1099511627776) :
  Acts prog 107 #[.slice p n c] V fun r V'=>∃p1 n1 c1,r=.slice p1 n1 c1/\RD V' p1 n1 c1 ds:=by
 have a:=h.len
 refine wZ p n c V _ ⟨aA ds,h.sl,by simp [a],by omega,by omega,by simp,by simp [a],?_,?_⟩
 ·intro v e
  simp only [aA,List.mem_map] at e
  obtain ⟨d,-,rfl⟩:=e
  rfl
 ·intro i J sp j f k l m b g
  refine ⟨_,_,_,rfl,?_⟩
  simp only [Nat.zero_add,Nat.zero_mul,List.take_zero,List.nil_append] at g f ⊢
  exact copied h.cI a f g
theorem jX {V:View}{v:Value}{z:Int}(h:RI V v z)(hm:(ae z.natAbs).length<=1099511627776) :
  Acts prog 72 #[v] V fun r V'=>RI V' r z:=by
 obtain ⟨p,n,c,rfl,h⟩:=h
 refine wY _ p n c V _ fun d a=>(xO (h.le a) hm).mono ?_
 rintro r V2 e ⟨f,i,j,rfl,g⟩
 exact ⟨_,_,_,rfl,fun k b=>⟨_,_,_,rfl,g.le b⟩⟩
theorem qG {V:View}(x y:Int)(h0:-9223372036854775808<=x)(h1:x<=9223372036854775807)(h2:-9223372036854775808<=y)(h3:y<=9223372036854775807) :
  Acts prog 29 #[.int .i64 x,.int .i64 y] V fun r V'=>RP V' r (x:Rat) (y:Rat):=by
 refine zV x y V _ fun h i=>(qE x h0 h1).mono ?_
 rintro r V2 j a
 obtain ⟨p,n,c,k,l,o,rfl⟩:=a.shape
 refine ⟨_,_,_,_,_,_,_,rfl,fun s f=>(qE y h2 h3).mono ?_⟩
 rintro r t g b
 obtain ⟨q,m,e,u,v,w,rfl⟩:=b.shape
 exact ⟨_,_,_,_,_,_,_,rfl,fun z d=>⟨_,_,_,_,_,_,_,_,_,_,_,_,rfl,a.le (f.trans (g.trans d)),b.le d⟩⟩
theorem xP {V:View}{u v w:Value}{px py c qx qy:Rat}(hp:RP V u px py)(hc:RQ V v c)(hq:RP V w qx qy){k m:Nat}(s1:Sz k px)(s2:Sz k py)(s3:Sz m c)(s4:Sz m qx)(s5:Sz m qy)(hkm:k+(m+m+1)<274877906944) :
  Acts prog 91 #[u,v,w] V fun r V'=>RP V' r (px+c*qx) (py+c*qy):=by
 obtain ⟨x,y,z,A,B,C,D,E,F,G,H,I,rfl,e,f⟩:=hp
 obtain ⟨J,K,L,M,N,O,rfl⟩:=hc.shape
 obtain ⟨P,Q,R,S,T,U,W,X,Y,Z,m4,e4,rfl,g,h⟩:=hq
 refine w_ _ x y z A B C _ D E F G H I _ J K L M N O _ P Q R S T U _ W X Y Z m4 e4 V _ fun V1 b=>(cN (hc.le b) (g.le b) s3 s4 (by omega)).mono ?_
 rintro r V2 l n
 obtain ⟨a1,a2,a3,a4,a5,a6,rfl⟩:=n.shape
 refine ⟨_,_,_,_,_,_,_,rfl,fun V3 i=>(lf (e.le (b.trans (l.trans i))) (n.le i) s1 (s3.mul s4) (by omega)).mono ?_⟩
 rintro r V4 l4 o
 obtain ⟨b1,b2,b3,b4,b5,b6,rfl⟩:=o.shape
 have a:=b.trans (l.trans (i.trans l4))
 refine ⟨_,_,_,_,_,_,_,rfl,fun V5 d=>(cN (hc.le (a.trans d)) (h.le (a.trans d)) s3 s5 (by omega)).mono ?_⟩
 rintro r V6 p q
 obtain ⟨d1,d2,d3,d4,d5,d6,rfl⟩:=q.shape
 refine ⟨_,_,_,_,_,_,_,rfl,fun V7 j=>(lf (f.le (a.trans (d.trans (p.trans j)))) (q.le j) s2 (s3.mul s5) (by omega)).mono ?_⟩
 rintro r V8 l8 s
 obtain ⟨f1,f2,f3,f4,f5,f6,rfl⟩:=s.shape
 exact ⟨_,_,_,_,_,_,_,rfl,fun V9 t=>⟨_,_,_,_,_,_,_,_,_,_,_,_,rfl,o.le (d.trans (p.trans (j.trans (l8.trans t)))),s.le t⟩⟩
theorem G5:Sz 1 ((-1:Int):Rat):=by unfold Sz;decide
theorem xQ {V:View}{u w:Value}{px py qx qy:Rat}(hp:RP V u px py)(hq:RP V w qx qy){k m:Nat}(s1:Sz k px)(s2:Sz k py)(s4:Sz m qx)(s5:Sz m qy)(hm:1<=m)(hkm:k+(m+m+1)<274877906944) :
  Acts prog 63 #[u,w] V fun r V'=>RP V' r (px-qx) (py-qy):=by
 have e:=hp
 have f:=hq
 obtain ⟨j,l,n,o,p,q,s,t,v,x,y,z,rfl,-,-⟩:=hp
 obtain ⟨A,B,d,C,D,E,F,G,H,I,J,K,rfl,-,-⟩:=hq
 refine xd _ j l n o p q _ s t v x y z _ A B d C D E _ F G H I J K V _ fun S L=>(qE (-1) (by omega) (by omega)).mono ?_
 rintro r V2 M h
 obtain ⟨T,U,W,X,Y,Z,rfl⟩:=h.shape
 have c:=L.trans M
 refine ⟨_,_,_,_,_,_,_,rfl,fun V3 g=>(xP (e.le (c.trans g)) (h.le g) (f.le (c.trans g)) s1 s2 (G5.mono hm) s4 s5 hkm).mono ?_⟩
 have d:∀a b:Rat,a+((-1:Int):Rat)*b=a-b:=by
  intro a b
  have:((-1:Int):Rat)=-1:=rfl
  rw [this,Rat.neg_mul,Rat.one_mul,Rat.sub_eq_add_neg]
 rw [d,d]
 rintro r V4 l4 ⟨b1,b2,b3,b4,b5,b6,b7,b8,b9,N,O,P,rfl,Q,R⟩
 exact ⟨_,_,_,_,_,_,_,_,_,_,_,_,_,_,rfl,fun V5 i=>⟨_,_,_,_,_,_,_,_,_,_,_,_,rfl,Q.le i,R.le i⟩⟩
end Go.Proofs.Tryz
namespace Go.Eng
open Go.Big
def RL (V:View)(v:Value)(a b c:Int):Prop:=∃p n s p' n' s' q m e,v=.agg #[.bool (decide (a<0)),.slice p n s,.bool (decide (b<0)),.slice p' n' s',.bool (decide (c<0)),.slice q m e] /\
 RD V p n s (ae a.natAbs)/\RD V p' n' s' (ae b.natAbs)/\RD V q m e (ae c.natAbs)
theorem RL.le {V V':View}{v:Value}{a b c:Int}(h:RL V v a b c)(l:V.Le V'):RL V' v a b c:=by
 obtain ⟨p,n,s,d,f,g,q,m,e,rfl,i,j,k⟩:=h
 exact ⟨p,n,s,d,f,g,q,m,e,rfl,i.le l,j.le l,k.le l⟩
end Go.Eng
namespace Go.Proofs.Tryz
open Go.Eng Go.Big
theorem xR {V:View}{v:Value}{a b c:Int}(hx:RL V v a b c)(h1:(ae a.natAbs).length<=1099511627776)(h2:(ae b.natAbs).length<=1099511627776)(h3:(ae c.natAbs).length<=1099511627776) :
  Acts prog 30 #[v] V fun r V'=>RL V' r a b c:=by
 obtain ⟨p,n,s,l,o,t,q,m,e,rfl,u,w,x⟩:=hx
 refine xe _ p n s _ l o t _ q m e V _ fun B d=>(jX ⟨_,_,_,rfl,u.le d⟩ h1).mono ?_
 rintro r V2 i ⟨C,D,E,rfl,y⟩
 refine ⟨_,_,_,_,rfl,fun F f=>(jX ⟨_,_,_,rfl,w.le (d.trans (i.trans f))⟩ h2).mono ?_⟩
 rintro r G j ⟨H,I,J,rfl,z⟩
 refine ⟨_,_,_,_,rfl,fun K g=>(jX ⟨_,_,_,rfl,x.le (d.trans (i.trans (f.trans (j.trans g))))⟩ h3).mono ?_⟩
 rintro r L k ⟨M,N,O,rfl,A⟩
 exact ⟨_,_,_,_,rfl,fun P h=>⟨_,_,_,_,_,_,_,_,_,rfl,y.le (f.trans (j.trans (g.trans (k.trans h)))),z.le (g.trans (k.trans h)),A.le h⟩⟩
theorem qR {z:Int}{g:Nat}(hg:0<g)(hd:g∣z.natAbs):(if decide (z<0)=true then -((z.natAbs / g:Nat):Int) else ((z.natAbs / g:Nat):Int))=z / (g:Int):=by
 obtain ⟨k,a⟩:=hd
 have b:z.natAbs / g=k:=by rw [a,Nat.mul_div_cancel_left _ hg]
 rw [b]
 have c:z=(g:Int)*(if decide (z<0)=true then -(k:Int) else k):=by
  split
  ·rename_i h
   rw [decide_eq_true_eq] at h
   rw [Int.mul_neg,←Int.natCast_mul,←a];omega
  ·rename_i h
   rw [decide_eq_true_eq] at h
   rw [←Int.natCast_mul,←a];omega
 generalize (if decide (z<0)=true then -(k:Int) else k)=t at *
 rw [c,Int.mul_ediv_cancel_left _ (by omega)]
def ij (a b c:Int):Nat:=Nat.gcd (Nat.gcd a.natAbs b.natAbs) c.natAbs
theorem th {V:View}{u v w:Value}{a b c:Int}(ha:RI V u a)(hb:RI V v b)(hc:RI V w c)(h1:(ae a.natAbs).length<=274877906944)(h2:(ae b.natAbs).length<=274877906944)(h3:(ae c.natAbs).length<=274877906944) :
  Acts prog 70 #[u,v,w] V fun r V'=>(a=0/\b=0->∃l,r=.tuple #[l,.bool false]/\RL V' l 0 0 0) /\
   (¬(a=0/\b=0)->∃l,r=.tuple #[l,.bool true]/\RL V' l (a / (ij a b c:Int)) (b / (ij a b c:Int)) (c / (ij a b c:Int))):=by
 obtain ⟨p,n,s,rfl,ha⟩:=ha
 obtain ⟨T,U,W,rfl,hb⟩:=hb
 obtain ⟨q,m,e,rfl,hc⟩:=hc
 refine sL _ p n s _ T U W _ q m e V _ fun V1 y=>(eF (ha.le y) (hb.le y) h1 h2).mono ?_
 rintro r V2 N ⟨p1,n1,c1,rfl,O⟩
 have hp:=fM O.len
 have g:Nat.gcd a.natAbs b.natAbs=0↔a=0/\b=0:=by rw [Nat.gcd_eq_zero_iff];omega
 refine ⟨_,_,_,rfl,fun B V3 l3=>⟨fun _=>⟨_,rfl,_,_,_,_,_,_,_,_,_,rfl,RD.nil,RD.nil,RD.nil⟩,fun h=>?_⟩,fun B V4 C=>?_⟩
 ·exact absurd (g.1 (by simp at B;omega)) h
 have D:¬(a=0/\b=0):=fun h=>by have:=g.2 h;simp at B;omega
 have k:0<Nat.gcd a.natAbs b.natAbs:=by have:=g;omega
 have o:(ae (Nat.gcd a.natAbs b.natAbs)).length<=274877906944:=by
  rcases Nat.eq_zero_or_pos a.natAbs with h|h
  ·rw [h,Nat.gcd_zero_left];exact h2
  ·exact Nat.le_trans (ay (Nat.gcd_le_left _ h)) h1
 refine (eF (O.le C) (hc.le (y.trans (N.trans C))) o h3).mono ?_
 rintro r V5 X ⟨p2,n2,c2,rfl,z⟩
 have i:=y.trans (N.trans (C.trans X))
 have Y:Nat.gcd (Nat.gcd a.natAbs b.natAbs) c.natAbs=ij a b c:=rfl
 have d:0<ij a b c:=Nat.gcd_pos_of_pos_left _ k
 have E:(ae (ij a b c)).length<=274877906944:=Nat.le_trans (ay (Nat.gcd_le_left _ k)) o
 have Z:ij a b c∣a.natAbs:=Nat.dvd_trans (Nat.gcd_dvd_left _ _) (Nat.gcd_dvd_left _ _)
 have db:ij a b c∣b.natAbs:=Nat.dvd_trans (Nat.gcd_dvd_left _ _) (Nat.gcd_dvd_right _ _)
 have dc:ij a b c∣c.natAbs:=Nat.gcd_dvd_right _ _
 have sa:=qR d Z
 have sb:=qR d db
 have sc:=qR d dc
 rw [Y] at z
 generalize ij a b c=G at *
 refine ⟨_,_,_,rfl,fun V6 F=>(cY (ha.le (i.trans F)) (z.le F) h1 E d).mono ?_⟩
 rintro r V7 l7 ⟨p3,n3,c3,p4,n4,c4,rfl,g3,-⟩
 have H:=F.trans l7
 refine ⟨_,_,_,_,_,_,rfl,fun V8 A=>(cY (hb.le (i.trans (H.trans A))) (z.le (H.trans A)) h2 E d).mono ?_⟩
 rintro r V9 P ⟨p5,n5,c5,p6,n6,c6,rfl,g5,-⟩
 have Q:=H.trans (A.trans P)
 refine ⟨_,_,_,_,_,_,rfl,fun a0 f=>(cY (hc.le (i.trans (Q.trans f))) (z.le (Q.trans f)) h3 E d).mono ?_⟩
 rintro r a1 t ⟨p7,n7,c7,p8,n8,c8,rfl,g7,-⟩
 refine ⟨_,_,_,_,_,_,rfl,fun a2 j=>(dO _ (g3.le (A.trans (P.trans (f.trans (t.trans j)))))).mono ?_⟩
 rw [sa]
 rintro r a3 x ⟨p9,n9,c9,rfl,g9⟩
 refine ⟨_,_,_,_,rfl,fun a4 I=>(dO _ (g5.le (f.trans (t.trans (j.trans (x.trans I)))))).mono ?_⟩
 rw [sb]
 rintro r a5 R ⟨NB,a6,a7,rfl,J⟩
 refine ⟨_,_,_,_,rfl,fun lV K=>(dO _ (g7.le (j.trans (x.trans (I.trans (R.trans K)))))).mono ?_⟩
 rw [sc]
 rintro r oB S ⟨RU,a8,a9,rfl,L⟩
 refine ⟨_,_,_,_,rfl,fun qj M=>⟨fun h=>absurd h D,fun _=>⟨_,rfl,_,_,_,_,_,_,_,_,_,rfl,?_,?_,?_⟩⟩⟩
 ·exact g9.le (I.trans (R.trans (K.trans (S.trans M))))
 ·exact J.le (K.trans (S.trans M))
 ·exact L.le M
end Go.Proofs.Tryz
namespace Go.Eng
open Go.Big
def pt (V:View)(v:Value)(a b c:Rat):Prop:=∃(x1 x2:Int)(p:OA)(y1 y2:Int)(q:OA)(z1 z2:Int)(r:OA),v=.agg #[.int .i64 x1,.int .i64 x2,.pointer p,.int .i64 y1,.int .i64 y2,.pointer q,.int .i64 z1,.int .i64 z2,.pointer r] /\
 RR V (.agg #[.int .i64 x1,.int .i64 x2,.pointer p]) a/\RR V (.agg #[.int .i64 y1,.int .i64 y2,.pointer q]) b/\RR V (.agg #[.int .i64 z1,.int .i64 z2,.pointer r]) c
def FH (v:Value):Prop:=∃(x1 x2:Int)(x3:OA)(y1 y2:Int)(y3:OA)(z1 z2:Int)(z3:OA),v=.agg #[.int .i64 x1,.int .i64 x2,.pointer x3,.int .i64 y1,.int .i64 y2,.pointer y3,.int .i64 z1,.int .i64 z2,.pointer z3]
theorem pt.le {V V':View}{v:Value}{a b c:Rat}(h:pt V v a b c)(l:V.Le V'):pt V' v a b c:=by
 obtain ⟨d,e,p,f,g,q,i,j,r,rfl,k,m,n⟩:=h
 exact ⟨d,e,p,f,g,q,i,j,r,rfl,k.le l,m.le l,n.le l⟩
end Go.Eng
namespace Go.Proofs.Tryz
open Go.Eng Go.Big
theorem Cy {V:View}{v:Value}{a b c:Rat}(h:pt V v a b c){k:Nat}(s1:Sz k a)(s2:Sz k b)(s3:Sz k c)(hk:k<=1099511627776) :
  Acts prog 96 #[v] V fun r V'=>RL V' r a.num b.num c.num:=by
 obtain ⟨w,x,p,y,z,q,A,B,r,rfl,m,n,o⟩:=h
 refine tJ _ _ _ _ _ _ _ _ _ V _ fun C d=>(ew (m.le d) s1 hk).mono ?_
 rintro r V2 i ⟨D,E,F,rfl,s⟩
 refine ⟨_,_,_,_,rfl,fun G e=>(ew (n.le (d.trans (i.trans e))) s2 hk).mono ?_⟩
 rintro r H j ⟨I,J,K,rfl,t⟩
 refine ⟨_,_,_,_,rfl,fun L f=>(ew (o.le (d.trans (i.trans (e.trans (j.trans f))))) s3 hk).mono ?_⟩
 rintro r M l ⟨N,O,P,rfl,u⟩
 exact ⟨_,_,_,_,rfl,fun Q g=>⟨_,_,_,_,_,_,_,_,_,rfl,s.le (e.trans (j.trans (f.trans (l.trans g)))),t.le (f.trans (l.trans g)),u.le g⟩⟩
def gP (b1:Bool)(xs:List Nat)(b2:Bool)(ys:List Nat)(b3:Bool)(zs:List Nat):Bool:=
 eo b1 xs&&eo b2 ys&&eo b3 zs&&!(decide ((aq b1 xs:Rat)=0)&&decide ((aq b2 ys:Rat)=0))&&decide (fy (fy (aq b1 xs) (aq b2 ys)) (aq b3 zs)=((1:Int):Rat))
theorem nR {V:View}{ok:Bool}{A B C:Rat}(h:ok=false):∃v,Value.tuple #[.agg #[.int .i64 0,.int .i64 0,.pointer none,.int .i64 0,.int .i64 0,.pointer none,.int .i64 0,.int .i64 0,.pointer none],.bool false]=.tuple #[v,.bool ok]/\FH v/\(ok=true->pt V v A B C):=by
 subst h;exact ⟨_,rfl,⟨_,_,_,_,_,_,_,_,_,rfl⟩,fun h=>nomatch h⟩
theorem Ba:Sz 1 ((1:Int):Rat):=by unfold Sz;decide
theorem qB {V:View}(b1 b2 b3:Bool){p q s:OA}{n c m e i j:Nat}{xs ys zs:List Nat}(hx:RD V p n c xs)(hy:RD V q m e ys)(hz:RD V s i j zs)
  (h1:xs.length<=1099511627776)(h2:ys.length<=1099511627776)(h3:zs.length<=1099511627776){k:Nat}(s1:Sz k (aq b1 xs:Rat))(s2:Sz k (aq b2 ys:Rat))(s3:Sz k (aq b3 zs:Rat))(hk:4*k+4<1099511627776) :
  Acts prog 132 #[.agg #[.bool b1,.slice p n c,.bool b2,.slice q m e,.bool b3,.slice s i j]] V fun r V'=>∃v,r=.tuple #[v,.bool (gP b1 xs b2 ys b3 zs)]/\FH v/\(gP b1 xs b2 ys b3 zs=true->pt V' v (aq b1 xs) (aq b2 ys) (aq b3 zs)):=by
 refine zC _ p n c _ q m e _ s i j V _ fun V1 J=>(eU b1 (hx.le J) h1).mono ?_
 rintro r V2 L rfl
 refine ⟨_,rfl,fun l V3 l3=>nR ?_,fun l V4 M=>(eU b2 (hy.le (J.trans (L.trans M))) h2).mono ?_⟩
 ·have l:eo b1 xs=false:=by simpa using l
  simp [gP,l]
 have l:eo b1 xs=true:=by simpa using l
 rintro r V5 Y rfl
 refine ⟨_,rfl,fun o V6 l6=>nR ?_,fun o V7 Z=>(eU b3 (hz.le (J.trans (L.trans (M.trans (Y.trans Z))))) h3).mono ?_⟩
 ·have o:eo b2 ys=false:=by simpa using o
  simp [gP,o]
 have o:eo b2 ys=true:=by simpa using o
 rintro r V8 l8 rfl
 have L9:=J.trans (L.trans (M.trans (Y.trans (Z.trans l8))))
 refine ⟨_,rfl,fun f0 V9 l9=>nR ?_,fun f0 a0 D=>(je b1 (hx.le (L9.trans D)) h1).mono ?_⟩
 ·have f0:eo b3 zs=false:=by simpa using f0
  simp [gP,f0]
 have f0:eo b3 zs=true:=by simpa using f0
 rintro r a1 N t
 obtain ⟨x1,x2,x3,rfl⟩:=t.shape
 have Kr:=L9.trans (D.trans N)
 refine ⟨_,_,_,rfl,fun a2 w=>(je b2 (hy.le (Kr.trans w)) h2).mono ?_⟩
 rintro r a3 E u
 obtain ⟨y1,y2,y3,rfl⟩:=u.shape
 have Er:=Kr.trans (w.trans E)
 refine ⟨_,_,_,rfl,fun a4 O=>(je b3 (hz.le (Er.trans O)) h3).mono ?_⟩
 rintro r g en rc
 obtain ⟨z1,z2,z3,rfl⟩:=rc.shape
 replace t:=t.le (w.trans (E.trans (O.trans en)))
 replace u:=u.le (O.trans en)
 have F:gP b1 xs b2 ys b3 zs=(!(decide ((aq b1 xs:Rat)=0)&&decide ((aq b2 ys:Rat)=0))&&decide (fy (fy (aq b1 xs) (aq b2 ys)) (aq b3 zs)=((1:Int):Rat))):=by
  simp only [gP,l,o,f0,Bool.true_and]
 rw [F]
 clear F l o f0 hx hy hz
 generalize (aq b1 xs:Rat)=A at *
 generalize (aq b2 ys:Rat)=B at *
 generalize (aq b3 zs:Rat)=C at *
 refine ⟨_,_,_,rfl,fun lV K=>(xG (t.le K)).mono ?_⟩
 rintro r oB P rfl
 refine ⟨_,rfl,fun t0 qj eQ=>(xG (u.le (K.trans (P.trans eQ)))).mono ?_,fun t0 Q R=>?_⟩
 ·rintro r vl fW rfl
  refine ⟨_,rfl,fun S BF kb=>nR (by rw [t0,S];rfl),fun S Q R=>?_⟩
  have lb:g.Le Q:=K.trans (P.trans (eQ.trans (fW.trans R)))
  have T:(decide (A=0)&&decide (B=0))=false:=by rw [S,Bool.and_false]
  rw [T]
  refine (jd (t.le lb) (u.le lb) s1 s2 (by omega)).mono ?_
  rintro r xo G rg
  obtain ⟨g1,g2,g3,rfl⟩:=rg.shape
  refine ⟨_,_,_,rfl,fun xp x=>(jd (rg.le x) (rc.le (lb.trans (G.trans x))) (kx s1 s2) s3 (by omega)).mono ?_⟩
  rintro r FK U H
  obtain ⟨h1,h2,h3,rfl⟩:=H.shape
  refine ⟨_,_,_,rfl,fun FL d=>(gj 1 (by omega) (by omega)).mono ?_⟩
  rintro r LM f I
  obtain ⟨i1,i2,i3,rfl⟩:=I.shape
  refine ⟨_,_,_,rfl,fun LN a=>(uo (H.le (d.trans (f.trans a))) (I.le a) (kx (kx s1 s2) s3) Ba (by omega)).mono ?_⟩
  rintro r W X rfl
  have y:g.Le W:=lb.trans (G.trans (x.trans (U.trans (d.trans (f.trans (a.trans X))))))
  refine ⟨_,rfl,fun b Ou Jm=>nR ?_,fun b LP z=>?_⟩
  ·rw [Bool.not_eq_true'] at b
   rw [b];rfl
  ·have b:decide (fy (fy A B) C=((1:Int):Rat))=true:=by
    cases h:decide (fy (fy A B) C=((1:Int):Rat))
    ·rw [h] at b;cases b
    ·rfl
   rw [b]
   exact ⟨_,rfl,⟨_,_,_,_,_,_,_,_,_,rfl⟩,fun _=>⟨_,_,_,_,_,_,_,_,_,rfl,t.le (y.trans z),u.le (y.trans z),rc.le (y.trans z)⟩⟩
 ·have lb:g.Le Q:=K.trans (P.trans R)
  have T:(decide (A=0)&&decide (B=0))=false:=by rw [t0,Bool.false_and]
  rw [T]
  refine (jd (t.le lb) (u.le lb) s1 s2 (by omega)).mono ?_
  rintro r xo G rg
  obtain ⟨g1,g2,g3,rfl⟩:=rg.shape
  refine ⟨_,_,_,rfl,fun xp x=>(jd (rg.le x) (rc.le (lb.trans (G.trans x))) (kx s1 s2) s3 (by omega)).mono ?_⟩
  rintro r FK U H
  obtain ⟨h1,h2,h3,rfl⟩:=H.shape
  refine ⟨_,_,_,rfl,fun FL d=>(gj 1 (by omega) (by omega)).mono ?_⟩
  rintro r LM f I
  obtain ⟨i1,i2,i3,rfl⟩:=I.shape
  refine ⟨_,_,_,rfl,fun LN a=>(uo (H.le (d.trans (f.trans a))) (I.le a) (kx (kx s1 s2) s3) Ba (by omega)).mono ?_⟩
  rintro r W X rfl
  have y:g.Le W:=lb.trans (G.trans (x.trans (U.trans (d.trans (f.trans (a.trans X))))))
  refine ⟨_,rfl,fun b Ou Jm=>nR ?_,fun b LP z=>?_⟩
  ·rw [Bool.not_eq_true'] at b
   rw [b];rfl
  ·have b:decide (fy (fy A B) C=((1:Int):Rat))=true:=by
    cases h:decide (fy (fy A B) C=((1:Int):Rat))
    ·rw [h] at b;cases b
    ·rfl
   rw [b]
   exact ⟨_,rfl,⟨_,_,_,_,_,_,_,_,_,rfl⟩,fun _=>⟨_,_,_,_,_,_,_,_,_,rfl,t.le (y.trans z),u.le (y.trans z),rc.le (y.trans z)⟩⟩
def GA:List Int->Int
 | []=>0
 | x::r=>if x=0 then GA r else x
def Io (l:List Int):List Value:=l.map fun x=>Value.int .i64 x
theorem IK {l:List Int}:GA l=0↔∀x∈l,x=0:=by
 induction l with
 | nil=>simp [GA]
 | cons x r ih=>
  simp only [GA,List.mem_cons,forall_eq_or_imp]
  split
  ·rename_i h;simp [h,ih]
  ·rename_i h;simp [h]
theorem DY {V:View}{p:OA}{n c:Nat}{l:List Int}(hl:n=l.length)(hs:V.sl p (Io l))(hm:l.length<=1099511627776) :
  Acts prog 245 #[.slice p n c] V fun r V'=>r=.int .i64 (GA l):=by
 refine Dr p n c V _ ⟨fun z V'=>0<=z/\z<=n/\GA l=GA (l.drop z.toNat),fun z=>n-z.toNat,⟨0,by (try dsimp only);and_intros<;>first|exact True.intro|rfl,by (try dsimp only);omega,by (try dsimp only);omega,rfl⟩,?_⟩
 rintro i m j ⟨e,f,he⟩
 dsimp only at f he ⊢
 obtain ⟨i,rfl⟩:=Int.eq_ofNat_of_zero_le e
 simp only [Int.toNat_natCast] at he
 refine ⟨by trivial,fun b=>?_,fun b o q=>?_⟩
 ·have b:i<n:=by simpa using b
  have d:i<l.length:=by omega
  obtain ⟨k,h,g⟩:=(j.sl hs) i (.int .i64 l[i]) (by simp [Io,d])
  rw [List.drop_eq_getElem_cons d,GA] at he
  refine ⟨by rw [h];rfl,⟨by omega,by omega⟩,l[i],⟨k.add i,by rw [h];simp [addrAdd],g⟩,fun a V2 s=>?_,fun a=>?_⟩
  ·have a:l[i]≠0:=by simpa using a
   rw [if_neg a] at he
   rw [he]
  ·have a:l[i]=0:=by simpa using a
   rw [if_pos a] at he
   have w:i64.wrap ((i:Int)+1)=((i+1:Nat):Int):=by rw [i64w (by omega)];omega
   simp only [w]
   refine ⟨((i+1:Nat):Int),?_,by (try dsimp only);and_intros<;>first|exact True.intro|rfl,by (try dsimp only);omega,by (try dsimp only);omega,?_⟩
   ·(try dsimp only);omega
   ·exact he
 ·have b:i=n:=by simp at b;omega
  rw [List.drop_of_length_le (by omega)] at he
  rw [he];rfl
theorem Cz {V:View}{v w:Value}{a b c a' b' c':Rat}(hx:pt V v a b c)(hy:pt V w a' b' c'){k m:Nat}(s1:Sz k a)(s2:Sz k b)(s3:Sz k c)(t1:Sz m a')(t2:Sz m b')(t3:Sz m c')(hk:k+m<1099511627776) :
  Acts prog 231 #[v,w] V fun r V'=>r=.int .i64 (GA [fv a a',fv b b',fv c c']):=by
 obtain ⟨A,B,p,C,D,q,E,F,r,rfl,j,n,o⟩:=hx
 obtain ⟨G,H,I,J,K,L,M,N,O,rfl,s,t,u⟩:=hy
 refine tK _ _ _ _ _ _ _ _ _ _ _ _ _ _ _ _ _ _ V _ fun P d=>(jc (j.le d) (s.le d) s1 t1 hk).mono ?_
 rintro r V2 f rfl
 refine ⟨_,rfl,fun Q g=>(jc (n.le (d.trans (f.trans g))) (t.le (d.trans (f.trans g))) s2 t2 hk).mono ?_⟩
 rintro r R x rfl
 have e:=d.trans (f.trans (g.trans x))
 refine ⟨_,rfl,fun S h=>(jc (o.le (e.trans h)) (u.le (e.trans h)) s3 t3 hk).mono ?_⟩
 rintro r T U rfl
 refine ⟨_,rfl,fun W X Y y=>(DY (l:=[fv a a',fv b b',fv c c']) rfl (fun i v z=>⟨_,rfl,by rw [add_zero'];exact blk_at (xs:=Io [fv a a',fv b b',fv c c']) y z⟩) (by simp)).mono ?_⟩
 rintro r Z l8 rfl
 exact ⟨_,rfl,fun _ V9 l9=>rfl⟩
theorem xI {V:View}{v w:Value}{a b c a' b' c':Rat}(hx:pt V v a b c)(hy:pt V w a' b' c'){k m:Nat}(s1:Sz k a)(s2:Sz k b)(s3:Sz k c)(t1:Sz m a')(t2:Sz m b')(t3:Sz m c')(hk:k+m<1099511627776) :
  Acts prog 197 #[v,w] V fun r V'=>r=.bool (decide (a=a'/\b=b'/\c=c')):=by
 have d:=hx
 have e:=hy
 obtain ⟨g,h,p,i,j,q,l,n,r,rfl,-,-,-⟩:=hx
 obtain ⟨o,s,t,u,x,y,z,A,B,rfl,-,-,-⟩:=hy
 refine pN _ _ _ _ _ _ _ _ _ _ _ _ _ _ _ _ _ _ V _ fun C f=>(Cz (d.le f) (e.le f) s1 s2 s3 t1 t2 t3 hk).mono ?_
 rintro r V2 D rfl
 refine ⟨_,rfl,fun E F=>?_⟩
 congr 1
 rw [Bool.eq_iff_iff,decide_eq_true_eq,beq_iff_eq,IK]
 simp [←pW]
def RPt (V:View)(v:Value)(x y:Rat):Prop:=∃(x1 x2:Int)(p:OA)(y1 y2:Int)(q:OA),v=.agg #[.int .i64 x1,.int .i64 x2,.pointer p,.int .i64 y1,.int .i64 y2,.pointer q] /\
 RR V (.agg #[.int .i64 x1,.int .i64 x2,.pointer p]) x/\RR V (.agg #[.int .i64 y1,.int .i64 y2,.pointer q]) y
theorem RPt.le {V V':View}{v:Value}{x y:Rat}(h:RPt V v x y)(l:V.Le V'):RPt V' v x y:=by
 obtain ⟨a,b,p,c,d,q,e,f,g⟩:=h
 exact ⟨a,b,p,c,d,q,e,f.le l,g.le l⟩
theorem vH {V:View}{p:Value}{iB iC:Rat}{q:Value}{sR sS:Rat}(hp:RPt V p iB iC)(hq:RPt V q sR sS){k:Nat}(fN:Sz k iB)(fO:Sz k iC)(mM:Sz k sR)(mN:Sz k sS)(hk:2*k+1<274877906944) :
  Acts prog 233 #[p,q] V fun r V'=>RPt V' r ((iB)+(sR)) ((iC)+(sS)):=by
 have i:=hp
 obtain ⟨j,l,m,n,o,s,rfl,t,u⟩:=hp
 have v:=hq
 obtain ⟨w,x,y,z,A,B,rfl,C,D⟩:=hq
 refine tN j l m n o s w x y z A B V _ fun F a=>(ja (t.le (a)) (C.le (a)) fN mM (by omega)).mono ?_
 rintro r V2 e f
 have b:=f
 obtain ⟨G,H,I,rfl⟩:=f.shape
 refine ⟨_,_,_,rfl,fun J c=>(ja (u.le (a.trans (e.trans (c)))) (D.le (a.trans (e.trans (c)))) fO mN (by omega)).mono ?_⟩
 rintro r K E g
 have d:=g
 obtain ⟨L,M,N,rfl⟩:=g.shape
 exact ⟨_,_,_,rfl,fun O h=>⟨_,_,_,_,_,_,rfl,(b.le (c.trans (E.trans (h)))),(d.le (h))⟩⟩
theorem sO {iB iC sR sS:Rat}{k:Nat}(fN:Sz k iB)(fO:Sz k iC)(mM:Sz k sR)(mN:Sz k sS):Sz (2*k+1) ((iB)+(sR)):=by
 have a:=Sz.mono (m:=2*k+1) (Sz.add fN mM) (by omega)
 exact Sz.mono a (by omega)
theorem sP {iB iC sR sS:Rat}{k:Nat}(fN:Sz k iB)(fO:Sz k iC)(mM:Sz k sR)(mN:Sz k sS):Sz (2*k+1) ((iC)+(sS)):=by
 have a:=Sz.mono (m:=2*k+1) (Sz.add fO mN) (by omega)
 exact Sz.mono a (by omega)
theorem jU {V:View}{p:Value}{iB iC:Rat}{c:Value}{FA:Rat}(hp:RPt V p iB iC)(hc:RR V c FA){k:Nat}(fN:Sz k iB)(fO:Sz k iC)(Dg:Sz k FA)(hk:2*k+1<274877906944) :
  Acts prog 234 #[p,c] V fun r V'=>RPt V' r ((iB)*(FA)) ((iC)*(FA)):=by
 have l:=hp
 obtain ⟨m,n,o,q,s,t,rfl,u,v⟩:=hp
 have a:=hc
 obtain ⟨w,x,y,rfl⟩:=hc.shape
 refine pQ m n o q s t w x y V _ fun A b=>(gS (u.le (b)) (a.le (b)) fN Dg (by omega)).mono ?_
 rintro r V2 g h
 have d:=h
 obtain ⟨B,C,D,rfl⟩:=h.shape
 refine ⟨_,_,_,rfl,fun E e=>(gS (v.le (b.trans (g.trans (e)))) (a.le (b.trans (g.trans (e)))) fO Dg (by omega)).mono ?_⟩
 rintro r F z i
 have f:=i
 obtain ⟨G,H,I,rfl⟩:=i.shape
 exact ⟨_,_,_,rfl,fun J j=>⟨_,_,_,_,_,_,rfl,(d.le (e.trans (z.trans (j)))),(f.le (j))⟩⟩
theorem dj {iB iC FA:Rat}{k:Nat}(fN:Sz k iB)(fO:Sz k iC)(Dg:Sz k FA):Sz (2*k+1) ((iB)*(FA)):=by
 have a:=Sz.mono (m:=2*k+1) (Sz.mul fN Dg) (by omega)
 exact Sz.mono a (by omega)
theorem dk {iB iC FA:Rat}{k:Nat}(fN:Sz k iB)(fO:Sz k iC)(Dg:Sz k FA):Sz (2*k+1) ((iC)*(FA)):=by
 have a:=Sz.mono (m:=2*k+1) (Sz.mul fO Dg) (by omega)
 exact Sz.mono a (by omega)
theorem jg {V:View}{p:Value}{iB iC:Rat}{q:Value}{sR sS:Rat}(hp:RPt V p iB iC)(hq:RPt V q sR sS){k:Nat}(fN:Sz k iB)(fO:Sz k iC)(mM:Sz k sR)(mN:Sz k sS)(hk:4*k+3<274877906944) :
  Acts prog 174 #[p,q] V fun r V'=>RR V' r (((iB)*(sR))+((iC)*(sS))):=by
 have j:=hp
 obtain ⟨l,n,o,s,t,u,rfl,v,w⟩:=hp
 have x:=hq
 obtain ⟨y,z,A,B,C,D,rfl,E,F⟩:=hq
 refine tO l n o s t u y z A B C D V _ fun L a=>(gS (v.le (a)) (E.le (a)) fN mM (by omega)).mono ?_
 rintro r V2 e f
 have b:=f
 obtain ⟨M,N,O,rfl⟩:=f.shape
 have G:=Sz.mono (m:=2*k+1) (Sz.mul fN mM) (by omega)
 refine ⟨_,_,_,rfl,fun P c=>(gS (w.le (a.trans (e.trans (c)))) (F.le (a.trans (e.trans (c)))) fO mN (by omega)).mono ?_⟩
 rintro r Q H g
 have d:=g
 obtain ⟨R,S,T,rfl⟩:=g.shape
 have I:=Sz.mono (m:=2*k+1) (Sz.mul fO mN) (by omega)
 refine ⟨_,_,_,rfl,fun U h=>(ja (b.le (c.trans (H.trans (h)))) (d.le (h)) G I (by omega)).mono ?_⟩
 rintro r W X i
 have J:=i
 obtain ⟨Y,Z,Mk,rfl⟩:=i.shape
 exact ⟨_,_,_,rfl,fun V7 K=>(J.le (K))⟩
theorem cw {iB iC sR sS:Rat}{k:Nat}(fN:Sz k iB)(fO:Sz k iC)(mM:Sz k sR)(mN:Sz k sS):Sz (4*k+3) (((iB)*(sR))+((iC)*(sS))):=by
 have a:=Sz.mono (m:=2*k+1) (Sz.mul fN mM) (by omega)
 have b:=Sz.mono (m:=2*k+1) (Sz.mul fO mN) (by omega)
 have c:=Sz.mono (m:=4*k+3) (Sz.add a b) (by omega)
 exact Sz.mono c (by omega)
theorem qC {V:View}{p:Value}{iB iC:Rat}{q:Value}{sR sS:Rat}(hp:RPt V p iB iC)(hq:RPt V q sR sS){k:Nat}(fN:Sz k iB)(fO:Sz k iC)(mM:Sz k sR)(mN:Sz k sS)(hk:4*k+3<274877906944) :
  Acts prog 216 #[p,q] V fun r V'=>RR V' r (((iB)*(sS))-((iC)*(sR))):=by
 have j:=hp
 obtain ⟨l,n,o,s,t,u,rfl,v,w⟩:=hp
 have x:=hq
 obtain ⟨y,z,A,B,C,D,rfl,E,F⟩:=hq
 refine pP l n o s t u y z A B C D V _ fun L a=>(gS (v.le (a)) (F.le (a)) fN mN (by omega)).mono ?_
 rintro r V2 e f
 have b:=f
 obtain ⟨M,N,O,rfl⟩:=f.shape
 have G:=Sz.mono (m:=2*k+1) (Sz.mul fN mN) (by omega)
 refine ⟨_,_,_,rfl,fun P c=>(gS (w.le (a.trans (e.trans (c)))) (E.le (a.trans (e.trans (c)))) fO mM (by omega)).mono ?_⟩
 rintro r Q H g
 have d:=g
 obtain ⟨R,S,T,rfl⟩:=g.shape
 have I:=Sz.mono (m:=2*k+1) (Sz.mul fO mM) (by omega)
 refine ⟨_,_,_,rfl,fun U h=>(vF (b.le (c.trans (H.trans (h)))) (d.le (h)) G I (by omega)).mono ?_⟩
 rintro r W X i
 have J:=i
 obtain ⟨Y,Z,Mk,rfl⟩:=i.shape
 exact ⟨_,_,_,rfl,fun V7 K=>(J.le (K))⟩
theorem ow {iB iC sR sS:Rat}{k:Nat}(fN:Sz k iB)(fO:Sz k iC)(mM:Sz k sR)(mN:Sz k sS):Sz (4*k+3) (((iB)*(sS))-((iC)*(sR))):=by
 have a:=Sz.mono (m:=2*k+1) (Sz.mul fN mN) (by omega)
 have b:=Sz.mono (m:=2*k+1) (Sz.mul fO mM) (by omega)
 have c:=Sz.mono (m:=4*k+3) (Sz.sub a b) (by omega)
 exact Sz.mono c (by omega)
theorem jf {V:View}{l:Value}{dq l_1 fF:Rat}(hl:pt V l dq l_1 fF){k:Nat}(bT:Sz k dq)(b_:Sz k l_1)(bN:Sz k fF)(hk:1*k+1<274877906944) :
  Acts prog 171 #[l] V fun r V'=>RPt V' r (l_1) (-(dq)):=by
 have f:=hl
 obtain ⟨g,a,c,b,h,i,j,m,n,rfl,o,p,q⟩:=hl
 refine tM g a c b h i j m n V _ fun s a=>(gT (o.le (a)) bT (by omega)).mono ?_
 rintro r V2 c e
 have d:=e
 obtain ⟨t,u,v,rfl⟩:=e.shape
 exact ⟨_,_,_,rfl,fun w b=>⟨_,_,_,_,_,_,rfl,(p.le (a.trans (c.trans (b)))),(d.le (b))⟩⟩
theorem gL {dq l_1 fF:Rat}{k:Nat}(bT:Sz k dq)(b_:Sz k l_1)(bN:Sz k fF):Sz (1*k+0) (l_1):=by
 exact Sz.mono b_ (by omega)
theorem gM {dq l_1 fF:Rat}{k:Nat}(bT:Sz k dq)(b_:Sz k l_1)(bN:Sz k fF):Sz (1*k+0) (-(dq)):=by
 have a:=Sz.mono (m:=1*k+0) (Sz.neg bT) (by omega)
 exact Sz.mono a (by omega)
theorem fr {V:View}{l:Value}{dq l_1 fF:Rat}(hl:pt V l dq l_1 fF){k:Nat}(bT:Sz k dq)(b_:Sz k l_1)(bN:Sz k fF)(hk:1*k+1<274877906944) :
  Acts prog 173 #[l] V fun r V'=>RPt V' r (dq) (l_1):=by
 have b:=hl
 obtain ⟨c,a,d,e,f,g,h,i,j,rfl,m,n,o⟩:=hl
 exact og c a d e f g h i j V _ fun p a=>⟨_,_,_,_,_,_,rfl,(m.le (a)),(n.le (a))⟩
theorem bW {dq l_1 fF:Rat}{k:Nat}(bT:Sz k dq)(b_:Sz k l_1)(bN:Sz k fF):Sz (1*k+0) (dq):=by
 exact Sz.mono bT (by omega)
theorem bX {dq l_1 fF:Rat}{k:Nat}(bT:Sz k dq)(b_:Sz k l_1)(bN:Sz k fF):Sz (1*k+0) (l_1):=by
 exact Sz.mono b_ (by omega)
theorem nC {V:View}{l:Value}{dq l_1 fF:Rat}(hl:pt V l dq l_1 fF){k:Nat}(bT:Sz k dq)(b_:Sz k l_1)(bN:Sz k fF)(hk:1*k+1<274877906944) :
  Acts prog 198 #[l] V fun r V'=>pt V' r (-(dq)) (-(l_1)) (-(fF)):=by
 have o:=hl
 obtain ⟨p,a,e,b,f,c,g,d,q,rfl,s,t,u⟩:=hl
 refine mX p a e b f c g d q V _ fun w a=>(gT (s.le (a)) bT (by omega)).mono ?_
 rintro r V2 e j
 have h:=j
 obtain ⟨x,y,z,rfl⟩:=j.shape
 refine ⟨_,_,_,rfl,fun A b=>(gT (t.le (a.trans (e.trans (b)))) b_ (by omega)).mono ?_⟩
 rintro r B f m
 have i:=m
 obtain ⟨C,D,E,rfl⟩:=m.shape
 refine ⟨_,_,_,rfl,fun F c=>(gT (u.le (a.trans (e.trans (b.trans (f.trans (c)))))) bN (by omega)).mono ?_⟩
 rintro r G g n
 have v:=n
 obtain ⟨H,I,J,rfl⟩:=n.shape
 exact ⟨_,_,_,rfl,fun K d=>⟨_,_,_,_,_,_,_,_,_,rfl,(h.le (b.trans (f.trans (c.trans (g.trans (d)))))),(i.le (c.trans (g.trans (d)))),(v.le (d))⟩⟩
theorem jT {V:View}{l:Value}{dq l_1 fF:Rat}{p:Value}{iB iC:Rat}(hl:pt V l dq l_1 fF)(hp:RPt V p iB iC){k:Nat}(bT:Sz k dq)(b_:Sz k l_1)(bN:Sz k fF)(fN:Sz k iB)(fO:Sz k iC)(hk:5*k+4<274877906944) :
  Acts prog 145 #[l,p] V fun r V'=>RR V' r ((((dq)*(iB))+((l_1)*(iC)))+(fF)):=by
 have e:=hl
 obtain ⟨v,a,c,b,f,d,n,g,w,rfl,G,H,x⟩:=hl
 have h:=hp
 obtain ⟨y,z,A,B,C,D,rfl,I,J⟩:=hp
 refine pO v a c b f d n g w y z A B C D V _ fun K a=>(fr (e.le (a)) (Sz.mono bT (by omega):Sz (1*k+0) _) (Sz.mono b_ (by omega):Sz (1*k+0) _) (Sz.mono bN (by omega):Sz (1*k+0) _) (by omega)).mono ?_
 rintro r V2 c o
 have i:=o
 obtain ⟨L,M,N,O,P,Q,rfl,R,S⟩:=o
 have q:=Sz.mono (m:=1*k+0) ((bW (Sz.mono bT (by omega):Sz (1*k+0) _) (Sz.mono b_ (by omega):Sz (1*k+0) _) (Sz.mono bN (by omega):Sz (1*k+0) _))) (by omega)
 have s:=Sz.mono (m:=1*k+0) ((bX (Sz.mono bT (by omega):Sz (1*k+0) _) (Sz.mono b_ (by omega):Sz (1*k+0) _) (Sz.mono bN (by omega):Sz (1*k+0) _))) (by omega)
 refine ⟨_,_,_,_,_,_,rfl,fun T b=>(jg (i.le (b)) (h.le (a.trans (c.trans (b)))) (Sz.mono q (by omega):Sz (1*k+0) _) (Sz.mono s (by omega):Sz (1*k+0) _) (Sz.mono fN (by omega):Sz (1*k+0) _) (Sz.mono fO (by omega):Sz (1*k+0) _) (by omega)).mono ?_⟩
 rintro r U f t
 have j:=t
 obtain ⟨W,X,Y,rfl⟩:=t.shape
 have E:=Sz.mono (m:=4*k+3) ((cw (Sz.mono q (by omega):Sz (1*k+0) _) (Sz.mono s (by omega):Sz (1*k+0) _) (Sz.mono fN (by omega):Sz (1*k+0) _) (Sz.mono fO (by omega):Sz (1*k+0) _))) (by omega)
 refine ⟨_,_,_,rfl,fun Z d=>(ja (j.le (d)) (x.le (a.trans (c.trans (b.trans (f.trans (d)))))) E bN (by omega)).mono ?_⟩
 rintro r V6 n u
 have F:=u
 obtain ⟨Mi,Mj,Mk,rfl⟩:=u.shape
 exact ⟨_,_,_,rfl,fun V7 g=>(F.le (g))⟩
theorem iX {dq l_1 fF iB iC:Rat}{k:Nat}(bT:Sz k dq)(b_:Sz k l_1)(bN:Sz k fF)(fN:Sz k iB)(fO:Sz k iC):Sz (5*k+4) ((((dq)*(iB))+((l_1)*(iC)))+(fF)):=by
 have a:=Sz.mono (m:=1*k+0) ((bW (Sz.mono bT (by omega):Sz (1*k+0) _) (Sz.mono b_ (by omega):Sz (1*k+0) _) (Sz.mono bN (by omega):Sz (1*k+0) _))) (by omega)
 have b:=Sz.mono (m:=1*k+0) ((bX (Sz.mono bT (by omega):Sz (1*k+0) _) (Sz.mono b_ (by omega):Sz (1*k+0) _) (Sz.mono bN (by omega):Sz (1*k+0) _))) (by omega)
 have c:=Sz.mono (m:=4*k+3) ((cw (Sz.mono a (by omega):Sz (1*k+0) _) (Sz.mono b (by omega):Sz (1*k+0) _) (Sz.mono fN (by omega):Sz (1*k+0) _) (Sz.mono fO (by omega):Sz (1*k+0) _))) (by omega)
 have d:=Sz.mono (m:=5*k+4) (Sz.add c bN) (by omega)
 exact Sz.mono d (by omega)
theorem kO {V:View}{l:Value}{dq l_1 fF:Rat}(hl:pt V l dq l_1 fF){k:Nat}(bT:Sz k dq)(b_:Sz k l_1)(bN:Sz k fF)(hk:10*k+9<274877906944) :
  Acts prog 212 #[l] V fun r V'=>RPt V' r ((dq)*(((-(fF))*(((dq)*(dq))+((l_1)*(l_1)))⁻¹))) ((l_1)*(((-(fF))*(((dq)*(dq))+((l_1)*(l_1)))⁻¹))):=by
 have n:=hl
 obtain ⟨A,i,o,b,d,c,j,e,p,rfl,K,L,B⟩:=hl
 refine sD A i o b d c j e p V _ fun M i=>(fr (n.le (i)) (Sz.mono bT (by omega):Sz (1*k+0) _) (Sz.mono b_ (by omega):Sz (1*k+0) _) (Sz.mono bN (by omega):Sz (1*k+0) _) (by omega)).mono ?_
 rintro r V2 o s
 have a:=s
 obtain ⟨N,O,P,Q,R,S,rfl,T,U⟩:=s
 have f:=Sz.mono (m:=1*k+0) ((bW (Sz.mono bT (by omega):Sz (1*k+0) _) (Sz.mono b_ (by omega):Sz (1*k+0) _) (Sz.mono bN (by omega):Sz (1*k+0) _))) (by omega)
 have g:=Sz.mono (m:=1*k+0) ((bX (Sz.mono bT (by omega):Sz (1*k+0) _) (Sz.mono b_ (by omega):Sz (1*k+0) _) (Sz.mono bN (by omega):Sz (1*k+0) _))) (by omega)
 refine ⟨_,_,_,_,_,_,rfl,fun W b=>(gT (B.le (i.trans (o.trans (b)))) bN (by omega)).mono ?_⟩
 rintro r X d t
 have q:=t
 obtain ⟨Y,Z,Jr,rfl⟩:=t.shape
 have u:=Sz.mono (m:=1*k+0) (Sz.neg bN) (by omega)
 refine ⟨_,_,_,rfl,fun V5 c=>(jg (a.le (b.trans (d.trans (c)))) (a.le (b.trans (d.trans (c)))) (Sz.mono f (by omega):Sz (1*k+0) _) (Sz.mono g (by omega):Sz (1*k+0) _) (Sz.mono f (by omega):Sz (1*k+0) _) (Sz.mono g (by omega):Sz (1*k+0) _) (by omega)).mono ?_⟩
 rintro r V6 j v
 have C:=v
 obtain ⟨Mi,Mj,Mk,rfl⟩:=v.shape
 have w:=Sz.mono (m:=4*k+3) ((cw (Sz.mono f (by omega):Sz (1*k+0) _) (Sz.mono g (by omega):Sz (1*k+0) _) (Sz.mono f (by omega):Sz (1*k+0) _) (Sz.mono g (by omega):Sz (1*k+0) _))) (by omega)
 refine ⟨_,_,_,rfl,fun V7 e=>(vE (q.le (c.trans (j.trans (e)))) (C.le (e)) u w (by omega)).mono ?_⟩
 rintro r V8 p x
 have D:=x
 obtain ⟨Tg,Th,Ti,rfl⟩:=x.shape
 have E:=Sz.mono (m:=5*k+4) (Sz.mul u (jC w)) (by omega)
 refine ⟨_,_,_,rfl,fun V9 y=>(jU (a.le (b.trans (d.trans (c.trans (j.trans (e.trans (p.trans (y)))))))) (D.le (y)) (Sz.mono f (by omega):Sz (5*k+4) _) (Sz.mono g (by omega):Sz (5*k+4) _) (Sz.mono E (by omega):Sz (5*k+4) _) (by omega)).mono ?_⟩
 rintro r F G z
 have LW:=z
 obtain ⟨SA,SB,SC,SD,SE,SF,rfl,H,I⟩:=z
 exact ⟨_,_,_,_,_,_,rfl,fun J h=>⟨_,_,_,_,_,_,rfl,(H.le (h)),(I.le (h))⟩⟩
theorem cF {dq l_1 fF:Rat}{k:Nat}(bT:Sz k dq)(b_:Sz k l_1)(bN:Sz k fF):Sz (10*k+9) ((dq)*(((-(fF))*(((dq)*(dq))+((l_1)*(l_1)))⁻¹))):=by
 have a:=Sz.mono (m:=1*k+0) ((bW (Sz.mono bT (by omega):Sz (1*k+0) _) (Sz.mono b_ (by omega):Sz (1*k+0) _) (Sz.mono bN (by omega):Sz (1*k+0) _))) (by omega)
 have b:=Sz.mono (m:=1*k+0) ((bX (Sz.mono bT (by omega):Sz (1*k+0) _) (Sz.mono b_ (by omega):Sz (1*k+0) _) (Sz.mono bN (by omega):Sz (1*k+0) _))) (by omega)
 have c:=Sz.mono (m:=1*k+0) (Sz.neg bN) (by omega)
 have d:=Sz.mono (m:=4*k+3) ((cw (Sz.mono a (by omega):Sz (1*k+0) _) (Sz.mono b (by omega):Sz (1*k+0) _) (Sz.mono a (by omega):Sz (1*k+0) _) (Sz.mono b (by omega):Sz (1*k+0) _))) (by omega)
 have e:=Sz.mono (m:=5*k+4) (Sz.mul c (jC d)) (by omega)
 have f:=Sz.mono (m:=10*k+9) ((dj (Sz.mono a (by omega):Sz (5*k+4) _) (Sz.mono b (by omega):Sz (5*k+4) _) (Sz.mono e (by omega):Sz (5*k+4) _))) (by omega)
 exact Sz.mono f (by omega)
theorem cG {dq l_1 fF:Rat}{k:Nat}(bT:Sz k dq)(b_:Sz k l_1)(bN:Sz k fF):Sz (10*k+9) ((l_1)*(((-(fF))*(((dq)*(dq))+((l_1)*(l_1)))⁻¹))):=by
 have a:=Sz.mono (m:=1*k+0) ((bW (Sz.mono bT (by omega):Sz (1*k+0) _) (Sz.mono b_ (by omega):Sz (1*k+0) _) (Sz.mono bN (by omega):Sz (1*k+0) _))) (by omega)
 have b:=Sz.mono (m:=1*k+0) ((bX (Sz.mono bT (by omega):Sz (1*k+0) _) (Sz.mono b_ (by omega):Sz (1*k+0) _) (Sz.mono bN (by omega):Sz (1*k+0) _))) (by omega)
 have c:=Sz.mono (m:=1*k+0) (Sz.neg bN) (by omega)
 have d:=Sz.mono (m:=4*k+3) ((cw (Sz.mono a (by omega):Sz (1*k+0) _) (Sz.mono b (by omega):Sz (1*k+0) _) (Sz.mono a (by omega):Sz (1*k+0) _) (Sz.mono b (by omega):Sz (1*k+0) _))) (by omega)
 have e:=Sz.mono (m:=5*k+4) (Sz.mul c (jC d)) (by omega)
 have f:=Sz.mono (m:=10*k+9) ((dk (Sz.mono a (by omega):Sz (5*k+4) _) (Sz.mono b (by omega):Sz (5*k+4) _) (Sz.mono e (by omega):Sz (5*k+4) _))) (by omega)
 exact Sz.mono f (by omega)
theorem xK {V:View}{l:Value}{dq l_1 fF:Rat}{t:Value}{FG:Rat}(hl:pt V l dq l_1 fF)(ht:RR V t FG){k:Nat}(bT:Sz k dq)(b_:Sz k l_1)(bN:Sz k fF)(wJ:Sz k FG)(hk:20*k+19<274877906944) :
  Acts prog 210 #[l,t] V fun r V'=>RPt V' r ((((dq)*(((-(fF))*(((dq)*(dq))+((l_1)*(l_1)))⁻¹))))+(((l_1)*(FG)))) ((((l_1)*(((-(fF))*(((dq)*(dq))+((l_1)*(l_1)))⁻¹))))+((((-(dq)))*(FG)))):=by
 have a:=hl
 obtain ⟨y,b,e,c,f,d,h,g,q,rfl,G,H,I⟩:=hl
 have i:=ht
 obtain ⟨t0,t1,t2,rfl⟩:=ht.shape
 refine wT y b e c f d h g q t0 t1 t2 V _ fun J b=>(kO (a.le (b)) (Sz.mono bT (by omega):Sz (1*k+0) _) (Sz.mono b_ (by omega):Sz (1*k+0) _) (Sz.mono bN (by omega):Sz (1*k+0) _) (by omega)).mono ?_
 rintro r V2 e s
 have j:=s
 obtain ⟨K,L,M,N,O,P,rfl,Q,R⟩:=s
 have z:=Sz.mono (m:=10*k+9) ((cF (Sz.mono bT (by omega):Sz (1*k+0) _) (Sz.mono b_ (by omega):Sz (1*k+0) _) (Sz.mono bN (by omega):Sz (1*k+0) _))) (by omega)
 have A:=Sz.mono (m:=10*k+9) ((cG (Sz.mono bT (by omega):Sz (1*k+0) _) (Sz.mono b_ (by omega):Sz (1*k+0) _) (Sz.mono bN (by omega):Sz (1*k+0) _))) (by omega)
 refine ⟨_,_,_,_,_,_,rfl,fun S c=>(jf (a.le (b.trans (e.trans (c)))) (Sz.mono bT (by omega):Sz (1*k+0) _) (Sz.mono b_ (by omega):Sz (1*k+0) _) (Sz.mono bN (by omega):Sz (1*k+0) _) (by omega)).mono ?_⟩
 rintro r T f u
 have n:=u
 obtain ⟨U,W,X,Y,Z,Sk,rfl,QE,QF⟩:=u
 have o:=Sz.mono (m:=1*k+0) ((gL (Sz.mono bT (by omega):Sz (1*k+0) _) (Sz.mono b_ (by omega):Sz (1*k+0) _) (Sz.mono bN (by omega):Sz (1*k+0) _))) (by omega)
 have p:=Sz.mono (m:=1*k+0) ((gM (Sz.mono bT (by omega):Sz (1*k+0) _) (Sz.mono b_ (by omega):Sz (1*k+0) _) (Sz.mono bN (by omega):Sz (1*k+0) _))) (by omega)
 refine ⟨_,_,_,_,_,_,rfl,fun V5 d=>(jU (n.le (d)) (i.le (b.trans (e.trans (c.trans (f.trans (d)))))) (Sz.mono o (by omega):Sz (1*k+0) _) (Sz.mono p (by omega):Sz (1*k+0) _) (Sz.mono wJ (by omega):Sz (1*k+0) _) (by omega)).mono ?_⟩
 rintro r V6 h v
 have B:=v
 obtain ⟨Sl,Sm,Sn,So,Sq,Sr,rfl,QG,QH⟩:=v
 have C:=Sz.mono (m:=2*k+1) ((dj (Sz.mono o (by omega):Sz (1*k+0) _) (Sz.mono p (by omega):Sz (1*k+0) _) (Sz.mono wJ (by omega):Sz (1*k+0) _))) (by omega)
 have D:=Sz.mono (m:=2*k+1) ((dk (Sz.mono o (by omega):Sz (1*k+0) _) (Sz.mono p (by omega):Sz (1*k+0) _) (Sz.mono wJ (by omega):Sz (1*k+0) _))) (by omega)
 refine ⟨_,_,_,_,_,_,rfl,fun V7 g=>(vH (j.le (c.trans (f.trans (d.trans (h.trans (g)))))) (B.le (g)) (Sz.mono z (by omega):Sz (10*k+9) _) (Sz.mono A (by omega):Sz (10*k+9) _) (Sz.mono C (by omega):Sz (10*k+9) _) (Sz.mono D (by omega):Sz (10*k+9) _) (by omega)).mono ?_⟩
 rintro r V8 q w
 have LV:=w
 obtain ⟨Ss,Su,Sv,Sw,Sx,Sy,rfl,E,F⟩:=w
 exact ⟨_,_,_,_,_,_,rfl,fun V9 x=>⟨_,_,_,_,_,_,rfl,(E.le (x)),(F.le (x))⟩⟩
theorem tW {dq l_1 fF FG:Rat}{k:Nat}(bT:Sz k dq)(b_:Sz k l_1)(bN:Sz k fF)(wJ:Sz k FG):Sz (20*k+19) ((((dq)*(((-(fF))*(((dq)*(dq))+((l_1)*(l_1)))⁻¹))))+(((l_1)*(FG)))):=by
 have c:=Sz.mono (m:=10*k+9) ((cF (Sz.mono bT (by omega):Sz (1*k+0) _) (Sz.mono b_ (by omega):Sz (1*k+0) _) (Sz.mono bN (by omega):Sz (1*k+0) _))) (by omega)
 have d:=Sz.mono (m:=10*k+9) ((cG (Sz.mono bT (by omega):Sz (1*k+0) _) (Sz.mono b_ (by omega):Sz (1*k+0) _) (Sz.mono bN (by omega):Sz (1*k+0) _))) (by omega)
 have a:=Sz.mono (m:=1*k+0) ((gL (Sz.mono bT (by omega):Sz (1*k+0) _) (Sz.mono b_ (by omega):Sz (1*k+0) _) (Sz.mono bN (by omega):Sz (1*k+0) _))) (by omega)
 have b:=Sz.mono (m:=1*k+0) ((gM (Sz.mono bT (by omega):Sz (1*k+0) _) (Sz.mono b_ (by omega):Sz (1*k+0) _) (Sz.mono bN (by omega):Sz (1*k+0) _))) (by omega)
 have e:=Sz.mono (m:=2*k+1) ((dj (Sz.mono a (by omega):Sz (1*k+0) _) (Sz.mono b (by omega):Sz (1*k+0) _) (Sz.mono wJ (by omega):Sz (1*k+0) _))) (by omega)
 have f:=Sz.mono (m:=2*k+1) ((dk (Sz.mono a (by omega):Sz (1*k+0) _) (Sz.mono b (by omega):Sz (1*k+0) _) (Sz.mono wJ (by omega):Sz (1*k+0) _))) (by omega)
 have g:=Sz.mono (m:=20*k+19) ((sO (Sz.mono c (by omega):Sz (10*k+9) _) (Sz.mono d (by omega):Sz (10*k+9) _) (Sz.mono e (by omega):Sz (10*k+9) _) (Sz.mono f (by omega):Sz (10*k+9) _))) (by omega)
 exact Sz.mono g (by omega)
theorem tX {dq l_1 fF FG:Rat}{k:Nat}(bT:Sz k dq)(b_:Sz k l_1)(bN:Sz k fF)(wJ:Sz k FG):Sz (20*k+19) ((((l_1)*(((-(fF))*(((dq)*(dq))+((l_1)*(l_1)))⁻¹))))+((((-(dq)))*(FG)))):=by
 have c:=Sz.mono (m:=10*k+9) ((cF (Sz.mono bT (by omega):Sz (1*k+0) _) (Sz.mono b_ (by omega):Sz (1*k+0) _) (Sz.mono bN (by omega):Sz (1*k+0) _))) (by omega)
 have d:=Sz.mono (m:=10*k+9) ((cG (Sz.mono bT (by omega):Sz (1*k+0) _) (Sz.mono b_ (by omega):Sz (1*k+0) _) (Sz.mono bN (by omega):Sz (1*k+0) _))) (by omega)
 have a:=Sz.mono (m:=1*k+0) ((gL (Sz.mono bT (by omega):Sz (1*k+0) _) (Sz.mono b_ (by omega):Sz (1*k+0) _) (Sz.mono bN (by omega):Sz (1*k+0) _))) (by omega)
 have b:=Sz.mono (m:=1*k+0) ((gM (Sz.mono bT (by omega):Sz (1*k+0) _) (Sz.mono b_ (by omega):Sz (1*k+0) _) (Sz.mono bN (by omega):Sz (1*k+0) _))) (by omega)
 have e:=Sz.mono (m:=2*k+1) ((dj (Sz.mono a (by omega):Sz (1*k+0) _) (Sz.mono b (by omega):Sz (1*k+0) _) (Sz.mono wJ (by omega):Sz (1*k+0) _))) (by omega)
 have f:=Sz.mono (m:=2*k+1) ((dk (Sz.mono a (by omega):Sz (1*k+0) _) (Sz.mono b (by omega):Sz (1*k+0) _) (Sz.mono wJ (by omega):Sz (1*k+0) _))) (by omega)
 have g:=Sz.mono (m:=20*k+19) ((sP (Sz.mono c (by omega):Sz (10*k+9) _) (Sz.mono d (by omega):Sz (10*k+9) _) (Sz.mono e (by omega):Sz (10*k+9) _) (Sz.mono f (by omega):Sz (10*k+9) _))) (by omega)
 exact Sz.mono g (by omega)
end Go.Proofs.Tryz
namespace Go.Proofs.Tryz
open Go.Eng
set_option maxRecDepth 100000
end Go.Proofs.Tryz
namespace Go.Proofs.Tryz
open Go.Eng Go.Big
theorem RQ.ofNat {V:View}{p:OA}{n c x:Nat}(h:RN V p n c x){b:Bool}(hb:b=decide ((x:Int)<0)):RQ V (.agg #[.bool b,.slice p n c,.slice none 0 0]) ((x:Int):Rat):=
 mG (z:=(x:Int)) (d:=1) rfl rfl h RD.nil hb
theorem RQ.int {V:View}{q:Rat}{b:Bool}{p:OA}{n c:Nat}{p':OA}{n' c':Nat}(h:RQ V (.agg #[.bool b,.slice p n c,.slice p' n' c']) q):RI V (.agg #[.bool b,.slice p n c]) q.num:=by
 obtain ⟨d,f,g,i,j,k,e,a,l⟩:=h
 cases e
 exact ⟨_,_,_,rfl,a⟩
theorem RQ.den {V:View}{q:Rat}{b:Bool}{p:OA}{n c:Nat}{p':OA}{n' c':Nat}(h:RQ V (.agg #[.bool b,.slice p n c,.slice p' n' c']) q):RD V p' n' c' (pD q.den):=by
 obtain ⟨d,f,g,i,j,k,e,l,a⟩:=h
 cases e
 exact a
def vh (px py qx qy:Rat):Rat×Rat×Rat:=
 let a:=-(qy-py);let b:=qx-px;let c:=-(a*px+b*py)
 let f:Rat:=(((a.den*b.den*c.den:Nat):Int):Rat)
 (a*f,b*f,c*f)
theorem I2 {n k:Nat}(h:n<2^k)(hk:0<k):Sz k (((n:Nat):Int):Rat):=by
 refine ⟨?_,?_⟩
 ·show ((n:Nat):Int).natAbs<_
  simpa using h
 ·show 1<2^k
  exact Nat.one_lt_two_pow (by omega)
theorem pC {V:View}{u w:Value}{px py qx qy:Rat}(hp:RP V u px py)(hq:RP V w qx qy){k:Nat}(s1:Sz k px)(s2:Sz k py)(s3:Sz k qx)(s4:Sz k qy)(hk1:1<=k)(hk:64*k+64<274877906944) :
  Acts prog 28 #[u,w] V fun r V'=>((vh px py qx qy).1.num=0/\(vh px py qx qy).2.1.num=0->∃l,r=.tuple #[l,.bool false]/\RL V' l 0 0 0) /\
   (¬((vh px py qx qy).1.num=0/\(vh px py qx qy).2.1.num=0)->∃l,r=.tuple #[l,.bool true] /\
    RL V' l ((vh px py qx qy).1.num / (ij (vh px py qx qy).1.num (vh px py qx qy).2.1.num (vh px py qx qy).2.2.num:Int)) ((vh px py qx qy).2.1.num / (ij (vh px py qx qy).1.num (vh px py qx qy).2.1.num (vh px py qx qy).2.2.num:Int)) ((vh px py qx qy).2.2.num / (ij (vh px py qx qy).1.num (vh px py qx qy).2.1.num (vh px py qx qy).2.2.num:Int))):=by
 have L:=hp
 have N:=hq
 obtain ⟨p1,n1,c1,p2,n2,c2,p3,n3,c3,p4,n4,c4,rfl,i,j⟩:=hp
 obtain ⟨q1,m1,e1,q2,m2,e2,q3,m3,e3,q4,m4,e4,rfl,-,-⟩:=hq
 refine ot _ p1 n1 c1 p2 n2 c2 _ p3 n3 c3 p4 n4 c4 _ q1 m1 e1 q2 m2 e2 _ q3 m3 e3 q4 m4 e4 V _ fun V1 O=>(xQ (N.le O) (L.le O) s3 s4 s1 s2 hk1 (by omega)).mono ?_
 rintro r V2 l2 ⟨a1,a2,a3,a4,a5,a6,a7,a8,a9,SM,SN,b8,rfl,m,hd⟩
 have n:Sz (k+k+1) (qx-px):=s3.sub s1
 have td:Sz (k+k+1) (qy-py):=s4.sub s2
 have x:=O.trans l2
 refine ⟨_,_,_,_,_,_,_,_,_,_,_,_,_,_,rfl,fun V3 y=>(uy (qy-py) (by obtain ⟨_,_,_,_,_,_,e,P,h2⟩:=hd.le y;cases e;exact P) (RQ.den (hd.le y))).mono ?_⟩
 rintro r V4 Q t
 obtain ⟨b1,b2,b3,b4,b5,b6,rfl⟩:=t.shape
 have o:=td.neg
 have M_:vh px py qx qy=(-(qy-py)*(((((-(qy-py)).den*(qx-px).den*(-(-(qy-py)*px+(qx-px)*py)).den:Nat):Int):Rat)),(qx-px)*(((((-(qy-py)).den*(qx-px).den*(-(-(qy-py)*px+(qx-px)*py)).den:Nat):Int):Rat)),(-(-(qy-py)*px+(qx-px)*py))*(((((-(qy-py)).den*(qx-px).den*(-(-(qy-py)*px+(qx-px)*py)).den:Nat):Int):Rat))):=rfl
 rw [M_]
 generalize -(qy-py)=A at *
 generalize qx-px=B at *
 replace m:=m.le (y.trans Q)
 replace i:=i.le (x.trans (y.trans Q))
 replace j:=j.le (x.trans (y.trans Q))
 refine ⟨_,_,_,_,_,_,_,rfl,fun V5 z=>(cN (t.le z) (i.le z) o s1 (by omega)).mono ?_⟩
 rintro r V6 R g6
 obtain ⟨d1,d2,d3,d4,d5,d6,rfl⟩:=g6.shape
 refine ⟨_,_,_,_,_,_,_,rfl,fun V7 F=>(cN (m.le (z.trans (R.trans F))) (j.le (z.trans (R.trans F))) n s2 (by omega)).mono ?_⟩
 rintro r V8 l8 g8
 obtain ⟨f1,f2,f3,f4,f5,f6,rfl⟩:=g8.shape
 refine ⟨_,_,_,_,_,_,_,rfl,fun V9 S=>(lf (g6.le (F.trans (l8.trans S))) (g8.le S) (o.mul s1) (n.mul s2) (by omega)).mono ?_⟩
 rintro r b9 T p
 have G:=((o.mul s1).add (n.mul s2)).neg
 obtain ⟨i1,i2,i3,i4,i5,i6,rfl⟩:=p.shape
 refine ⟨_,_,_,_,_,_,_,rfl,fun c0 q=>(uy (A*px+B*py) (by obtain ⟨_,_,_,_,_,_,e,P,h2⟩:=p.le q;cases e;exact P) (RQ.den (p.le q))).mono ?_⟩
 rintro r c5 U W
 generalize -(A*px+B*py)=C at *
 obtain ⟨j1,j2,j3,j4,j5,j6,rfl⟩:=W.shape
 have Gm:=z.trans (R.trans (F.trans (l8.trans (S.trans (T.trans (q.trans U))))))
 replace t:=t.le Gm
 replace m:=m.le Gm
 refine ⟨_,_,_,_,_,_,_,rfl,fun c6 f=>(cX A _ (RQ.den (t.le f))).mono ?_⟩
 rintro r c7 X ⟨k1,k2,k3,rfl,Y⟩
 refine ⟨_,_,_,rfl,fun c8 H=>(cX B _ (RQ.den (m.le (f.trans (X.trans H))))).mono ?_⟩
 rintro r lV Z ⟨k4,k5,k6,rfl,a0⟩
 obtain ⟨-,da,-⟩:=bK o
 obtain ⟨-,db,-⟩:=bK n
 obtain ⟨-,dc,-⟩:=bK G
 refine ⟨_,_,_,rfl,fun oB I=>(bY (Y.le (H.trans (Z.trans I))) (a0.le I) (by omega)).mono ?_⟩
 rintro r qj eQ ⟨k7,k8,k9,rfl,D⟩
 rw [ab,ab] at D
 refine ⟨_,_,_,rfl,fun vl fW=>(cX C _ (RQ.den (W.le (f.trans (X.trans (H.trans (Z.trans (I.trans (eQ.trans fW))))))))).mono ?_⟩
 rintro r BF kb ⟨c9,d0,d7,rfl,b0⟩
 have SP:=fJ (a:=A.den) (b:=B.den)
 refine ⟨_,_,_,rfl,fun sZ gN=>(bY (D.le (fW.trans (kb.trans gN))) (b0.le gN) (by omega)).mono ?_⟩
 rintro r xo kQ ⟨d8,d9,e0,rfl,E⟩
 rw [ab,ab] at E
 have v:Sz (k+k+1+(k+k+1)+(k+k+1+k+1+(k+k+1+k+1)+1)) (((A.den*B.den*C.den:Nat):Int):Rat):=I2 (bG (bG o.2 n.2) G.2) (by omega)
 generalize A.den*B.den*C.den=M at *
 refine ⟨_,_,_,rfl,fun xp jP=>(nD (E.le jP)).mono ?_⟩
 rintro r FK Ex ⟨e5,e6,e7,rfl,b7⟩
 have hf:=RQ.ofNat b7 rfl
 have Iu:=f.trans (X.trans (H.trans (Z.trans (I.trans (eQ.trans (fW.trans (kb.trans (gN.trans (kQ.trans (jP.trans Ex))))))))))
 refine ⟨_,_,_,_,rfl,fun FL c=>(cN (t.le (Iu.trans c)) (hf.le c) o v (by omega)).mono ?_⟩
 rintro r LM g O6
 obtain ⟨o1,o2,o3,o4,o5,o6,rfl⟩:=O6.shape
 refine ⟨_,_,_,_,_,_,_,rfl,fun LN d=>(cN (m.le (Iu.trans (c.trans (g.trans d)))) (hf.le (c.trans (g.trans d))) n v (by omega)).mono ?_⟩
 rintro r LO Iw O7
 obtain ⟨o7,o8,o9,S2,S3,S4,rfl⟩:=O7.shape
 refine ⟨_,_,_,_,_,_,_,rfl,fun Ou J=>(cN (W.le (Iu.trans (c.trans (g.trans (d.trans (Iw.trans J)))))) (hf.le (c.trans (g.trans (d.trans (Iw.trans J))))) G v (by omega)).mono ?_⟩
 rintro r LP Dz xi
 obtain ⟨t1,t2,t3,t4,t5,t6,rfl⟩:=xi.shape
 refine ⟨_,_,_,_,_,_,_,rfl,fun SJ Np=>(th (RQ.int (O6.le (d.trans (Iw.trans (J.trans (Dz.trans Np)))))) (RQ.int (O7.le (J.trans (Dz.trans Np)))) (RQ.int (xi.le Np)) (Nat.le_trans (bK (o.mul v)).1 (by omega)) (Nat.le_trans (bK (n.mul v)).1 (by omega)) (Nat.le_trans (bK (G.mul v)).1 (by omega))).mono ?_⟩
 rintro r SK S0 ⟨z1,z2⟩
 by_cases K:(A*((M:Int):Rat)).num=0/\(B*((M:Int):Rat)).num=0
 ·obtain ⟨l,rfl,y1,y2,y3,y4,y5,y6,y7,y8,y9,rfl,w1,w2,w3⟩:=z1 K
  exact ⟨_,_,_,_,_,_,_,_,_,_,_,_,_,rfl,fun PW s=>⟨fun _=>⟨_,rfl,_,_,_,_,_,_,_,_,_,rfl,w1.le s,w2.le s,w3.le s⟩,fun h=>absurd K h⟩⟩
 ·obtain ⟨l,rfl,y1,y2,y3,y4,y5,y6,y7,y8,y9,rfl,w1,w2,w3⟩:=z2 K
  exact ⟨_,_,_,_,_,_,_,_,_,_,_,_,_,rfl,fun PW s=>⟨fun h=>absurd h K,fun _=>⟨_,rfl,_,_,_,_,_,_,_,_,_,rfl,w1.le s,w2.le s,w3.le s⟩⟩⟩
theorem RA.shape {V:View}{v:Value}{q:Rat}(h:RA V v q):∃b p n c p' n' c',v=.agg #[.bool b,.slice p n c,.slice p' n' c']:=by
 obtain ⟨p,n,c,p',n',c',e,-⟩:=h;exact ⟨_,_,_,_,_,_,_,e⟩
def Jv (V:View)(v:Value)(x y:Rat):Prop:=∃b p n c p' n' c' d q m e q' m' e',v=.agg #[.bool b,.slice p n c,.slice p' n' c',.bool d,.slice q m e,.slice q' m' e'] /\
 RA V (.agg #[.bool b,.slice p n c,.slice p' n' c']) x/\RA V (.agg #[.bool d,.slice q m e,.slice q' m' e']) y
theorem Jv.le {V V':View}{v:Value}{x y:Rat}(h:Jv V v x y)(l:V.Le V'):Jv V' v x y:=by
 obtain ⟨b,p,n,c,g,i,j,d,q,m,e,k,o,r,rfl,a,f⟩:=h
 exact ⟨_,_,_,_,_,_,_,_,_,_,_,_,_,_,rfl,a.le l,f.le l⟩
theorem Ai {V:View}{v:Value}{x y:Rat}(h:Jv V v x y){k:Nat}(s1:Sz k x)(s2:Sz k y)(hk:k<=1099511627776) :
  Acts prog 51 #[v] V fun r V'=>RPt V' r x y:=by
 obtain ⟨b,p,n,c,s,t,z,d,q,m,e,A,B,C,rfl,D,E⟩:=h
 refine pk b p n c s t z d q m e A B C V _ fun H g=>(uq (D.le g) s1 hk).mono ?_
 rintro r V2 F i
 have a:=i
 obtain ⟨u,v,w,rfl⟩:=i.shape
 refine ⟨_,_,_,rfl,fun I j=>(uq (E.le (g.trans (F.trans j))) s2 hk).mono ?_⟩
 rintro r J G l
 have f:=l
 obtain ⟨u,v,w,rfl⟩:=l.shape
 exact ⟨_,_,_,rfl,fun K o=>⟨_,_,_,_,_,_,rfl,a.le (j.trans (G.trans o)),f.le o⟩⟩
theorem s_ {V:View}{l p:Value}{dq l_1 fF iB iC:Rat}(hl:pt V l dq l_1 fF)(hp:RPt V p iB iC){k:Nat}(s0:Sz k dq)(s1:Sz k l_1)(s2:Sz k fF)(s3:Sz k iB)(s4:Sz k iC)(hk:16*k+16<274877906944) :
  Acts prog 106 #[l,p] V fun r V'=>r=.int .i64 (dq*iB+l_1*iC+fF).num.sign:=by
 have a:=hl
 have b:=hp
 obtain ⟨d,e,f,h,i,j,m,n,o,rfl,-,-,-⟩:=hl
 obtain ⟨q,s,t,x,y,z,rfl,-,-⟩:=hp
 refine sE d e f h i j m n o q s t x y z V _ fun C c=>(jT (a.le c) (b.le c) s0 s1 s2 s3 s4 (by omega)).mono ?_
 rintro r V2 D g
 have A:=g
 obtain ⟨u,v,w,rfl⟩:=g.shape
 refine ⟨_,_,_,rfl,fun E B=>(eC (A.le B) (iX s0 s1 s2 s3 s4) (by omega)).mono ?_⟩
 rintro r F G rfl
 exact ⟨_,rfl,fun H I=>rfl⟩
abbrev L3:=Int×Int×Int
def okL (x:L3):Bool:=decide (¬(x.1=0/\x.2.1=0))&&decide (ij x.1 x.2.1 x.2.2=1)
def Bd (x:L3):Prop:=x.1.natAbs<2^1000/\x.2.1.natAbs<2^1000/\x.2.2.natAbs<2^1000
inductive Tr where
 | leaf (i:Bool)|node (l:L3) (a b:Tr)
 deriving DecidableEq
structure Nd where
 ln:L3
 left:Int
 right:Int
 deriving DecidableEq
def Tr.size:Tr->Nat
 | .leaf _=>0
 | .node _ a b=>a.size+b.size+1
def Tr.Iq:Tr->Bool
 | .leaf _=>true
 | .node ..=>false
def Tr.All (p:L3->Prop):Tr->Prop
 | .leaf _=>True
 | .node l a b=>p l/\a.All p/\b.All p
theorem Tr.All.imp {p q:L3->Prop}(h:∀x,p x->q x):∀{t:Tr},t.All p->t.All q
 | .leaf _,_=>trivial
 | .node _ _ _,⟨h1,h2,h3⟩=>⟨h _ h1,Tr.All.imp h h2,Tr.All.imp h h3⟩
def rt (k:Nat):Tr->Int
 | .leaf i=>if i then -2 else -1
 | .node ..=>(k:Int)
def wr:Nat->Tr->List Nd
 | _,.leaf _=>[]
 | k,.node l a b=>⟨l,rt (k+1) a,rt (k+1+a.size) b⟩::(wr (k+1) a++wr (k+1+a.size) b)
theorem fa:∀(t:Tr)(k:Nat),(wr k t).length=t.size
 | .leaf _,_=>rfl
 | .node _ a b,k=>by simp only [wr,List.length_cons,List.length_append,fa a,fa b,Tr.size]
def Jx (l:List Nd):Int->Tr->List Nat->Prop
 | n,.leaf i,I=>n=(if i then -2 else -1)/\I=[]
 | n,.node ln a b,I=>∃(k:Nat)(x:Nd)(A B:List Nat),n=(k:Int)/\l[k]?=some x/\x.ln=ln/\Jx l x.left a A/\Jx l x.right b B/\I=k::(A++B)
theorem A6:∀(t:Tr)(l pre post:List Nd)(k:Nat),l=pre++(wr k t++post)->pre.length=k->Jx l (rt k t) t (List.range' k t.size)
 | .leaf i,l,pre,post,k,_,_=>⟨rfl,rfl⟩
 | .node ln a b,l,pre,post,k,hl,hp=>by
  refine ⟨k,⟨ln,rt (k+1) a,rt (k+1+a.size) b⟩,List.range' (k+1) a.size,List.range' (k+1+a.size) b.size,rfl,?_,rfl,?_,?_,?_⟩
  ·subst hl
   rw [List.getElem?_append_right (by omega)]
   simp [hp,wr]
  ·refine A6 a l (pre++[⟨ln,rt (k+1) a,rt (k+1+a.size) b⟩]) (wr (k+1+a.size) b++post) (k+1) ?_ (by simp [hp])
   rw [hl];simp [wr]
  ·refine A6 b l (pre++(⟨ln,rt (k+1) a,rt (k+1+a.size) b⟩::wr (k+1) a)) post (k+1+a.size) ?_ (by simp [hp,fa];omega)
   rw [hl];simp [wr]
  ·simp only [Tr.size]
   rw [List.range'_succ,←List.range'_append_1]
structure RS where
 seen:List Bool
 fH:Nat
 bad:Bool
def bO (l:List Nd):Nat->Int->RS->Tr×RS
 | 0,_,s=>(.leaf false,s)
 | f+1,n,s=>
  if n=-2 then (.leaf true,s) else if n=-1 then (.leaf false,s) else if n<0 then (.leaf false,{ s with bad:=true })
  else match l[n.toNat]?,s.seen[n.toNat]? with
   | some x,some false=>
    if okL x.ln then
     let r1:=bO l f x.left ⟨s.seen.set n.toNat true,s.fH+1,s.bad⟩
     let r2:=bO l f x.right r1.2
     (.node x.ln r1.1 r2.1,r2.2)
    else (.leaf false,⟨s.seen.set n.toNat true,s.fH+1,true⟩)
   | _,_=>(.leaf false,{ s with bad:=true })
theorem count_set {l:List Bool}{k:Nat}(h:l[k]?=some false):(l.set k true).count false+1=l.count false:=by
 induction l generalizing k with
 | nil=>simp at h
 | cons x r ih=>
  cases k with
  | zero=>simp at h;subst h;simp
  | succ k=>
   simp at h
   have:=ih h
   simp only [List.set_cons_succ,List.count_cons]
   omega
theorem iP (l:List Nd):∀(f:Nat)(n:Int)(s:RS),(bO l f n s).2.seen.count false<=s.seen.count false/\(bO l f n s).2.seen.length=s.seen.length
 | 0,_,_=>⟨Nat.le_refl _,rfl⟩
 | f+1,n,s=>by
  simp only [bO]
  split
  ·exact ⟨Nat.le_refl _,rfl⟩
  ·split
   ·exact ⟨Nat.le_refl _,rfl⟩
   ·split
    ·exact ⟨Nat.le_refl _,rfl⟩
    ·split
     ·rename_i x hx hs
      have hc:=count_set hs
      split
      ·obtain ⟨c,a⟩:=iP l f x.left ⟨s.seen.set n.toNat true,s.fH+1,s.bad⟩
       obtain ⟨d,b⟩:=iP l f x.right (bO l f x.left ⟨s.seen.set n.toNat true,s.fH+1,s.bad⟩).2
       dsimp only at c a d b ⊢
       exact ⟨by omega,by rw [b,a,List.length_set]⟩
      ·dsimp only;exact ⟨by omega,by simp⟩
     ·exact ⟨Nat.le_refl _,rfl⟩
theorem qa (l:List Nd):∀(f:Nat)(n:Int)(s:RS),(bO l f n s).2.fH+(bO l f n s).2.seen.count false=s.fH+s.seen.count false
 | 0,_,_=>rfl
 | f+1,n,s=>by
  simp only [bO]
  split
  ·rfl
  ·split
   ·rfl
   ·split
    ·rfl
    ·split
     ·rename_i x hx hs
      have hc:=count_set hs
      split
      ·have a:=qa l f x.left ⟨s.seen.set n.toNat true,s.fH+1,s.bad⟩
       have b:=qa l f x.right (bO l f x.left ⟨s.seen.set n.toNat true,s.fH+1,s.bad⟩).2
       dsimp only at a b ⊢
       omega
      ·dsimp only;omega
     ·rfl
theorem wm {p:L3->Prop}{l:List Nd}(hl:∀x∈l,p x.ln):∀(f:Nat)(n:Int)(s:RS),(bO l f n s).1.All p
 | 0,_,_=>trivial
 | f+1,n,s=>by
  simp only [bO]
  split
  ·trivial
  ·split
   ·trivial
   ·split
    ·trivial
    ·split
     ·rename_i x hx hs
      split
      ·exact ⟨hl x (List.mem_of_getElem? hx),wm hl f _ _,wm hl f _ _⟩
      ·trivial
     ·trivial
theorem rP (l:List Nd):∀(f:Nat)(n:Int)(s:RS),(bO l f n s).1.size+s.fH<=(bO l f n s).2.fH
 | 0,_,_=>by simp [bO,Tr.size]
 | f+1,n,s=>by
  simp only [bO]
  split
  ·simp [Tr.size]
  ·split
   ·simp [Tr.size]
   ·split
    ·simp [Tr.size]
    ·split
     ·split
      ·rename_i x hx hs hok
       have h1:=rP l f x.left ⟨s.seen.set n.toNat true,s.fH+1,s.bad⟩
       have a:=rP l f x.right (bO l f x.left ⟨s.seen.set n.toNat true,s.fH+1,s.bad⟩).2
       dsimp only at h1 a ⊢
       simp only [Tr.size]
       omega
      ·simp [Tr.size]
     ·simp [Tr.size]
def lD (s:List Bool)(I:List Nat):List Bool:=I.foldl (fun s k=>s.set k true) s
theorem rW:∀(I:List Nat)(s:List Bool)(k:Nat),k∉I->(lD s I)[k]?=s[k]?
 | [],_,_,_=>rfl
 | i::r,s,k,h=>by
  have:=rW r (s.set i true) k (fun a=>h (List.mem_cons_of_mem _ a))
  unfold lD at this ⊢
  rw [List.foldl_cons,this,List.getElem?_set_ne (fun e=>h (by simp [e]))]
theorem wq (l:List Nd):∀(t:Tr)(f:Nat)(n:Int)(s:RS)(I:List Nat),Jx l n t I->I.Nodup->(∀k∈I,s.seen[k]?=some false)->t.All (fun x=>okL x=true)->t.size<f->bO l f n s=(t,⟨lD s.seen I,s.fH+t.size,s.bad⟩)
 | .leaf i,f,n,s,I,⟨h1,h2⟩,_,_,_,hf=>by
  subst h2
  obtain ⟨f,rfl⟩:∃g,f=g+1:=⟨f-1,by simp [Tr.size] at hf;omega⟩
  cases i with
  | true=>simp only [if_true] at h1;subst h1;simp [bO,lD,Tr.size]
  | false=>
   have h1:n=-1:=by simpa using h1
   subst h1;simp [bO,lD,Tr.size]
 | .node ln a b,f,n,s,I,⟨k,x,A,B,h1,h2,h3,h4,h5,h6⟩,hnd,hun,hok,hf=>by
  subst h1 h3 h6
  obtain ⟨f,rfl⟩:∃g,f=g+1:=⟨f-1,by simp [Tr.size] at hf;omega⟩
  rw [List.nodup_cons,List.nodup_append] at hnd
  obtain ⟨p,q,r,u⟩:=hnd
  have d:=hun k (by simp)
  simp only [Tr.size] at hf
  have v:=wq l a f x.left ⟨s.seen.set k true,s.fH+1,s.bad⟩ A h4 q (fun j c=>by
   have:k≠j:=fun e=>p (by rw [e];simp [c])
   dsimp only
   rw [List.getElem?_set_ne this]
   exact hun j (by simp [c])) hok.2.1 (by omega)
  have w:=wq l b f x.right ⟨lD (s.seen.set k true) A,s.fH+1+a.size,s.bad⟩ B h5 r (fun j c=>by
   have:k≠j:=fun e=>p (by rw [e];simp [c])
   dsimp only
   rw [rW A _ j (fun h=>u j h j c rfl),List.getElem?_set_ne this]
   exact hun j (by simp [c])) hok.2.2 (by omega)
  have m:¬((k:Int)=-2):=by omega
  have o:¬((k:Int)=-1):=by omega
  have y:¬((k:Int)<0):=by omega
  have z:bO l (f+1) (k:Int) s=(.node x.ln (bO l f x.left ⟨s.seen.set k true,s.fH+1,s.bad⟩).1 (bO l f x.right (bO l f x.left ⟨s.seen.set k true,s.fH+1,s.bad⟩).2).1,(bO l f x.right (bO l f x.left ⟨s.seen.set k true,s.fH+1,s.bad⟩).2).2):=by
   rw [bO]
   rw [if_neg m,if_neg o,if_neg y]
   simp only [Int.toNat_natCast,h2,d,hok.1,if_true]
  rw [z,v]
  dsimp only
  rw [w]
  simp only [lD,List.foldl_cons,List.foldl_append,Tr.size,Prod.mk.injEq,RS.mk.injEq,true_and]
  first|omega|exact ⟨by omega,trivial⟩
def ofT (l:List Nd)(root:Int):Option Tr:=
 if 65536<l.length then none else
 let r:=bO l (l.length+1) root ⟨List.replicate l.length false,0,false⟩
 if r.2.bad=true\/r.2.fH≠l.length then none else some r.1
theorem Gy {l:List Nd}{n:Int}{t:Tr}{I:List Nat}(h:Jx l n t I)(hn:I.Nodup)(hI:∀k∈I,k<l.length)(hs:t.size=l.length)(hok:t.All fun x=>okL x=true)(hl:l.length<=65536):ofT l n=some t:=by
 unfold ofT
 rw [if_neg (by omega)]
 rw [wq l t (l.length+1) n _ I h hn (fun k a=>by simp [hI k a]) hok (by omega)]
 simp [hs]
theorem IG {t:Tr}(hok:t.All fun x=>okL x=true)(hl:t.size<=65536):ofT (wr 0 t) (rt 0 t)=some t:=by
 have h:=A6 t (wr 0 t) [] [] 0 (by simp) rfl
 refine Gy h List.nodup_range' (fun k a=>?_) (fa t 0).symm hok (by rw [fa];exact hl)
 rw [fa]
 have:=List.mem_range'_1.1 a
 omega
theorem ofT_all {p:L3->Prop}{l:List Nd}{n:Int}{t:Tr}(hl:∀x∈l,p x.ln)(h:ofT l n=some t):t.All p:=by
 unfold ofT at h
 split at h
 ·cases h
 ·dsimp only at h
  split at h
  ·cases h
  ·cases h;exact wm hl _ _ _
theorem ofT_size {l:List Nd}{n:Int}{t:Tr}(h:ofT l n=some t):t.size<=65536:=by
 unfold ofT at h
 split at h
 ·cases h
 ·dsimp only at h
  split at h
  ·cases h
  ·rename_i b a
   cases h
   have:=rP l (l.length+1) n ⟨List.replicate l.length false,0,false⟩
   dsimp only at this
   have c:(bO l (l.length+1) n ⟨List.replicate l.length false,0,false⟩).2.fH=l.length:=by
    rcases Nat.lt_or_ge 0 1 with _|h
    ·by_cases e:(bO l (l.length+1) n ⟨List.replicate l.length false,0,false⟩).2.fH=l.length
     ·exact e
     ·exact absurd (.inr e) a
    ·omega
   omega
def RG (n MC i:Nat):Nat:=n-1-(i+MC)%n
def mv (n MC:Nat)(i:Int):Int:=if i<0 then i else (RG n MC i.toNat:Int)
theorem addadd (a:Addr)(i j:Nat):(a.add i).add j=a.add (i+j):=by
 unfold Addr.add
 by_cases b:i=0
 ·subst b;simp
 ·by_cases c:j=0
  ·subst c;simp [b]
  ·simp [b,c,Nat.add_assoc]
theorem rdc {V:View}{b:Nat}{xs:List Value}{ty:TypeId}{m:Nat×Nat}(h:V.aZ b (.cells xs.toArray ty m))(i:Nat){v:Value}(hv:xs[i]?=some v):∃a,addrAdd (some ⟨b,0,none⟩) i=some a/\V.at a v:=
 ⟨⟨b,i,none⟩,by simp [addrAdd,add_zero'],blk_at h hv⟩
theorem mw {a b c:Int}:gP (decide (a<0)) (ae a.natAbs) (decide (b<0)) (ae b.natAbs) (decide (c<0)) (ae c.natAbs)=okL (a,b,c):=by
 have d:∀z:Int,eo (decide (z<0)) (ae z.natAbs)=true:=by
  intro z
  unfold eo
  rw [ab]
  simp only [decide_true,Bool.true_and]
  by_cases h:z<0
  ·simp only [h,decide_true,Bool.not_true,Bool.false_or,decide_eq_true_eq]
   intro e
   have:=aT.1 e
   omega
  ·simp [h]
 have j:fy (fy (a:Rat) (b:Rat)) (c:Rat)=((ij a b c:Nat):Int):=by
  have g:∀x y:Int,fy (x:Rat) (y:Rat)=((Nat.gcd x.natAbs y.natAbs:Nat):Int):=by
   intro x y
   unfold fy
   have k:((x:Rat)).num=x:=rfl
   have l:((y:Rat)).num=y:=rfl
   have m:((x:Rat)).den=1:=rfl
   have n:((y:Rat)).den=1:=rfl
   rw [k,l,m,n]
   simp only [Nat.mul_one]
   exact Rat.mkRat_one _
  rw [g,g]
  rfl
 unfold gP okL
 rw [d,d,d,au,au,au,j]
 have o:∀z:Int,((z:Rat)=0)↔z=0:=fun z=>by exact Rat.intCast_eq_zero_iff
 simp only [Bool.true_and,o]
 rw [Bool.eq_iff_iff]
 simp only [Bool.and_eq_true,Bool.not_eq_true',Bool.and_eq_false_iff,decide_eq_false_iff_not,decide_eq_true_eq]
 have p:(((ij a b c:Nat):Int):Rat)=((1:Int):Rat)↔ij a b c=1:=by
  rw [Rat.intCast_inj];omega
 rw [p]
 constructor
 ·rintro ⟨h,f⟩;exact ⟨fun e=>by rcases h with h|h;exact h e.1;exact h e.2,f⟩
 ·rintro ⟨h,f⟩
  refine ⟨?_,f⟩
  by_cases i:a=0
  ·exact .inr fun q=>h ⟨i,q⟩
  ·exact .inl i
theorem nX {z:Int}{k:Nat}(h:z.natAbs<2^k)(hk:0<k):Sz k (z:Rat):=⟨h,Nat.one_lt_two_pow (by omega)⟩
theorem Bd.ae {x:L3}(h:Bd x):(ae x.1.natAbs).length<=1000/\(ae x.2.1.natAbs).length<=1000/\(ae x.2.2.natAbs).length<=1000:=⟨af h.1,af h.2.1,af h.2.2⟩
theorem Bd.sz {x:L3}(h:Bd x):Sz 1000 (x.1:Rat)/\Sz 1000 (x.2.1:Rat)/\Sz 1000 (x.2.2:Rat):=⟨nX h.1 (by omega),nX h.2.1 (by omega),nX h.2.2 (by omega)⟩
theorem xJ {V:View}{v:Value}{x:L3}(h:RL V v x.1 x.2.1 x.2.2)(hb:Bd x) :
  Acts prog 132 #[v] V fun r V'=>∃w,r=.tuple #[w,.bool (okL x)]/\FH w/\(okL x=true->pt V' w x.1 x.2.1 x.2.2):=by
 obtain ⟨p,n,s,f,g,i,q,m,e,rfl,b,c,d⟩:=h
 obtain ⟨d1,d2,d3⟩:=hb.ae
 obtain ⟨s1,s2,s3⟩:=hb.sz
 have a:=qB (V:=V) (decide (x.1<0)) (decide (x.2.1<0)) (decide (x.2.2<0)) b c d (by omega) (by omega) (by omega) (k:=1000) (by rw [au];exact s1) (by rw [au];exact s2) (by rw [au];exact s3) (by omega)
 rw [mw,au,au,au] at a
 exact a
end Go.Proofs.Tryz
namespace Go.Proofs.Tryz
open Go.Eng
set_option maxRecDepth 100000
end Go.Proofs.Tryz
namespace Go.Proofs.Tryz
open Go.Eng Go.Big
def small (z:Int)(k:Nat):Bool:=decide (z.natAbs<=k)
def Mr (V:View)(p:OA)(n:Nat):Prop:=∀i,i<n->∃(a:Addr)(x:Int),addrAdd p (i*1)=some a/\V.at a (.int .i64 x)
theorem Mr.le {V V':View}{p:OA}{n:Nat}(h:Mr V p n)(l:V.Le V'):Mr V' p n:=fun i b=>by
 obtain ⟨a,x,e,c⟩:=h i b;exact ⟨a,x,e,l.at c⟩
theorem RQ.zero {V:View}:RQ V (.agg #[.bool false,.slice none 0 0,.slice none 0 0]) ((0:Int):Rat):=⟨none,0,0,none,0,0,rfl,RD.nil,RD.nil⟩
theorem RP.zero {V:View}:RP V (.agg #[.bool false,.slice none 0 0,.slice none 0 0,.bool false,.slice none 0 0,.slice none 0 0]) ((0:Int):Rat) ((0:Int):Rat):=
 ⟨none,0,0,none,0,0,none,0,0,none,0,0,rfl,RQ.zero,RQ.zero⟩
end Go.Proofs.Tryz
namespace Go.Proofs.Tryz
open Go.Eng
set_option maxRecDepth 100000
end Go.Proofs.Tryz
namespace Go.Proofs.Tryz
open Go.Eng Go.Big
end Go.Proofs.Tryz
