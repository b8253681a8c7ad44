import Derived.Test.YtapnijmlbakblaaGreatDoorS13
import Derived.Test.YtapnijmlbakblaaGreatDoorS8
import Derived.Test.YtapnijmlbakblaaGreatDoorS12
set_option linter.unusedVariables false
open Go.IntKind (i64 u64 u32)
namespace Go.Proofs.Tryz
open Go.Eng Go.Big
theorem kT {V:View}{p q:OA}{n c m e:Nat}{x y:Nat}(hx:RN V p n c x)(hy:RN V q m e y)(hm:(ai x).length<=274877906944)(hm':(ai y).length<=274877906944) :
  ae prog 134 #[.slice p n c,.slice q m e] V fun r V'=>∃p1 n1 c1,r=.slice p1 n1 c1/\RN V' p1 n1 c1 (Nat.gcd x y):=by
 have L:=hx.len;have zU:=hy.len;refine yH p n c q m e V _ fun M t=>(kW (hx.le t) (by omega)).mono ?_;rintro r V2 B rfl;rw [af];refine ⟨_,_,rfl,fun z V'=>True,⟨fun w=>?_,fun w=>⟨(),by (try dsimp only);and_intros<;>first|exact True.intro|rfl,trivial⟩⟩,?_⟩
 ·have w:n<=2:=by simpa using w
  refine fun V3 N=>(kW (hy.le (t.trans (B.trans N))) (by omega)).mono ?_;rintro r V4 l4 rfl;rw [af];refine ⟨_,_,rfl,fun j=>?_,fun j=>⟨(),by (try dsimp only);and_intros<;>first|exact True.intro|rfl,trivial⟩⟩;have j:m<=2:=by simpa using j
  have C:=qL (x:=x) (by omega);have O:=qL (x:=y) (by omega);rw [if_pos w,if_pos j]
  refine ⟨fun z V'=>∃a b:Nat,z=((a:Int),(b:Int))/\a<18446744073709551616/\b<18446744073709551616/\Nat.gcd a b=Nat.gcd x y,fun z=>z.2.toNat,
   ⟨((x:Int),(y:Int)),by (try dsimp only);and_intros<;>first|exact True.intro|rfl,x,y,rfl,C,O,rfl⟩,?_⟩
  rintro _ V5 l5 ⟨a,b,rfl,s,g,l⟩;dsimp only;refine ⟨by trivial,fun f=>?_,fun f=>?_⟩
  ·have f:0<b:=by simpa using f
   have P:(a:Int).tmod (b:Int)=((a%b:Nat):Int):=by rw [Int.tmod_eq_emod_of_nonneg (by omega)];omega
   have A:a%b<b:=Nat.mod_lt _ f;refine ⟨by omega,((b:Int),((a%b:Nat):Int)),?_,by (try dsimp only);and_intros<;>first|exact True.intro|rfl|exact P,b,a%b,rfl,g,by omega,?_⟩
   ·(try dsimp only);simp only [Int.toNat_natCast];exact A
   ·rw [←l,Nat.gcd_comm a b,Nat.gcd_rec b a,Nat.gcd_comm]
  ·have f:b=0:=by simp at f;omega
   subst f;rw [Nat.gcd_zero_right] at l;refine fun V6 l6=>(cX a s).mono ?_;rintro r V7 l7 ⟨p1,n1,c1,rfl,D⟩;rw [l] at D;exact ⟨_,_,_,rfl,fun V8 Q=>⟨_,_,_,rfl,D.le Q⟩⟩
 rintro _ V9 I _
 replace hx:=hx.le (t.trans (B.trans I))
 replace hy:=hy.le (t.trans (B.trans I))
 refine ⟨by trivial,fun z k V'=>∃a b:Nat,RN V' z.1 z.2.1 z.2.2.1 a/\RN V' z.2.2.2.1 z.2.2.2.2.1 z.2.2.2.2.2 b/\b=k/\(ai a).length<=274877906944/\(ai b).length<=274877906944/\Nat.gcd a b=Nat.gcd x y,
  ⟨(p,n,c,q,m,e),y,by (try dsimp only);and_intros<;>first|exact True.intro|rfl,x,y,hx,hy,rfl,hm,hm',rfl⟩,?_⟩
 rintro ⟨ap,an,ac,R,E,S⟩ _ gu T ⟨a,b,s,g,rfl,F,u,l⟩;dsimp only at s g ⊢;have o:=s.len;have G:=g.len;refine ⟨by trivial,fun f=>?_,fun f=>?_⟩
 ·have f:0<E:=by simpa using f
  have i:0<b:=by
   rcases Nat.eq_zero_or_pos b with h|h
   ·subst h;simp at G;omega
   ·exact h
  refine fun fg H=>(dW (s.le H) (g.le H) F u i).mono ?_;rintro r ib U ⟨p1,n1,c1,W,X,Y,rfl,D,Z⟩;have A:a%b<b:=Nat.mod_lt _ i;have a0:=aC (Nat.le_of_lt A);refine ⟨_,_,_,_,_,_,rfl,(R,E,S,W,X,Y),a%b,A,by (try dsimp only);and_intros<;>first|exact True.intro|rfl,b,a%b,g.le (H.trans U),Z,rfl,u,by omega,?_⟩;rw [←l,Nat.gcd_comm a b,Nat.gcd_rec b a,Nat.gcd_comm]
 ·have f:E=0:=by simp at f;omega
  have i:b=0:=bH.1 (List.length_eq_zero_iff.1 (by omega));subst i;rw [Nat.gcd_zero_right] at l;rw [←l];refine ⟨aB (ai a),s.sl,by simp [o],by omega,by omega,by simp,by simp [o],?_,?_⟩
  ·intro v K;simp only [aB,List.mem_map] at K;obtain ⟨d,-,rfl⟩:=K;rfl
  ·intro bk J sp c' j h2 M t b g;refine ⟨_,_,_,rfl,?_⟩;simp only [Nat.zero_add,Nat.zero_mul,List.take_zero,List.nil_append] at g j ⊢;exact copied (aA a) o j g
theorem fB {V:View}(b:Bool){p:OA}{n c x:Nat}(h:RN V p n c x) :
  ae prog 83 #[.bool b,.slice p n c] V fun r V'=>RI V' r (if b then -(x:Int) else x):=by
 have f:=fW h.len;refine D5 b p n c V _ ⟨fun a e d=>?_,fun a e d=>?_⟩
 ·rw [if_pos a];refine RI.mk ?_ ?_
  ·rw [Bool.eq_iff_iff,decide_eq_true_eq,decide_eq_true_eq];omega
  ·rw [Int.natAbs_neg,Int.natAbs_natCast];exact h.le d
 ·rw [a,if_neg (by decide)];refine RI.mk ?_ ?_
  ·symm;rw [decide_eq_false_iff_not];omega
  ·rw [Int.natAbs_natCast];exact h.le d
theorem iZ {V:View}{b:Bool}{p:OA}{n c x:Nat}{z:Int}(h:RN V p n c x)(hz:(if b then -(x:Int) else x)=z) :
  ae prog 83 #[.bool b,.slice p n c] V fun r V'=>∃(IK:Bool)(Kb:OA)(JT IX:Nat),r=.agg #[.bool IK,.slice Kb JT IX]/\∀V3:View,V'.Le V3->RI V3 (.agg #[.bool IK,.slice Kb JT IX]) z:=by
 refine (fB b h).mono ?_;rintro r V2 d ⟨e,f,i,rfl,g⟩;rw [hz] at g ⊢;exact ⟨_,_,_,_,rfl,fun V3 a=>⟨_,_,_,rfl,g.le a⟩⟩
theorem zD {V:View}(n:Int)(h0:-9223372036854775808<=n)(h1:n<=9223372036854775807) :
  ae prog 77 #[.int .i64 n] V fun r V'=>RI V' r n:=by
 refine FZ n V _ ⟨fun a d f=>?_,fun a d f=>?_⟩
 ·have a:n<0:=by simpa using a
  have e:u64.wrap (0-u64.wrap n)=((-n).toNat:Int):=by rw [rR,rR];omega
  rw [e];refine (cX _ (by omega)).mono ?_;rintro r V2 g ⟨h,i,j,rfl,b⟩;exact ⟨_,_,_,rfl,fun k c=>iZ (b.le c) (by simp;omega)⟩
 ·have a:0<=n:=by simpa using a
  have e:u64.wrap n=(n.toNat:Int):=by rw [aN (by omega)];omega
  rw [e];refine (cX _ (by omega)).mono ?_;rintro r V2 g ⟨h,i,j,rfl,b⟩;exact ⟨_,_,_,rfl,fun k c=>iZ (b.le c) (by simp;omega)⟩
theorem EI {V:View}(z:Int){p:OA}{n c:Nat}(h:RN V p n c z.natAbs) :
  ae prog 173 #[.agg #[.bool (decide (z<0)),.slice p n c]] V fun r V'=>r=.int .i64 z.sign:=by
 have f:=fW h.len;refine D9 _ p n c V _ ⟨fun b d e=>?_,fun b=>⟨fun a d e=>?_,fun a d e=>?_⟩⟩
 ·have:z=0:=by simp at b;omega
  rw [this];rfl
 ·rw [decide_eq_true_eq] at a;rw [Int.sign_eq_neg_one_of_neg a]
 ·rw [decide_eq_false_iff_not] at a;have:0<z:=by simp at b;omega
  rw [Int.sign_eq_one_of_pos this]
theorem ju {V:View}(z:Int){p:OA}{n c:Nat}(h:RN V p n c z.natAbs) :
  ae prog 38 #[.agg #[.bool (decide (z<0)),.slice p n c]] V fun r V'=>RI V' r (-z):=by
 refine BK _ p n c V _ fun d a=>iZ (h.le a) ?_;by_cases b:z<0<;>simp [b]<;>omega
theorem ke {V:View}(z w:Int){p q:OA}{n c m e:Nat}(ha:RN V p n c z.natAbs)(hb:RN V q m e w.natAbs)(hm:(ai z.natAbs).length+(ai w.natAbs).length<=1099511627776) :
  ae prog 141 #[.agg #[.bool (decide (z<0)),.slice p n c],.agg #[.bool (decide (w<0)),.slice q m e]] V fun r V'=>RI V' r (z*w):=by
 refine F2 _ p n c _ q m e V _ fun h a=>(cz (ha.le a) (hb.le a) hm).mono ?_;rintro r V2 i ⟨j,k,l,rfl,b⟩;rw [af,af] at b;refine ⟨_,_,_,rfl,fun o d=>iZ (b.le d) ?_⟩;have f:z=aZ (decide (z<0)) (ai z.natAbs):=(aE z).symm;have g:w=aZ (decide (w<0)) (ai w.natAbs):=(aE w).symm
 conv=>rhs;rw [f,g]
 unfold aZ;rw [af,af];cases decide (z<0)<;>cases decide (w<0)<;>simp [Int.neg_mul,Int.mul_neg]
theorem zC {V:View}(z w:Int){p q:OA}{n c m e:Nat}(ha:RN V p n c z.natAbs)(hb:RN V q m e w.natAbs)(hm:(ai z.natAbs).length<=1099511627776)(hn:(ai w.natAbs).length<=1099511627776) :
  ae prog 140 #[.agg #[.bool (decide (z<0)),.slice p n c],.agg #[.bool (decide (w<0)),.slice q m e]] V fun r V'=>RI V' r (z+w):=by
 refine FV _ p n c _ q m e V _ ⟨fun i t a=>(Ho (ha.le a) (hb.le a) hm hn).mono ?_,fun i t a=>(iG (ha.le a) (hb.le a) hm hn).mono ?_⟩
 ·rintro r V2 g ⟨k,l,o,rfl,b⟩;rw [af,af] at b;refine ⟨_,_,_,rfl,fun s d=>iZ (b.le d) ?_⟩;by_cases h:z<0<;>by_cases hw:w<0<;>simp [h,hw] at i⊢<;> omega
 ·rintro r V2 g rfl;refine ⟨_,rfl,fun f s d=>?_,fun f s d=>?_⟩
  ·have f:z.natAbs<w.natAbs:=by simpa [fU] using f
   refine (oD (hb.le (a.trans (g.trans d))) (ha.le (a.trans (g.trans d))) hn (aC (Nat.le_of_lt f)) (by rw [af,af];omega)).mono ?_;rintro r u v ⟨k,l,o,rfl,b⟩;rw [af,af] at b;refine ⟨_,_,_,rfl,fun x j=>iZ (b.le j) ?_⟩;by_cases h:z<0<;>by_cases hw:w<0<;>simp [h,hw] at i⊢<;> omega
  ·have f:w.natAbs<=z.natAbs:=by simpa [←Int.not_lt,fU] using f
   refine (oD (ha.le (a.trans (g.trans d))) (hb.le (a.trans (g.trans d))) hm (aC f) (by rw [af,af];omega)).mono ?_;rintro r u v ⟨k,l,o,rfl,b⟩;rw [af,af] at b;refine ⟨_,_,_,rfl,fun x j=>iZ (b.le j) ?_⟩;by_cases h:z<0<;>by_cases hw:w<0<;>simp [h,hw] at i⊢<;> omega
end Go.Proofs.Tryz
namespace Go.Eng
open Go.Big
def tC (d:Nat):List Nat:=if d=1 then [] else ai d
def RQ (V:View)(v:Value)(q:Rat):Prop:=∃p n c p' n' c',v=.agg #[.bool (decide (q.num<0)),.slice p n c,.slice p' n' c'] /\
 RD V p n c (ai q.num.natAbs)/\RD V p' n' c' (tC q.den)
theorem RQ.le {V V':View}{v:Value}{q:Rat}(h:RQ V v q)(l:V.Le V'):RQ V' v q:=by
 obtain ⟨p,n,c,a,b,d,e,f,g⟩:=h;exact ⟨p,n,c,a,b,d,e,f.le l,g.le l⟩
theorem Cz {q:Rat}:tC q.den=[]↔q.den=1:=by
 unfold tC;split
 ·rename_i h;simp [h]
 ·rename_i h;rw [bH];have:=q.den_nz;omega
end Go.Eng
namespace Go.Proofs.Tryz
open Go.Eng Go.Big
theorem mf {V:View}{q:Rat}{p:OA}{n c:Nat}(h:RD V p n c (tC q.den)):n=0↔q.den=1:=by
 rw [←Cz,h.len,List.length_eq_zero_iff]
theorem cH {V:View}(q:Rat){p p':OA}{n c n' c':Nat}(b:Bool)(h2:RD V p' n' c' (tC q.den)) :
  ae prog 82 #[.agg #[.bool b,.slice p n c,.slice p' n' c']] V fun r V'=>∃p1 n1 c1,r=.slice p1 n1 c1/\RN V' p1 n1 c1 q.den:=by
 have d:=mf h2;refine FY b p n c p' n' c' V _ ⟨fun a h f=>mU.mono ?_,fun a h f=>⟨_,_,_,rfl,?_⟩⟩
 ·rintro r V2 j ⟨p1,n1,c1,rfl,g⟩;have:q.den=1:=d.1 (by simp at a;omega);rw [this];exact ⟨_,_,_,rfl,fun k i=>⟨_,_,_,rfl,g.le i⟩⟩
 ·have:q.den≠1:=fun e=>by have:=d.2 e;simp at a;omega
  unfold tC at h2;rw [if_neg this] at h2;exact h2.le f
theorem nZ {V:View}{q:Rat}{z:Int}{d:Nat}{p p':OA}{n c n' c':Nat}(hn:q.num=z)(hd:q.den=d)(h1:RD V p n c (ai z.natAbs))(h2:RD V p' n' c' (tC d)){b:Bool}(hb:b=decide (z<0)) :
  RQ V (.agg #[.bool b,.slice p n c,.slice p' n' c']) q:=by
 subst hn hd hb;exact ⟨_,_,_,_,_,_,rfl,h1,h2⟩
theorem kU {V:View}(z:Int){d:Nat}{p q:OA}{n c m e:Nat}(hx:RN V p n c z.natAbs)(hy:RN V q m e d)(hm:(ai z.natAbs).length<=274877906944)(hn:(ai d).length<=274877906944)(hd:d≠0) :
  ae prog 104 #[.agg #[.bool (decide (z<0)),.slice p n c],.slice q m e] V fun r V'=>RQ V' r (mkRat z d):=by
 refine D1 _ p n c q m e V _ fun V1 y=>(kT (hx.le y) (hy.le y) hm hn).mono ?_;rintro r V2 W ⟨p1,n1,c1,rfl,h⟩;have I:=Nat.gcd_dvd_right z.natAbs d;have J:=Nat.gcd_dvd_left z.natAbs d;have K:0<Nat.gcd z.natAbs d:=Nat.gcd_pos_of_pos_right _ (by omega);have i:(ai (Nat.gcd z.natAbs d)).length<=274877906944:=Nat.le_trans (aC (Nat.le_of_dvd (by omega) I)) hn;have L:(mkRat z d).num=z / (Nat.gcd d z.natAbs:Nat):=by rw [Rat.num_mkRat,if_neg hd]
 have a:(mkRat z d).den=d / Nat.gcd d z.natAbs:=by rw [Rat.den_mkRat,if_neg hd]
 rw [Nat.gcd_comm d] at L a;generalize hG:Nat.gcd z.natAbs d=g at *;generalize mkRat z d=w at *;refine ⟨_,_,_,rfl,fun V3 A=>mU.mono ?_⟩;rintro r V4 B ⟨p2,n2,c2,rfl,h1⟩;refine ⟨_,_,_,rfl,fun V5 j=>(iG (h.le (A.trans (B.trans j))) (h1.le j) (by omega) (by decide)).mono ?_⟩;rintro r V6 M rfl
 replace hx:=hx.le (y.trans (W.trans (A.trans (B.trans (j.trans M)))))
 replace hy:=hy.le (y.trans (W.trans (A.trans (B.trans (j.trans M)))))
 replace h:=h.le (A.trans (B.trans (j.trans M)))
 refine ⟨_,rfl,fun X V7 C=>(dW (hx.le C) (h.le C) hm i K).mono ?_,fun X uD D=>mU.mono ?_⟩
 ·rintro r V8 Y ⟨p4,n4,c4,p5,n5,c5,rfl,Z,-⟩;have a0:(mkRat z d).num.natAbs=(mkRat z d).num.natAbs:=rfl;obtain ⟨k,N⟩:=J;have O:z.natAbs / g=k:=by rw [N,Nat.mul_div_cancel_left _ K]
  rw [O] at Z
  have hz:z=(g:Int)*(if z<0 then -(k:Int) else k):=by
   split
   ·rw [Int.mul_neg,←Int.natCast_mul,←N];omega
   ·rw [←Int.natCast_mul,←N];omega
  have b:w.num=(if z<0 then -(k:Int) else k):=by
   rw [L];generalize (if z<0 then -(k:Int) else k)=t at *;rw [hz,Int.mul_ediv_cancel_left _ (by omega)]
  refine ⟨_,_,_,_,_,_,rfl,fun V9 P=>(fB _ (Z.le P)).mono ?_⟩
  have Vj:(if decide (z<0)=true then -(k:Int) else k)=w.num:=by
   rw [b];simp
  rw [Vj];rintro r gu l ⟨p7,n7,c7,rfl,g2⟩;refine ⟨_,_,_,_,rfl,fun fg E=>(dW (hy.le (C.trans (Y.trans (P.trans (l.trans E))))) (h.le (C.trans (Y.trans (P.trans (l.trans E))))) hn i K).mono ?_⟩;rintro r ib cu ⟨p8,n8,c8,p9,n9,c9,rfl,Q,-⟩;rw [←a] at Q;refine ⟨_,_,_,_,_,_,rfl,fun lG F=>mU.mono ?_⟩;rintro r j8 G ⟨Iw,a1,a2,rfl,R⟩;have a3:(ai w.den).length<=274877906944:=by rw [a];exact Nat.le_trans (aC (Nat.div_le_self _ _)) hn
  refine ⟨_,_,_,rfl,fun kK o=>(iG (Q.le (F.trans (G.trans o))) (R.le o) (by omega) (by decide)).mono ?_⟩;rintro r mS S rfl;refine ⟨_,rfl,fun f pk T=>nZ rfl rfl (g2.le (E.trans (cu.trans (F.trans (G.trans (o.trans (S.trans T))))))) ?_ rfl,fun f uC s=>nZ rfl rfl (g2.le (E.trans (cu.trans (F.trans (G.trans (o.trans (S.trans s))))))) ?_ rfl⟩
  ·have:w.den=1:=kh.1 (by simpa using f);rw [Cz.2 this];exact RD.nil
  ·have:w.den≠1:=fun e=>by rw [kh.2 e] at f;simp at f
   unfold tC;rw [if_neg this];exact Q.le (F.trans (G.trans (o.trans (S.trans s))))
 ·have u:g=1:=kh.1 (by simpa using X);have b:w.num=z:=by rw [L,u];simp
  have v:w.den=d:=by rw [a,u];simp
  rintro r Ei H ⟨YT,a4,a5,rfl,R⟩;refine ⟨_,_,_,rfl,fun y_ x=>(iG (hy.le (D.trans (H.trans x))) (R.le x) (by omega) (by decide)).mono ?_⟩;rintro r xF U rfl;refine ⟨_,rfl,fun f pk T=>nZ b v (hx.le (D.trans (H.trans (x.trans (U.trans T))))) ?_ rfl,fun f uC s=>nZ b v (hx.le (D.trans (H.trans (x.trans (U.trans s))))) ?_ rfl⟩
  ·have:d=1:=kh.1 (by simpa using f);unfold tC;rw [if_pos this];exact RD.nil
  ·have:d≠1:=fun e=>by rw [kh.2 e] at f;simp at f
   unfold tC;rw [if_neg this];exact hy.le (D.trans (H.trans (x.trans (U.trans s))))
theorem eM {V:View}(n:Int)(h0:-9223372036854775808<=n)(h1:n<=9223372036854775807) :
  ae prog 35 #[.int .i64 n] V fun r V'=>RQ V' r (n:Rat):=by
 refine Ic n V _ fun b e=>(zD n h0 h1).mono ?_;rintro r V2 f ⟨p,m,c,rfl,g⟩;exact ⟨_,_,_,_,rfl,fun h a=>nZ (z:=n) (d:=1) rfl rfl (g.le a) RD.nil rfl⟩
theorem AK {V:View}(q:Rat){p p':OA}{n c n' c':Nat}(h1:RD V p n c (ai q.num.natAbs)) :
  ae prog 119 #[.agg #[.bool (decide (q.num<0)),.slice p n c,.slice p' n' c']] V fun r V'=>r=.int .i64 q.num.sign:=by
 refine K1 _ p n c p' n' c' V _ fun b a=>(EI q.num (h1.le a)).mono ?_;rintro r V2 d rfl;exact ⟨_,rfl,fun e f=>rfl⟩
theorem mV {V:View}(q:Rat){p p':OA}{n c n' c':Nat}(h1:RD V p n c (ai q.num.natAbs))(h2:RD V p' n' c' (tC q.den)) :
  ae prog 80 #[.agg #[.bool (decide (q.num<0)),.slice p n c,.slice p' n' c']] V fun r V'=>RQ V' r (-q):=by
 refine F4 _ p n c p' n' c' V _ fun f a=>(ju q.num (h1.le a)).mono ?_;rintro r V2 e ⟨h,i,j,rfl,g⟩;exact ⟨_,_,_,_,rfl,fun k b=>nZ (q:=-q) (z:=-q.num) (d:=q.den) (by rfl) (by rfl) (g.le b) ((h2.le a).le (e.trans b)) rfl⟩
theorem qZ {V:View}{p:OA}{n c x:Nat}(h:RN V p n c x) :
  ae prog 83 #[.bool false,.slice p n c] V fun r V'=>RI V' r (x:Int):=by
 have:=fB false h
 rwa [if_neg (by decide)] at this
theorem cA {x:Rat}{k:Nat}(h:Sz k x):(ai x.num.natAbs).length<=k/\(ai x.den).length<=k/\(ai (x.den:Int).natAbs).length<=k:=⟨ag h.1,ag h.2,ag h.2⟩
theorem cC {V:View}{v w:Value}{x y:Rat}(hx:RQ V v x)(hy:RQ V w y){k m:Nat}(hk:Sz k x)(hm:Sz m y)(hkm:k+m<274877906944) :
  ae prog 74 #[v,w] V fun r V'=>RQ V' r (x+y):=by
 obtain ⟨p,n,c,p',n',c',rfl,f,a⟩:=hx;obtain ⟨q,i,e,q',i',e',rfl,h,b⟩:=hy;have A:=mf a;have zU:=mf b;obtain ⟨b1,b2,b3,b4⟩:=uE hk hm;obtain ⟨d1,d2,d3⟩:=cA hk;obtain ⟨d4,d5,d6⟩:=cA hm;have j:x+y=mkRat (x.num*y.den+y.num*x.den) (x.den*y.den):=Rat.add_def' x y;refine (fun tail=>D8 _ p n c p' n' c' _ q i e q' i' e' V _ ⟨fun B=>⟨fun C V1 l=>?_,fun _=>tail⟩,fun _=>tail⟩) ?_
 ·clear tail;have B:x.den=1:=A.1 (by simp at B;omega);have C:y.den=1:=zU.1 (by simp at C;omega);refine (zC x.num y.num (f.le l) (h.le l) (by omega) (by omega)).mono ?_;rintro r V2 Q ⟨p2,n2,c2,rfl,g⟩
  have e1:x+y=((x.num+y.num:Int):Rat):=by
   rw [j,B,C];simp [Rat.mkRat_one]
  rw [e1];exact ⟨_,_,_,_,rfl,fun V3 t=>nZ (z:=x.num+y.num) (d:=1) rfl rfl (g.le t) RD.nil rfl⟩
 ·intro V1 l;refine (cH y _ (b.le l)).mono ?_;rintro r V2 Q ⟨p1,n1,c1,rfl,g1⟩;refine ⟨_,_,_,rfl,fun V3 t=>(qZ (g1.le t)).mono ?_⟩;rintro r V4 l4 ⟨p3,n3,c3,rfl,g3⟩;have R:=l.trans (Q.trans (t.trans l4));refine ⟨_,_,_,_,rfl,fun V5 D=>(ke x.num y.den (f.le (R.trans D)) (g3.le D) (by omega)).mono ?_⟩;rintro r V6 l6 ⟨p5,n5,c5,rfl,g5⟩;have S:=R.trans (D.trans l6);refine ⟨_,_,_,_,rfl,fun V7 E=>(cH x _ (a.le (S.trans E))).mono ?_⟩;rintro r V8 T ⟨p7,n7,c7,rfl,g7⟩;have Po:=S.trans (E.trans T);refine ⟨_,_,_,rfl,fun V9 F=>(qZ (g7.le F)).mono ?_⟩;rintro r gu o ⟨p9,n9,c9,rfl,g9⟩;have U:=Po.trans (F.trans o);refine ⟨_,_,_,_,rfl,fun fg u=>(ke y.num x.den (h.le (U.trans u)) (g9.le u) (by omega)).mono ?_⟩;rintro r ib W ⟨Mu,a0,a1,rfl,G⟩;have tG:=U.trans (u.trans W);refine ⟨_,_,_,_,rfl,fun lG H=>(zC _ _ (g5.le (E.trans (T.trans (F.trans (o.trans (u.trans (W.trans H))))))) (G.le H) (Nat.le_trans (ag b1) (by omega)) (Nat.le_trans (ag b2) (by omega))).mono ?_⟩;rintro r j8 dF ⟨a2,a3,a4,rfl,I⟩;have X:=tG.trans (H.trans dF);refine ⟨_,_,_,_,rfl,fun kK J=>(cH x _ (a.le (X.trans J))).mono ?_⟩;rintro r mS Y ⟨a5,a6,a7,rfl,K⟩;have Mi:=X.trans (J.trans Y);refine ⟨_,_,_,rfl,fun pk L=>(cH y _ (b.le (Mi.trans L))).mono ?_⟩;rintro r uC Z ⟨a8,a9,b0,rfl,M⟩;refine ⟨_,_,_,rfl,fun uD N=>(cz (K.le (L.trans (Z.trans N))) (M.le N) (by omega)).mono ?_⟩;rintro r Ei jL ⟨b5,b6,b7,rfl,s⟩;rw [af,af] at s;refine ⟨_,_,_,rfl,fun y_ iy=>(kU _ (I.le (J.trans (Y.trans (L.trans (Z.trans (N.trans (jL.trans iy))))))) (s.le iy) (Nat.le_trans (ag b3) (by omega)) (Nat.le_trans (ag b4) (by omega)) (Nat.mul_ne_zero x.den_nz y.den_nz)).mono ?_⟩;rw [j];rintro r xF m_ ⟨YV,b8,b9,YW,c0,XH,rfl,O,P⟩;exact ⟨_,_,_,_,_,_,_,rfl,fun En jM=>⟨_,_,_,_,_,_,rfl,O.le jM,P.le jM⟩⟩
theorem kf {V:View}{v w:Value}{x y:Rat}(hx:RQ V v x)(hy:RQ V w y){k m:Nat}(hk:Sz k x)(hm:Sz m y)(hkm:k+m<274877906944) :
  ae prog 121 #[v,w] V fun r V'=>RQ V' r (x-y):=by
 have a:=hx;obtain ⟨p,n,c,l,o,s,rfl,t,u⟩:=hx;obtain ⟨q,i,e,z,A,B,rfl,b,d⟩:=hy;refine F5 _ p n c l o s _ q i e z A B V _ fun F f=>(mV y (b.le f) (d.le f)).mono ?_;rintro r V2 C g;obtain ⟨G,H,I,J,K,L,rfl,M,N⟩:=id g;refine ⟨_,_,_,_,_,_,_,rfl,fun O h=>(cC (a.le (f.trans (C.trans h))) (g.le h) hk hm.neg hkm).mono ?_⟩;rw [←Rat.sub_eq_add_neg];rintro r P Q ⟨R,S,T,U,W,X,rfl,D,E⟩;exact ⟨_,_,_,_,_,_,_,rfl,fun Y j=>⟨_,_,_,_,_,_,rfl,D.le j,E.le j⟩⟩
theorem im {V:View}{v w:Value}{x y:Rat}(hx:RQ V v x)(hy:RQ V w y){k m:Nat}(hk:Sz k x)(hm:Sz m y)(hkm:k+m<274877906944) :
  ae prog 62 #[v,w] V fun r V'=>r=.int .i64 (cmpQ x y):=by
 have a:=hx;have b:=hy;obtain ⟨p,n,c,f,g,h,rfl,j,l⟩:=hx;obtain ⟨q,i,e,o,s,t,rfl,u,z⟩:=hy;refine K0 _ p n c f g h _ q i e o s t V _ fun C d=>(kf (a.le d) (b.le d) hk hm hkm).mono ?_;rintro r V2 D ⟨E,F,G,H,I,J,rfl,A,K⟩;refine ⟨_,_,_,_,_,_,_,rfl,fun L B=>(AK (x-y) (A.le B)).mono ?_⟩;rintro r M N rfl;exact ⟨_,rfl,fun O P=>rfl⟩
theorem aV {V:View}{v w:Value}{x y:Rat}(hx:RQ V v x)(hy:RQ V w y){k m:Nat}(hk:Sz k x)(hm:Sz m y)(hkm:k+m<274877906944) :
  ae prog 76 #[v,w] V fun r V'=>RQ V' r (x*y):=by
 obtain ⟨p,n,c,K,L,M,rfl,b,f⟩:=hx;obtain ⟨q,i,e,N,O,P,rfl,h,j⟩:=hy;have s:=mf f;have Q:=mf j;obtain ⟨d1,d2,d3⟩:=cA hk;obtain ⟨d4,d5,d6⟩:=cA hm;have l:x*y=mkRat (x.num*y.num) (x.den*y.den):=Rat.mul_def' x y;have b1:(x.num*y.num).natAbs<2^(k+m):=by rw [Int.natAbs_mul];exact bN hk.1 hm.1
 have b2:x.den*y.den<2^(k+m):=bN hk.2 hm.2;refine (fun tail=>BM _ p n c K L M _ q i e N O P V _ ⟨fun t=>⟨fun u R a=>?_,fun _=>tail⟩,fun _=>tail⟩) ?_
 ·clear tail;have t:x.den=1:=s.1 (by simp at t;omega);have u:y.den=1:=Q.1 (by simp at u;omega);refine (ke x.num y.num (b.le a) (h.le a) (by omega)).mono ?_;rintro r V2 A ⟨S,T,U,rfl,g⟩
  have W:x*y=((x.num*y.num:Int):Rat):=by
   rw [l,t,u];simp [Rat.mkRat_one]
  rw [W];exact ⟨_,_,_,_,rfl,fun X o=>nZ (z:=x.num*y.num) (d:=1) rfl rfl (g.le o) RD.nil rfl⟩
 ·intro R a;refine (ke x.num y.num (b.le a) (h.le a) (by omega)).mono ?_;rintro r V2 A ⟨S,T,U,rfl,Y⟩;refine ⟨_,_,_,_,rfl,fun X o=>(cH x _ (f.le (a.trans (A.trans o)))).mono ?_⟩;rintro r V4 F ⟨p4,n4,c4,rfl,Z⟩;refine ⟨_,_,_,rfl,fun V5 B=>(cH y _ (j.le (a.trans (A.trans (o.trans (F.trans B)))))).mono ?_⟩;rintro r V6 G ⟨p6,n6,c6,rfl,g6⟩;refine ⟨_,_,_,rfl,fun V7 C=>(cz (Z.le (B.trans (G.trans C))) (g6.le C) (by omega)).mono ?_⟩;rintro r V8 l8 ⟨p8,n8,c8,rfl,H⟩;rw [af,af] at H;refine ⟨_,_,_,rfl,fun V9 I=>(kU _ (Y.le (o.trans (F.trans (B.trans (G.trans (C.trans (l8.trans I))))))) (H.le I) (Nat.le_trans (ag b1) (by omega)) (Nat.le_trans (ag b2) (by omega)) (Nat.mul_ne_zero x.den_nz y.den_nz)).mono ?_⟩;rw [l];rintro r xF m_ ⟨YV,a0,a1,YW,a2,XH,rfl,D,E⟩;exact ⟨_,_,_,_,_,_,_,rfl,fun En J=>⟨_,_,_,_,_,_,rfl,D.le J,E.le J⟩⟩
end Go.Proofs.Tryz
namespace Go.Eng
open Go.Big
def RP (V:View)(v:Value)(x y:Rat):Prop:=∃p n c p' n' c' q m e q' m' e',v=.agg #[.bool (decide (x.num<0)),.slice p n c,.slice p' n' c',.bool (decide (y.num<0)),.slice q m e,.slice q' m' e'] /\
 RQ V (.agg #[.bool (decide (x.num<0)),.slice p n c,.slice p' n' c']) x/\RQ V (.agg #[.bool (decide (y.num<0)),.slice q m e,.slice q' m' e']) y
theorem RP.le {V V':View}{v:Value}{x y:Rat}(h:RP V v x y)(l:V.Le V'):RP V' v x y:=by
 obtain ⟨p,n,c,a,b,d,q,m,e,f,g,i,rfl,j,k⟩:=h;exact ⟨p,n,c,a,b,d,q,m,e,f,g,i,rfl,j.le l,k.le l⟩
theorem RQ.shape {V:View}{v:Value}{q:Rat}(h:RQ V v q):∃p n c p' n' c',v=.agg #[.bool (decide (q.num<0)),.slice p n c,.slice p' n' c']:=by
 obtain ⟨p,n,c,p',n',c',e,-⟩:=h;exact ⟨_,_,_,_,_,_,e⟩
end Go.Eng
namespace Go.Proofs.Tryz
open Go.Eng Go.Big
theorem sC {V:View}{p:OA}{n c:Nat}{ds:List Nat}(h:RD V p n c ds)(hm:ds.length<=1099511627776) :
  ae prog 95 #[.slice p n c] V fun r V'=>∃p1 n1 c1,r=.slice p1 n1 c1/\RD V' p1 n1 c1 ds:=by
 have a:=h.len;refine BO p n c V _ ⟨aB ds,h.sl,by simp [a],by omega,by omega,by simp,by simp [a],?_,?_⟩
 ·intro v e;simp only [aB,List.mem_map] at e;obtain ⟨d,-,rfl⟩:=e;rfl
 ·intro i J sp j f k l m b g;refine ⟨_,_,_,rfl,?_⟩;simp only [Nat.zero_add,Nat.zero_mul,List.take_zero,List.nil_append] at g f ⊢;exact copied h.fk a f g
theorem jv {V:View}{v:Value}{z:Int}(h:RI V v z)(hm:(ai z.natAbs).length<=1099511627776) :
  ae prog 44 #[v] V fun r V'=>RI V' r z:=by
 obtain ⟨p,n,c,rfl,h⟩:=h;refine BN _ p n c V _ fun d a=>(sC (h.le a) hm).mono ?_;rintro r V2 e ⟨f,i,j,rfl,g⟩;exact ⟨_,_,_,rfl,fun k b=>⟨_,_,_,rfl,g.le b⟩⟩
theorem uY {V:View}(x y:Int)(h0:-9223372036854775808<=x)(h1:x<=9223372036854775807)(h2:-9223372036854775808<=y)(h3:y<=9223372036854775807) :
  ae prog 47 #[.int .i64 x,.int .i64 y] V fun r V'=>RP V' r (x:Rat) (y:Rat):=by
 refine Ef x y V _ fun h i=>(eM x h0 h1).mono ?_;rintro r V2 j a;obtain ⟨p,n,c,k,l,o,rfl⟩:=a.shape;refine ⟨_,_,_,_,_,_,_,rfl,fun s f=>(eM y h2 h3).mono ?_⟩;rintro r t g b;obtain ⟨q,m,e,u,v,w,rfl⟩:=b.shape;exact ⟨_,_,_,_,_,_,_,rfl,fun z d=>⟨_,_,_,_,_,_,_,_,_,_,_,_,rfl,a.le (f.trans (g.trans d)),b.le d⟩⟩
theorem jw {V:View}{u v w:Value}{px py c qx qy:Rat}(hp:RP V u px py)(hc:RQ V v c)(hq:RP V w qx qy){k m:Nat}(s1:Sz k px)(s2:Sz k py)(s3:Sz m c)(s4:Sz m qx)(s5:Sz m qy)(hkm:k+(m+m+1)<274877906944) :
  ae prog 34 #[u,v,w] V fun r V'=>RP V' r (px+c*qx) (py+c*qy):=by
 obtain ⟨x,y,z,A,B,C,D,E,F,G,H,I,rfl,d,e⟩:=hp;obtain ⟨J,K,L,M,N,O,rfl⟩:=hc.shape;obtain ⟨P,Q,R,S,T,U,W,X,Y,Z,m4,e4,rfl,f,g⟩:=hq;refine BQ _ x y z A B C _ D E F G H I _ J K L M N O _ P Q R S T U _ W X Y Z m4 e4 V _ fun V1 a=>(aV (hc.le a) (f.le a) s3 s4 (by omega)).mono ?_;rintro r V2 l n;obtain ⟨a1,a2,a3,a4,a5,a6,rfl⟩:=n.shape;refine ⟨_,_,_,_,_,_,_,rfl,fun V3 h=>(cC (d.le (a.trans (l.trans h))) (n.le h) s1 (s3.mul s4) (by omega)).mono ?_⟩;rintro r V4 l4 o;obtain ⟨b1,b2,b3,b4,b5,b6,rfl⟩:=o.shape;have i:=a.trans (l.trans (h.trans l4));refine ⟨_,_,_,_,_,_,_,rfl,fun V5 b=>(aV (hc.le (i.trans b)) (g.le (i.trans b)) s3 s5 (by omega)).mono ?_⟩;rintro r V6 p q;obtain ⟨d1,d2,d3,d4,d5,d6,rfl⟩:=q.shape;refine ⟨_,_,_,_,_,_,_,rfl,fun V7 j=>(cC (e.le (i.trans (b.trans (p.trans j)))) (q.le j) s2 (s3.mul s5) (by omega)).mono ?_⟩;rintro r V8 l8 s;obtain ⟨f1,f2,f3,f4,f5,f6,rfl⟩:=s.shape;exact ⟨_,_,_,_,_,_,_,rfl,fun V9 t=>⟨_,_,_,_,_,_,_,_,_,_,_,_,rfl,o.le (b.trans (p.trans (j.trans (l8.trans t)))),s.le t⟩⟩
theorem MX:Sz 1 ((-1:Int):Rat):=by unfold Sz;decide
theorem Cp {V:View}{u w:Value}{px py qx qy:Rat}(hp:RP V u px py)(hq:RP V w qx qy){k m:Nat}(s1:Sz k px)(s2:Sz k py)(s4:Sz m qx)(s5:Sz m qy)(hm:1<=m)(hkm:k+(m+m+1)<274877906944) :
  ae prog 79 #[u,w] V fun r V'=>RP V' r (px-qx) (py-qy):=by
 have d:=hp;have e:=hq;obtain ⟨j,l,n,o,p,q,s,t,v,x,y,z,rfl,-,-⟩:=hp;obtain ⟨A,B,c,C,D,E,F,G,H,I,J,K,rfl,-,-⟩:=hq;refine BU _ j l n o p q _ s t v x y z _ A B c C D E _ F G H I J K V _ fun S L=>(eM (-1) (by omega) (by omega)).mono ?_;rintro r V2 M g;obtain ⟨T,U,W,X,Y,Z,rfl⟩:=g.shape;have h:=L.trans M;refine ⟨_,_,_,_,_,_,_,rfl,fun V3 f=>(jw (d.le (h.trans f)) (g.le f) (e.le (h.trans f)) s1 s2 (MX.mono hm) s4 s5 hkm).mono ?_⟩
 have c:∀a b:Rat,a+((-1:Int):Rat)*b=a-b:=by
  intro a b;have:((-1:Int):Rat)=-1:=rfl;rw [this,Rat.neg_mul,Rat.one_mul,Rat.sub_eq_add_neg]
 rw [c,c];rintro r V4 l4 ⟨b1,b2,b3,b4,b5,b6,b7,b8,b9,N,O,P,rfl,Q,R⟩;exact ⟨_,_,_,_,_,_,_,_,_,_,_,_,_,_,rfl,fun V5 i=>⟨_,_,_,_,_,_,_,_,_,_,_,_,rfl,Q.le i,R.le i⟩⟩
theorem AM {V:View}{u w:Value}{px py qx qy:Rat}(hp:RP V u px py)(hq:RP V w qx qy){k m:Nat}(s1:Sz k px)(s2:Sz k py)(s4:Sz m qx)(s5:Sz m qy)(hkm:k+m<274877906944) :
  ae prog 78 #[u,w] V fun r V'=>r=.bool (decide (px=qx/\py=qy)):=by
 obtain ⟨l,n,o,p,q,s,t,v,x,y,z,A,rfl,c,d⟩:=hp;obtain ⟨B,C,D,E,F,G,H,I,J,K,L,M,rfl,f,g⟩:=hq;refine yM _ l n o p q s _ t v x y z A _ B C D E F G _ H I J K L M V _ fun O b=>(im (c.le b) (f.le b) s1 s4 hkm).mono ?_;rintro r V2 j rfl;refine ⟨_,rfl,fun a N i=>(im (d.le (b.trans (j.trans i))) (g.le (b.trans (j.trans i))) s2 s5 hkm).mono ?_,fun a N i=>?_⟩
 ·have a:px=qx:=dX.2 (by simpa using a);rintro r P Q rfl;refine ⟨_,rfl,fun R S=>?_⟩;congr 1;rw [Bool.eq_iff_iff,decide_eq_true_eq,beq_iff_eq,←dX];exact ⟨fun h=>⟨a,h⟩,fun h=>h.2⟩
 ·have a:¬px=qx:=fun e=>by rw [dX.1 e] at a;simp at a
  rw [decide_eq_false fun h=>a h.1]
end Go.Proofs.Tryz
namespace Go.Eng
open Go.Big
def RL (V:View)(v:Value)(a b c:Int):Prop:=∃p n s p' n' s' q m e,v=.agg #[.bool (decide (a<0)),.slice p n s,.bool (decide (b<0)),.slice p' n' s',.bool (decide (c<0)),.slice q m e] /\
 RD V p n s (ai a.natAbs)/\RD V p' n' s' (ai b.natAbs)/\RD V q m e (ai c.natAbs)
theorem RL.le {V V':View}{v:Value}{a b c:Int}(h:RL V v a b c)(l:V.Le V'):RL V' v a b c:=by
 obtain ⟨p,n,s,d,f,g,q,m,e,rfl,i,j,k⟩:=h;exact ⟨p,n,s,d,f,g,q,m,e,rfl,i.le l,j.le l,k.le l⟩
end Go.Eng
namespace Go.Proofs.Tryz
open Go.Eng Go.Big
theorem nT {V:View}{p q:OA}{n c m e:Nat}{xs ys:List Nat}(hx:RD V p n c xs)(hy:RD V q m e ys)(hm:xs.length<=1099511627776) :
  ae prog 178 #[.slice p n c,.slice q m e] V fun r V'=>r=.bool (decide (xs=ys)):=by
 have g:=hx.len;have s:=hy.len;refine wY p n c q m e V _ ⟨fun b t u=>?_,fun b=>?_⟩
 ·have b:n≠m:=by simp at b;omega
  rw [decide_eq_false fun h=>b (by rw [g,s,h])]
 ·have b:n=m:=by simp at b;omega
  refine ⟨fun z V'=>0<=z/\z<=n/\xs.take z.toNat=ys.take z.toNat,fun z=>n-z.toNat,⟨0,by (try dsimp only);and_intros<;>first|exact True.intro|rfl,by (try dsimp only);omega,by (try dsimp only);omega,rfl⟩,?_⟩;rintro i V2 o ⟨j,k,d⟩;dsimp only at k d ⊢;obtain ⟨i,rfl⟩:=Int.eq_ofNat_of_zero_le j;simp only [Int.toNat_natCast] at d;refine ⟨by trivial,fun f=>?_,fun f v x=>?_⟩
  ·have f:i<n:=by simpa using f
   refine (hx.le o).rd i rfl (by omega) ((hy.le o).rd i rfl (by omega) ⟨fun a y A=>?_,fun a=>?_⟩)
   ·have a:xs[i]≠ys[i]:=by simp at a;omega
    rw [decide_eq_false fun h=>a (by subst h;rfl)]
   ·have a:xs[i]=ys[i]:=by simp at a;omega
    have w:i64.wrap ((i:Int)+1)=((i+1:Nat):Int):=by rw [aw (by omega)];omega
    simp only [w];refine ⟨((i+1:Nat):Int),?_,by (try dsimp only);and_intros<;>first|exact True.intro|rfl,by (try dsimp only);omega,by (try dsimp only);omega,?_⟩
    ·(try dsimp only);omega
    ·(try dsimp only)
     simp only [Int.toNat_natCast];rw [List.take_succ_eq_append_getElem (by omega),List.take_succ_eq_append_getElem (l:=ys) (by omega),d,a]
  ·have f:i=n:=by simp at f;omega
   rw [List.take_of_length_le (by omega),List.take_of_length_le (by omega)] at d;rw [decide_eq_true d]
theorem KD {z w:Int}:(decide (z<0)==decide (w<0))=true->(decide (ai z.natAbs=ai w.natAbs)=decide (z=w)):=by
 intro h;have b:(z<0↔w<0):=by simpa using h
 rw [Bool.eq_iff_iff,decide_eq_true_eq,decide_eq_true_eq];constructor
 ·intro a;have:=pN a;omega
 ·intro a;rw [a]
theorem gN {V:View}{z w:Int}{p q:OA}{n c m e:Nat}(hx:RD V p n c (ai z.natAbs))(hy:RD V q m e (ai w.natAbs))(hm:(ai z.natAbs).length<=1099511627776) :
  ae prog 129 #[.agg #[.bool (decide (z<0)),.slice p n c],.agg #[.bool (decide (w<0)),.slice q m e]] V fun r V'=>r=.bool (decide (z=w)):=by
 refine wX _ p n c _ q m e V _ ⟨fun a d b=>(nT (hx.le b) (hy.le b) hm).mono ?_,fun a d b=>?_⟩
 ·rintro r V2 f rfl;refine ⟨_,rfl,fun g i=>?_⟩;rw [KD a]
 ·rw [decide_eq_false fun h=>by subst h;simp at a]
theorem xR {V:View}{v w:Value}{a b c a' b' c':Int}(hx:RL V v a b c)(hy:RL V w a' b' c')(h1:(ai a.natAbs).length<=1099511627776)(h2:(ai b.natAbs).length<=1099511627776)(h3:(ai c.natAbs).length<=1099511627776) :
  ae prog 68 #[v,w] V fun r V'=>r=.bool (decide (a=a'/\b=b'/\c=c')):=by
 obtain ⟨p,n,s,x,y,z,q,m,e,rfl,A,B,C⟩:=hx;obtain ⟨i,j,k,D,E,F,i2,G,H,rfl,I,J,K⟩:=hy;refine xg _ p n s _ x y z _ q m e _ i j k _ D E F _ i2 G H V _ fun L d=>(gN (A.le d) (I.le d) h1).mono ?_;rintro r V2 l rfl;refine ⟨_,rfl,fun f M o=>(gN (B.le (d.trans (l.trans o))) (J.le (d.trans (l.trans o))) h2).mono ?_,fun f N O=>?_⟩
 ·rintro r P t rfl;rw [decide_eq_true_eq] at f;refine ⟨_,rfl,fun g Q u=>(gN (C.le (d.trans (l.trans (o.trans (t.trans u))))) (K.le (d.trans (l.trans (o.trans (t.trans u))))) h3).mono ?_,fun g R S=>?_⟩
  ·rintro r T U rfl;rw [decide_eq_true_eq] at g;refine ⟨_,rfl,fun W X=>?_⟩;congr 1;rw [Bool.eq_iff_iff,decide_eq_true_eq,decide_eq_true_eq];exact ⟨fun h=>⟨f,g,h⟩,fun h=>h.2.2⟩
  ·rw [decide_eq_false_iff_not] at g;rw [decide_eq_false fun h=>g h.2.1]
 ·rw [decide_eq_false_iff_not] at f;rw [decide_eq_false fun h=>f h.1]
theorem sE {V:View}{v:Value}{a b c:Int}(hx:RL V v a b c)(h1:(ai a.natAbs).length<=1099511627776)(h2:(ai b.natAbs).length<=1099511627776)(h3:(ai c.natAbs).length<=1099511627776) :
  ae prog 14 #[v] V fun r V'=>RL V' r a b c:=by
 obtain ⟨p,n,s,l,o,t,q,m,e,rfl,u,w,x⟩:=hx;refine BV _ p n s _ l o t _ q m e V _ fun B d=>(jv ⟨_,_,_,rfl,u.le d⟩ h1).mono ?_;rintro r V2 i ⟨C,D,E,rfl,y⟩;refine ⟨_,_,_,_,rfl,fun F f=>(jv ⟨_,_,_,rfl,w.le (d.trans (i.trans f))⟩ h2).mono ?_⟩;rintro r G j ⟨H,I,J,rfl,z⟩;refine ⟨_,_,_,_,rfl,fun K g=>(jv ⟨_,_,_,rfl,x.le (d.trans (i.trans (f.trans (j.trans g))))⟩ h3).mono ?_⟩;rintro r L k ⟨M,N,O,rfl,A⟩;exact ⟨_,_,_,_,rfl,fun P h=>⟨_,_,_,_,_,_,_,_,_,rfl,y.le (f.trans (j.trans (g.trans (k.trans h)))),z.le (g.trans (k.trans h)),A.le h⟩⟩
theorem vl {z:Int}{g:Nat}(hg:0<g)(hd:g∣z.natAbs):(if decide (z<0)=true then -((z.natAbs / g:Nat):Int) else ((z.natAbs / g:Nat):Int))=z / (g:Int):=by
 obtain ⟨k,a⟩:=hd;have b:z.natAbs / g=k:=by rw [a,Nat.mul_div_cancel_left _ hg]
 rw [b]
 have c:z=(g:Int)*(if decide (z<0)=true then -(k:Int) else k):=by
  split
  ·rename_i h;rw [decide_eq_true_eq] at h;rw [Int.mul_neg,←Int.natCast_mul,←a];omega
  ·rename_i h;rw [decide_eq_true_eq] at h;rw [←Int.natCast_mul,←a];omega
 generalize (if decide (z<0)=true then -(k:Int) else k)=t at *;rw [c,Int.mul_ediv_cancel_left _ (by omega)]
def bM (a b c:Int):Nat:=Nat.gcd (Nat.gcd a.natAbs b.natAbs) c.natAbs
theorem xP {V:View}{u v w:Value}{a b c:Int}(ha:RI V u a)(hb:RI V v b)(hc:RI V w c)(h1:(ai a.natAbs).length<=274877906944)(h2:(ai b.natAbs).length<=274877906944)(h3:(ai c.natAbs).length<=274877906944) :
  ae prog 84 #[u,v,w] V fun r V'=>(a=0/\b=0->∃l,r=.tuple #[l,.bool false]/\RL V' l 0 0 0) /\
   (¬(a=0/\b=0)->∃l,r=.tuple #[l,.bool true]/\RL V' l (a / (bM a b c:Int)) (b / (bM a b c:Int)) (c / (bM a b c:Int))):=by
 obtain ⟨p,n,s,rfl,ha⟩:=ha;obtain ⟨T,U,W,rfl,hb⟩:=hb;obtain ⟨q,m,e,rfl,hc⟩:=hc;refine w_ _ p n s _ T U W _ q m e V _ fun V1 j=>(kT (ha.le j) (hb.le j) h1 h2).mono ?_;rintro r V2 L ⟨p1,n1,c1,rfl,M⟩;have hp:=fW M.len;have t:Nat.gcd a.natAbs b.natAbs=0↔a=0/\b=0:=by rw [Nat.gcd_eq_zero_iff];omega
 refine ⟨_,_,_,rfl,fun x V3 l3=>⟨fun _=>⟨_,rfl,_,_,_,_,_,_,_,_,_,rfl,RD.nil,RD.nil,RD.nil⟩,fun h=>?_⟩,fun x V4 y=>?_⟩
 ·exact absurd (t.1 (by simp at x;omega)) h
 have z:¬(a=0/\b=0):=fun h=>by have:=t.2 h;simp at x;omega
 have g:0<Nat.gcd a.natAbs b.natAbs:=by have:=t;omega
 have i:(ai (Nat.gcd a.natAbs b.natAbs)).length<=274877906944:=by
  rcases Nat.eq_zero_or_pos a.natAbs with h|h
  ·rw [h,Nat.gcd_zero_left];exact h2
  ·exact Nat.le_trans (aC (Nat.gcd_le_left _ h)) h1
 refine (kT (M.le y) (hc.le (j.trans (L.trans y))) i h3).mono ?_;rintro r V5 X ⟨p2,n2,c2,rfl,k⟩;have A:=j.trans (L.trans (y.trans X));have Y:Nat.gcd (Nat.gcd a.natAbs b.natAbs) c.natAbs=bM a b c:=rfl;have d:0<bM a b c:=Nat.gcd_pos_of_pos_left _ g;have B:(ai (bM a b c)).length<=274877906944:=Nat.le_trans (aC (Nat.gcd_le_left _ g)) i;have Z:bM a b c∣a.natAbs:=Nat.dvd_trans (Nat.gcd_dvd_left _ _) (Nat.gcd_dvd_left _ _);have db:bM a b c∣b.natAbs:=Nat.dvd_trans (Nat.gcd_dvd_left _ _) (Nat.gcd_dvd_right _ _);have dc:bM a b c∣c.natAbs:=Nat.gcd_dvd_right _ _;have sa:=vl d Z;have sb:=vl d db;have sc:=vl d dc;rw [Y] at k;generalize bM a b c=G at *;refine ⟨_,_,_,rfl,fun V6 C=>(dW (ha.le (A.trans C)) (k.le C) h1 B d).mono ?_⟩;rintro r V7 l7 ⟨p3,n3,c3,p4,n4,c4,rfl,g3,-⟩;have D:=C.trans l7;refine ⟨_,_,_,_,_,_,rfl,fun V8 o=>(dW (hb.le (A.trans (D.trans o))) (k.le (D.trans o)) h2 B d).mono ?_⟩;rintro r V9 N ⟨p5,n5,c5,p6,n6,c6,rfl,g5,-⟩;have O:=D.trans (o.trans N);refine ⟨_,_,_,_,_,_,rfl,fun gu f=>(dW (hc.le (A.trans (O.trans f))) (k.le (O.trans f)) h3 B d).mono ?_⟩;rintro r fg P ⟨p7,n7,c7,p8,n8,c8,rfl,g7,-⟩;refine ⟨_,_,_,_,_,_,rfl,fun ib E=>(fB _ (g3.le (o.trans (N.trans (f.trans (P.trans E)))))).mono ?_⟩;rw [sa];rintro r lG Q ⟨p9,n9,c9,rfl,g9⟩;refine ⟨_,_,_,_,rfl,fun j8 F=>(fB _ (g5.le (f.trans (P.trans (E.trans (Q.trans F)))))).mono ?_⟩;rw [sb];rintro r kK R ⟨Iw,a0,a1,rfl,H⟩;refine ⟨_,_,_,_,rfl,fun mS I=>(fB _ (g7.le (E.trans (Q.trans (F.trans (R.trans I)))))).mono ?_⟩;rw [sc];rintro r pk S ⟨Mu,a2,a3,rfl,J⟩;refine ⟨_,_,_,_,rfl,fun uC K=>⟨fun h=>absurd h z,fun _=>⟨_,rfl,_,_,_,_,_,_,_,_,_,rfl,?_,?_,?_⟩⟩⟩
 ·exact g9.le (F.trans (R.trans (I.trans (S.trans K))))
 ·exact H.le (I.trans (S.trans K))
 ·exact J.le K
end Go.Proofs.Tryz
namespace Go.Eng
open Go.Big
def B0 (V:View)(v:Value)(a b c:Rat):Prop:=∃(x1 x2:Int)(p:OA)(y1 y2:Int)(q:OA)(z1 z2:Int)(r:OA),v=.agg #[.int .i64 x1,.int .i64 x2,.pointer p,.int .i64 y1,.int .i64 y2,.pointer q,.int .i64 z1,.int .i64 z2,.pointer r] /\
 RR V (.agg #[.int .i64 x1,.int .i64 x2,.pointer p]) a/\RR V (.agg #[.int .i64 y1,.int .i64 y2,.pointer q]) b/\RR V (.agg #[.int .i64 z1,.int .i64 z2,.pointer r]) c
def Qq (v:Value):Prop:=∃(x1 x2:Int)(x3:OA)(y1 y2:Int)(y3:OA)(z1 z2:Int)(z3:OA),v=.agg #[.int .i64 x1,.int .i64 x2,.pointer x3,.int .i64 y1,.int .i64 y2,.pointer y3,.int .i64 z1,.int .i64 z2,.pointer z3]
theorem B0.le {V V':View}{v:Value}{a b c:Rat}(h:B0 V v a b c)(l:V.Le V'):B0 V' v a b c:=by
 obtain ⟨d,e,p,f,g,q,i,j,r,rfl,k,m,n⟩:=h;exact ⟨d,e,p,f,g,q,i,j,r,rfl,k.le l,m.le l,n.le l⟩
end Go.Eng
namespace Go.Proofs.Tryz
open Go.Eng Go.Big
theorem Hk {V:View}{v:Value}{a b c:Rat}(h:B0 V v a b c){k:Nat}(s1:Sz k a)(s2:Sz k b)(s3:Sz k c)(hk:k<=1099511627776) :
  ae prog 164 #[v] V fun r V'=>RL V' r a.num b.num c.num:=by
 obtain ⟨w,x,p,y,z,q,A,B,r,rfl,m,n,o⟩:=h;refine yx _ _ _ _ _ _ _ _ _ V _ fun C d=>(fj (m.le d) s1 hk).mono ?_;rintro r V2 i ⟨D,E,F,rfl,s⟩;refine ⟨_,_,_,_,rfl,fun G e=>(fj (n.le (d.trans (i.trans e))) s2 hk).mono ?_⟩;rintro r H j ⟨I,J,K,rfl,t⟩;refine ⟨_,_,_,_,rfl,fun L f=>(fj (o.le (d.trans (i.trans (e.trans (j.trans f))))) s3 hk).mono ?_⟩;rintro r M l ⟨N,O,P,rfl,u⟩;exact ⟨_,_,_,_,rfl,fun Q g=>⟨_,_,_,_,_,_,_,_,_,rfl,s.le (e.trans (j.trans (f.trans (l.trans g)))),t.le (f.trans (l.trans g)),u.le g⟩⟩
def vW (b1:Bool)(xs:List Nat)(b2:Bool)(ys:List Nat)(b3:Bool)(zs:List Nat):Bool:=
 lO b1 xs&&lO b2 ys&&lO b3 zs&&!(decide ((aZ b1 xs:Rat)=0)&&decide ((aZ b2 ys:Rat)=0))&&decide (cQ (cQ (aZ b1 xs) (aZ b2 ys)) (aZ b3 zs)=((1:Int):Rat))
theorem rE {V:View}{ok:Bool}{A B C:Rat}(h:ok=false):∃v,Value.tuple #[.agg #[.int .i64 0,.int .i64 0,.pointer none,.int .i64 0,.int .i64 0,.pointer none,.int .i64 0,.int .i64 0,.pointer none],.bool false]=.tuple #[v,.bool ok]/\Qq v/\(ok=true->B0 V v A B C):=by
 subst h;exact ⟨_,rfl,⟨_,_,_,_,_,_,_,_,_,rfl⟩,fun h=>nomatch h⟩
theorem KT:Sz 1 ((1:Int):Rat):=by unfold Sz;decide
theorem ED {V:View}(b1 b2 b3:Bool){p q s:OA}{n c m e i j:Nat}{xs ys zs:List Nat}(hx:RD V p n c xs)(hy:RD V q m e ys)(hz:RD V s i j zs)
  (h1:xs.length<=1099511627776)(h2:ys.length<=1099511627776)(h3:zs.length<=1099511627776){k:Nat}(s1:Sz k (aZ b1 xs:Rat))(s2:Sz k (aZ b2 ys:Rat))(s3:Sz k (aZ b3 zs:Rat))(hk:4*k+4<1099511627776) :
  ae prog 40 #[.agg #[.bool b1,.slice p n c,.bool b2,.slice q m e,.bool b3,.slice s i j]] V fun r V'=>∃v,r=.tuple #[v,.bool (vW b1 xs b2 ys b3 zs)]/\Qq v/\(vW b1 xs b2 ys b3 zs=true->B0 V' v (aZ b1 xs) (aZ b2 ys) (aZ b3 zs)):=by
 refine DT _ p n c _ q m e _ s i j V _ fun V1 G=>(dV b1 (hx.le G) h1).mono ?_;rintro r V2 J rfl;refine ⟨_,rfl,fun b V3 l3=>rE ?_,fun b V4 K=>(dV b2 (hy.le (G.trans (J.trans K))) h2).mono ?_⟩
 ·have b:lO b1 xs=false:=by simpa using b
  simp [vW,b]
 have b:lO b1 xs=true:=by simpa using b
 rintro r V5 W rfl;refine ⟨_,rfl,fun d V6 l6=>rE ?_,fun d V7 X=>(dV b3 (hz.le (G.trans (J.trans (K.trans (W.trans X))))) h3).mono ?_⟩
 ·have d:lO b2 ys=false:=by simpa using d
  simp [vW,d]
 have d:lO b2 ys=true:=by simpa using d
 rintro r V8 l8 rfl;have Y:=G.trans (J.trans (K.trans (W.trans (X.trans l8))));refine ⟨_,rfl,fun f0 V9 l9=>rE ?_,fun f0 gu w=>(kP b1 (hx.le (Y.trans w)) h1).mono ?_⟩
 ·have f0:lO b3 zs=false:=by simpa using f0
  simp [vW,f0]
 have f0:lO b3 zs=true:=by simpa using f0
 rintro r fg bF f;obtain ⟨x1,x2,x3,rfl⟩:=f.shape;have Z:=Y.trans (w.trans bF);refine ⟨_,_,_,rfl,fun ib L=>(kP b2 (hy.le (Z.trans L)) h2).mono ?_⟩;rintro r lG ck g;obtain ⟨y1,y2,y3,rfl⟩:=g.shape;have VH:=Z.trans (L.trans ck);refine ⟨_,_,_,rfl,fun j8 M=>(kP b3 (hz.le (VH.trans M)) h3).mono ?_⟩;rintro r H dw rc;obtain ⟨z1,z2,z3,rfl⟩:=rc.shape
 replace f:=f.le (L.trans (ck.trans (M.trans dw)))
 replace g:=g.le (M.trans dw)
 have x:vW b1 xs b2 ys b3 zs=(!(decide ((aZ b1 xs:Rat)=0)&&decide ((aZ b2 ys:Rat)=0))&&decide (cQ (cQ (aZ b1 xs) (aZ b2 ys)) (aZ b3 zs)=((1:Int):Rat))):=by
  simp only [vW,b,d,f0,Bool.true_and]
 rw [x];clear x b d f0 hx hy hz;generalize (aZ b1 xs:Rat)=A at *;generalize (aZ b2 ys:Rat)=B at *;generalize (aZ b3 zs:Rat)=C at *;refine ⟨_,_,_,rfl,fun mS I=>(pF (f.le I)).mono ?_⟩;rintro r pk N rfl;refine ⟨_,rfl,fun t0 uC d_=>(pF (g.le (I.trans (N.trans d_)))).mono ?_,fun t0 O P=>?_⟩
 ·rintro r uD fw rfl;refine ⟨_,rfl,fun Q Ei jL=>rE (by rw [t0,Q];rfl),fun Q O P=>?_⟩;have lb:H.Le O:=I.trans (N.trans (d_.trans (fw.trans P)));have R:(decide (A=0)&&decide (B=0))=false:=by rw [Q,Bool.and_false]
  rw [R];refine (gy (f.le lb) (g.le lb) s1 s2 (by omega)).mono ?_;rintro r xF y rg;obtain ⟨g1,g2,g3,rfl⟩:=rg.shape;refine ⟨_,_,_,rfl,fun En l=>(gy (rg.le l) (rc.le (lb.trans (y.trans l))) (fP s1 s2) s3 (by omega)).mono ?_⟩;rintro r On S z;obtain ⟨h1,h2,h3,rfl⟩:=z.shape;refine ⟨_,_,_,rfl,fun Nm D=>(iN 1 (by omega) (by omega)).mono ?_⟩;rintro r Oo E F;obtain ⟨i1,i2,i3,rfl⟩:=F.shape;refine ⟨_,_,_,rfl,fun Qt o=>(kc (z.le (D.trans (E.trans o))) (F.le o) (fP (fP s1 s2) s3) KT (by omega)).mono ?_⟩;rintro r T U rfl;have t:H.Le T:=lb.trans (y.trans (l.trans (S.trans (D.trans (E.trans (o.trans U))))));refine ⟨_,rfl,fun a Tk B4=>rE ?_,fun a Lw u=>?_⟩
  ·rw [Bool.not_eq_true'] at a;rw [a];rfl
  ·have a:decide (cQ (cQ A B) C=((1:Int):Rat))=true:=by
    cases h:decide (cQ (cQ A B) C=((1:Int):Rat))
    ·rw [h] at a;cases a
    ·rfl
   rw [a];exact ⟨_,rfl,⟨_,_,_,_,_,_,_,_,_,rfl⟩,fun _=>⟨_,_,_,_,_,_,_,_,_,rfl,f.le (t.trans u),g.le (t.trans u),rc.le (t.trans u)⟩⟩
 ·have lb:H.Le O:=I.trans (N.trans P);have R:(decide (A=0)&&decide (B=0))=false:=by rw [t0,Bool.false_and]
  rw [R];refine (gy (f.le lb) (g.le lb) s1 s2 (by omega)).mono ?_;rintro r xF y rg;obtain ⟨g1,g2,g3,rfl⟩:=rg.shape;refine ⟨_,_,_,rfl,fun En l=>(gy (rg.le l) (rc.le (lb.trans (y.trans l))) (fP s1 s2) s3 (by omega)).mono ?_⟩;rintro r On S z;obtain ⟨h1,h2,h3,rfl⟩:=z.shape;refine ⟨_,_,_,rfl,fun Nm D=>(iN 1 (by omega) (by omega)).mono ?_⟩;rintro r Oo E F;obtain ⟨i1,i2,i3,rfl⟩:=F.shape;refine ⟨_,_,_,rfl,fun Qt o=>(kc (z.le (D.trans (E.trans o))) (F.le o) (fP (fP s1 s2) s3) KT (by omega)).mono ?_⟩;rintro r T U rfl;have t:H.Le T:=lb.trans (y.trans (l.trans (S.trans (D.trans (E.trans (o.trans U))))));refine ⟨_,rfl,fun a Tk B4=>rE ?_,fun a Lw u=>?_⟩
  ·rw [Bool.not_eq_true'] at a;rw [a];rfl
  ·have a:decide (cQ (cQ A B) C=((1:Int):Rat))=true:=by
    cases h:decide (cQ (cQ A B) C=((1:Int):Rat))
    ·rw [h] at a;cases a
    ·rfl
   rw [a];exact ⟨_,rfl,⟨_,_,_,_,_,_,_,_,_,rfl⟩,fun _=>⟨_,_,_,_,_,_,_,_,_,rfl,f.le (t.trans u),g.le (t.trans u),rc.le (t.trans u)⟩⟩
def jY (V:View)(v:Value)(x y:Rat):Prop:=∃(x1 x2:Int)(p:OA)(y1 y2:Int)(q:OA),v=.agg #[.int .i64 x1,.int .i64 x2,.pointer p,.int .i64 y1,.int .i64 y2,.pointer q] /\
 RR V (.agg #[.int .i64 x1,.int .i64 x2,.pointer p]) x/\RR V (.agg #[.int .i64 y1,.int .i64 y2,.pointer q]) y
theorem jY.le {V V':View}{v:Value}{x y:Rat}(h:jY V v x y)(l:V.Le V'):jY V' v x y:=by
 obtain ⟨a,b,p,c,d,q,e,f,g⟩:=h;exact ⟨a,b,p,c,d,q,e,f.le l,g.le l⟩
theorem AG {V:View}{p:Value}{eo eu:Rat}{q:Value}{sP sQ:Rat}(hp:jY V p eo eu)(hq:jY V q sP sQ){k:Nat}(dj:Sz k eo)(c_:Sz k eu)(nO:Sz k sP)(nP:Sz k sQ)(hk:2*k+1<274877906944) :
  ae prog 219 #[p,q] V fun r V'=>jY V' r ((eo)+(sP)) ((eu)+(sQ)):=by
 have i:=hp;obtain ⟨j,l,m,n,o,s,rfl,t,u⟩:=hp;have v:=hq;obtain ⟨w,x,y,z,A,B,rfl,C,D⟩:=hq;refine yB j l m n o s w x y z A B V _ fun F a=>(pD (t.le (a)) (C.le (a)) dj nO (by omega)).mono ?_;rintro r V2 e f;have b:=f;obtain ⟨G,H,I,rfl⟩:=f.shape;refine ⟨_,_,_,rfl,fun J c=>(pD (u.le (a.trans (e.trans (c)))) (D.le (a.trans (e.trans (c)))) c_ nP (by omega)).mono ?_⟩;rintro r K E g;have d:=g;obtain ⟨L,M,N,rfl⟩:=g.shape;exact ⟨_,_,_,rfl,fun O h=>⟨_,_,_,_,_,_,rfl,(b.le (c.trans (E.trans (h)))),(d.le (h))⟩⟩
theorem xn {eo eu sP sQ:Rat}{k:Nat}(dj:Sz k eo)(c_:Sz k eu)(nO:Sz k sP)(nP:Sz k sQ):Sz (2*k+1) ((eo)+(sP)):=by
 have a:=Sz.mono (m:=2*k+1) (Sz.add dj nO) (by omega);exact Sz.mono a (by omega)
theorem xo {eo eu sP sQ:Rat}{k:Nat}(dj:Sz k eo)(c_:Sz k eu)(nO:Sz k sP)(nP:Sz k sQ):Sz (2*k+1) ((eu)+(sQ)):=by
 have a:=Sz.mono (m:=2*k+1) (Sz.add c_ nP) (by omega);exact Sz.mono a (by omega)
theorem AH {V:View}{p:Value}{eo eu:Rat}{q:Value}{sP sQ:Rat}(hp:jY V p eo eu)(hq:jY V q sP sQ){k:Nat}(dj:Sz k eo)(c_:Sz k eu)(nO:Sz k sP)(nP:Sz k sQ)(hk:2*k+1<274877906944) :
  ae prog 216 #[p,q] V fun r V'=>jY V' r ((eo)-(sP)) ((eu)-(sQ)):=by
 have i:=hp;obtain ⟨j,l,m,n,o,s,rfl,t,u⟩:=hp;have v:=hq;obtain ⟨w,x,y,z,A,B,rfl,C,D⟩:=hq;refine yD j l m n o s w x y z A B V _ fun F a=>(AE (t.le (a)) (C.le (a)) dj nO (by omega)).mono ?_;rintro r V2 e f;have b:=f;obtain ⟨G,H,I,rfl⟩:=f.shape;refine ⟨_,_,_,rfl,fun J c=>(AE (u.le (a.trans (e.trans (c)))) (D.le (a.trans (e.trans (c)))) c_ nP (by omega)).mono ?_⟩;rintro r K E g;have d:=g;obtain ⟨L,M,N,rfl⟩:=g.shape;exact ⟨_,_,_,rfl,fun O h=>⟨_,_,_,_,_,_,rfl,(b.le (c.trans (E.trans (h)))),(d.le (h))⟩⟩
theorem lX {V:View}{p:Value}{eo eu:Rat}{c:Value}{Lf:Rat}(hp:jY V p eo eu)(hc:RR V c Lf){k:Nat}(dj:Sz k eo)(c_:Sz k eu)(H3:Sz k Lf)(hk:2*k+1<274877906944) :
  ae prog 200 #[p,c] V fun r V'=>jY V' r ((eo)*(Lf)) ((eu)*(Lf)):=by
 have l:=hp;obtain ⟨m,n,o,q,s,t,rfl,u,v⟩:=hp;have a:=hc;obtain ⟨w,x,y,rfl⟩:=hc.shape;refine tS m n o q s t w x y V _ fun A b=>(js (u.le (b)) (a.le (b)) dj H3 (by omega)).mono ?_;rintro r V2 g h;have d:=h;obtain ⟨B,C,D,rfl⟩:=h.shape;refine ⟨_,_,_,rfl,fun E e=>(js (v.le (b.trans (g.trans (e)))) (a.le (b.trans (g.trans (e)))) c_ H3 (by omega)).mono ?_⟩;rintro r F z i;have f:=i;obtain ⟨G,H,I,rfl⟩:=i.shape;exact ⟨_,_,_,rfl,fun J j=>⟨_,_,_,_,_,_,rfl,(d.le (e.trans (z.trans (j)))),(f.le (j))⟩⟩
theorem eE {eo eu Lf:Rat}{k:Nat}(dj:Sz k eo)(c_:Sz k eu)(H3:Sz k Lf):Sz (2*k+1) ((eo)*(Lf)):=by
 have a:=Sz.mono (m:=2*k+1) (Sz.mul dj H3) (by omega);exact Sz.mono a (by omega)
theorem eF {eo eu Lf:Rat}{k:Nat}(dj:Sz k eo)(c_:Sz k eu)(H3:Sz k Lf):Sz (2*k+1) ((eu)*(Lf)):=by
 have a:=Sz.mono (m:=2*k+1) (Sz.mul c_ H3) (by omega);exact Sz.mono a (by omega)
theorem xK {V:View}{p:Value}{eo eu:Rat}(hp:jY V p eo eu){k:Nat}(dj:Sz k eo)(c_:Sz k eu)(hk:1*k+1<274877906944) :
  ae prog 217 #[p] V fun r V'=>jY V' r (-(eu)) (eo):=by
 have e:=hp;obtain ⟨f,g,h,i,j,l,rfl,m,n⟩:=hp;refine wP f g h i j l V _ fun q b=>(gL (n.le (b)) c_ (by omega)).mono ?_;rintro r V2 o c;have a:=c;obtain ⟨s,t,u,rfl⟩:=c.shape;exact ⟨_,_,_,rfl,fun v d=>⟨_,_,_,_,_,_,rfl,(a.le (d)),(m.le (b.trans (o.trans (d))))⟩⟩
theorem dU {V:View}{p:Value}{eo eu:Rat}{q:Value}{sP sQ:Rat}(hp:jY V p eo eu)(hq:jY V q sP sQ){k:Nat}(dj:Sz k eo)(c_:Sz k eu)(nO:Sz k sP)(nP:Sz k sQ)(hk:4*k+3<274877906944) :
  ae prog 156 #[p,q] V fun r V'=>RR V' r (((eo)*(sP))+((eu)*(sQ))):=by
 have j:=hp;obtain ⟨l,n,o,s,t,u,rfl,v,w⟩:=hp;have x:=hq;obtain ⟨y,z,A,B,C,D,rfl,E,F⟩:=hq;refine yC l n o s t u y z A B C D V _ fun L a=>(js (v.le (a)) (E.le (a)) dj nO (by omega)).mono ?_;rintro r V2 e f;have b:=f;obtain ⟨M,N,O,rfl⟩:=f.shape;have G:=Sz.mono (m:=2*k+1) (Sz.mul dj nO) (by omega);refine ⟨_,_,_,rfl,fun P c=>(js (w.le (a.trans (e.trans (c)))) (F.le (a.trans (e.trans (c)))) c_ nP (by omega)).mono ?_⟩;rintro r Q H g;have d:=g;obtain ⟨R,S,T,rfl⟩:=g.shape;have I:=Sz.mono (m:=2*k+1) (Sz.mul c_ nP) (by omega);refine ⟨_,_,_,rfl,fun U h=>(pD (b.le (c.trans (H.trans (h)))) (d.le (h)) G I (by omega)).mono ?_⟩;rintro r W X i;have J:=i;obtain ⟨Y,Z,Na,rfl⟩:=i.shape;exact ⟨_,_,_,rfl,fun V7 K=>(J.le (K))⟩
theorem bK {eo eu sP sQ:Rat}{k:Nat}(dj:Sz k eo)(c_:Sz k eu)(nO:Sz k sP)(nP:Sz k sQ):Sz (4*k+3) (((eo)*(sP))+((eu)*(sQ))):=by
 have a:=Sz.mono (m:=2*k+1) (Sz.mul dj nO) (by omega);have b:=Sz.mono (m:=2*k+1) (Sz.mul c_ nP) (by omega);have c:=Sz.mono (m:=4*k+3) (Sz.add a b) (by omega);exact Sz.mono c (by omega)
theorem kQ {V:View}{l:Value}{bI l_1 cJ:Rat}(hl:B0 V l bI l_1 cJ){k:Nat}(bd:Sz k bI)(bg:Sz k l_1)(aX:Sz k cJ)(hk:1*k+1<274877906944) :
  ae prog 157 #[l] V fun r V'=>jY V' r (l_1) (-(bI)):=by
 have f:=hl;obtain ⟨g,a,c,b,h,i,j,m,n,rfl,o,p,q⟩:=hl;refine yz g a c b h i j m n V _ fun s a=>(gL (o.le (a)) bd (by omega)).mono ?_;rintro r V2 c e;have d:=e;obtain ⟨t,u,v,rfl⟩:=e.shape;exact ⟨_,_,_,rfl,fun w b=>⟨_,_,_,_,_,_,rfl,(p.le (a.trans (c.trans (b)))),(d.le (b))⟩⟩
theorem dO {bI l_1 cJ:Rat}{k:Nat}(bd:Sz k bI)(bg:Sz k l_1)(aX:Sz k cJ):Sz (1*k+0) (l_1):=by
 exact Sz.mono bg (by omega)
theorem dP {bI l_1 cJ:Rat}{k:Nat}(bd:Sz k bI)(bg:Sz k l_1)(aX:Sz k cJ):Sz (1*k+0) (-(bI)):=by
 have a:=Sz.mono (m:=1*k+0) (Sz.neg bd) (by omega);exact Sz.mono a (by omega)
theorem hJ {V:View}{l:Value}{bI l_1 cJ:Rat}(hl:B0 V l bI l_1 cJ){k:Nat}(bd:Sz k bI)(bg:Sz k l_1)(aX:Sz k cJ)(hk:1*k+1<274877906944) :
  ae prog 155 #[l] V fun r V'=>jY V' r (bI) (l_1):=by
 have b:=hl;obtain ⟨c,a,d,e,f,g,h,i,j,rfl,m,n,o⟩:=hl;exact rT c a d e f g h i j V _ fun p a=>⟨_,_,_,_,_,_,rfl,(m.le (a)),(n.le (a))⟩
theorem cM {bI l_1 cJ:Rat}{k:Nat}(bd:Sz k bI)(bg:Sz k l_1)(aX:Sz k cJ):Sz (1*k+0) (bI):=by
 exact Sz.mono bd (by omega)
theorem cN {bI l_1 cJ:Rat}{k:Nat}(bd:Sz k bI)(bg:Sz k l_1)(aX:Sz k cJ):Sz (1*k+0) (l_1):=by
 exact Sz.mono bg (by omega)
theorem qW {V:View}{l:Value}{bI l_1 cJ:Rat}(hl:B0 V l bI l_1 cJ){k:Nat}(bd:Sz k bI)(bg:Sz k l_1)(aX:Sz k cJ)(hk:1*k+1<274877906944) :
  ae prog 93 #[l] V fun r V'=>B0 V' r (-(bI)) (-(l_1)) (-(cJ)):=by
 have o:=hl;obtain ⟨p,a,e,b,f,c,g,d,q,rfl,s,t,u⟩:=hl;refine qH p a e b f c g d q V _ fun w a=>(gL (s.le (a)) bd (by omega)).mono ?_;rintro r V2 e j;have h:=j;obtain ⟨x,y,z,rfl⟩:=j.shape;refine ⟨_,_,_,rfl,fun A b=>(gL (t.le (a.trans (e.trans (b)))) bg (by omega)).mono ?_⟩;rintro r B f m;have i:=m;obtain ⟨C,D,E,rfl⟩:=m.shape;refine ⟨_,_,_,rfl,fun F c=>(gL (u.le (a.trans (e.trans (b.trans (f.trans (c)))))) aX (by omega)).mono ?_⟩;rintro r G g n;have v:=n;obtain ⟨H,I,J,rfl⟩:=n.shape;exact ⟨_,_,_,rfl,fun K d=>⟨_,_,_,_,_,_,_,_,_,rfl,(h.le (b.trans (f.trans (c.trans (g.trans (d)))))),(i.le (c.trans (g.trans (d)))),(v.le (d))⟩⟩
theorem lV {V:View}{l:Value}{bI l_1 cJ:Rat}{p:Value}{eo eu:Rat}(hl:B0 V l bI l_1 cJ)(hp:jY V p eo eu){k:Nat}(bd:Sz k bI)(bg:Sz k l_1)(aX:Sz k cJ)(dj:Sz k eo)(c_:Sz k eu)(hk:5*k+4<274877906944) :
  ae prog 158 #[l,p] V fun r V'=>RR V' r ((((bI)*(eo))+((l_1)*(eu)))+(cJ)):=by
 have e:=hl;obtain ⟨v,a,c,b,f,d,n,g,w,rfl,G,H,x⟩:=hl;have h:=hp;obtain ⟨y,z,A,B,C,D,rfl,I,J⟩:=hp;refine tQ v a c b f d n g w y z A B C D V _ fun K a=>(hJ (e.le (a)) (Sz.mono bd (by omega):Sz (1*k+0) _) (Sz.mono bg (by omega):Sz (1*k+0) _) (Sz.mono aX (by omega):Sz (1*k+0) _) (by omega)).mono ?_;rintro r V2 c o;have i:=o;obtain ⟨L,M,N,O,P,Q,rfl,R,S⟩:=o;have q:=Sz.mono (m:=1*k+0) ((cM (Sz.mono bd (by omega):Sz (1*k+0) _) (Sz.mono bg (by omega):Sz (1*k+0) _) (Sz.mono aX (by omega):Sz (1*k+0) _))) (by omega);have s:=Sz.mono (m:=1*k+0) ((cN (Sz.mono bd (by omega):Sz (1*k+0) _) (Sz.mono bg (by omega):Sz (1*k+0) _) (Sz.mono aX (by omega):Sz (1*k+0) _))) (by omega);refine ⟨_,_,_,_,_,_,rfl,fun T b=>(dU (i.le (b)) (h.le (a.trans (c.trans (b)))) (Sz.mono q (by omega):Sz (1*k+0) _) (Sz.mono s (by omega):Sz (1*k+0) _) (Sz.mono dj (by omega):Sz (1*k+0) _) (Sz.mono c_ (by omega):Sz (1*k+0) _) (by omega)).mono ?_⟩;rintro r U f t;have j:=t;obtain ⟨W,X,Y,rfl⟩:=t.shape;have E:=Sz.mono (m:=4*k+3) ((bK (Sz.mono q (by omega):Sz (1*k+0) _) (Sz.mono s (by omega):Sz (1*k+0) _) (Sz.mono dj (by omega):Sz (1*k+0) _) (Sz.mono c_ (by omega):Sz (1*k+0) _))) (by omega);refine ⟨_,_,_,rfl,fun Z d=>(pD (j.le (d)) (x.le (a.trans (c.trans (b.trans (f.trans (d)))))) E aX (by omega)).mono ?_⟩;rintro r V6 n u;have F:=u;obtain ⟨M9,M_,Na,rfl⟩:=u.shape;exact ⟨_,_,_,rfl,fun V7 g=>(F.le (g))⟩
theorem kG {bI l_1 cJ eo eu:Rat}{k:Nat}(bd:Sz k bI)(bg:Sz k l_1)(aX:Sz k cJ)(dj:Sz k eo)(c_:Sz k eu):Sz (5*k+4) ((((bI)*(eo))+((l_1)*(eu)))+(cJ)):=by
 have a:=Sz.mono (m:=1*k+0) ((cM (Sz.mono bd (by omega):Sz (1*k+0) _) (Sz.mono bg (by omega):Sz (1*k+0) _) (Sz.mono aX (by omega):Sz (1*k+0) _))) (by omega);have b:=Sz.mono (m:=1*k+0) ((cN (Sz.mono bd (by omega):Sz (1*k+0) _) (Sz.mono bg (by omega):Sz (1*k+0) _) (Sz.mono aX (by omega):Sz (1*k+0) _))) (by omega);have c:=Sz.mono (m:=4*k+3) ((bK (Sz.mono a (by omega):Sz (1*k+0) _) (Sz.mono b (by omega):Sz (1*k+0) _) (Sz.mono dj (by omega):Sz (1*k+0) _) (Sz.mono c_ (by omega):Sz (1*k+0) _))) (by omega);have d:=Sz.mono (m:=5*k+4) (Sz.add c aX) (by omega);exact Sz.mono d (by omega)
theorem nS {V:View}{l:Value}{bI l_1 cJ:Rat}(hl:B0 V l bI l_1 cJ){k:Nat}(bd:Sz k bI)(bg:Sz k l_1)(aX:Sz k cJ)(hk:10*k+9<274877906944) :
  ae prog 159 #[l] V fun r V'=>jY V' r ((bI)*(((-(cJ))*(((bI)*(bI))+((l_1)*(l_1)))⁻¹))) ((l_1)*(((-(cJ))*(((bI)*(bI))+((l_1)*(l_1)))⁻¹))):=by
 have j:=hl;obtain ⟨G,h,n,b,d,c,i,e,o,rfl,O,P,H⟩:=hl;refine wN G h n b d c i e o V _ fun Q h=>(hJ (j.le (h)) (Sz.mono bd (by omega):Sz (1*k+0) _) (Sz.mono bg (by omega):Sz (1*k+0) _) (Sz.mono aX (by omega):Sz (1*k+0) _) (by omega)).mono ?_;rintro r V2 n q;have a:=q;obtain ⟨R,S,T,U,W,X,rfl,Y,Z⟩:=q;have f:=Sz.mono (m:=1*k+0) ((cM (Sz.mono bd (by omega):Sz (1*k+0) _) (Sz.mono bg (by omega):Sz (1*k+0) _) (Sz.mono aX (by omega):Sz (1*k+0) _))) (by omega);have g:=Sz.mono (m:=1*k+0) ((cN (Sz.mono bd (by omega):Sz (1*k+0) _) (Sz.mono bg (by omega):Sz (1*k+0) _) (Sz.mono aX (by omega):Sz (1*k+0) _))) (by omega);refine ⟨_,_,_,_,_,_,rfl,fun V3 b=>(gL (H.le (h.trans (n.trans (b)))) aX (by omega)).mono ?_⟩;rintro r V4 d s;have p:=s;obtain ⟨Ix,Iy,Iz,rfl⟩:=s.shape;have t:=Sz.mono (m:=1*k+0) (Sz.neg aX) (by omega);refine ⟨_,_,_,rfl,fun V5 c=>(dU (a.le (b.trans (d.trans (c)))) (a.le (b.trans (d.trans (c)))) (Sz.mono f (by omega):Sz (1*k+0) _) (Sz.mono g (by omega):Sz (1*k+0) _) (Sz.mono f (by omega):Sz (1*k+0) _) (Sz.mono g (by omega):Sz (1*k+0) _) (by omega)).mono ?_⟩;rintro r V6 i u;have I:=u;obtain ⟨M9,M_,Na,rfl⟩:=u.shape;have v:=Sz.mono (m:=4*k+3) ((bK (Sz.mono f (by omega):Sz (1*k+0) _) (Sz.mono g (by omega):Sz (1*k+0) _) (Sz.mono f (by omega):Sz (1*k+0) _) (Sz.mono g (by omega):Sz (1*k+0) _))) (by omega);refine ⟨_,_,_,rfl,fun V7 e=>(um (p.le (c.trans (i.trans (e)))) (I.le (e)) t v (by omega)).mono ?_⟩;rintro r V8 o w;have J:=w;obtain ⟨TR,TS,TT,rfl⟩:=w.shape;have K:=Sz.mono (m:=5*k+4) (Sz.mul t (fE v)) (by omega);refine ⟨_,_,_,rfl,fun V9 x=>(lX (a.le (b.trans (d.trans (c.trans (i.trans (e.trans (o.trans (x)))))))) (J.le (x)) (Sz.mono f (by omega):Sz (5*k+4) _) (Sz.mono g (by omega):Sz (5*k+4) _) (Sz.mono K (by omega):Sz (5*k+4) _) (by omega)).mono ?_⟩;rintro r gu L y;have ya:=y;obtain ⟨z,A,B,C,D,E,rfl,M,N⟩:=y;exact ⟨_,_,_,_,_,_,rfl,fun fg F=>⟨_,_,_,_,_,_,rfl,(M.le (F)),(N.le (F))⟩⟩
theorem dm {bI l_1 cJ:Rat}{k:Nat}(bd:Sz k bI)(bg:Sz k l_1)(aX:Sz k cJ):Sz (10*k+9) ((bI)*(((-(cJ))*(((bI)*(bI))+((l_1)*(l_1)))⁻¹))):=by
 have a:=Sz.mono (m:=1*k+0) ((cM (Sz.mono bd (by omega):Sz (1*k+0) _) (Sz.mono bg (by omega):Sz (1*k+0) _) (Sz.mono aX (by omega):Sz (1*k+0) _))) (by omega);have b:=Sz.mono (m:=1*k+0) ((cN (Sz.mono bd (by omega):Sz (1*k+0) _) (Sz.mono bg (by omega):Sz (1*k+0) _) (Sz.mono aX (by omega):Sz (1*k+0) _))) (by omega);have c:=Sz.mono (m:=1*k+0) (Sz.neg aX) (by omega);have d:=Sz.mono (m:=4*k+3) ((bK (Sz.mono a (by omega):Sz (1*k+0) _) (Sz.mono b (by omega):Sz (1*k+0) _) (Sz.mono a (by omega):Sz (1*k+0) _) (Sz.mono b (by omega):Sz (1*k+0) _))) (by omega);have e:=Sz.mono (m:=5*k+4) (Sz.mul c (fE d)) (by omega);have f:=Sz.mono (m:=10*k+9) ((eE (Sz.mono a (by omega):Sz (5*k+4) _) (Sz.mono b (by omega):Sz (5*k+4) _) (Sz.mono e (by omega):Sz (5*k+4) _))) (by omega);exact Sz.mono f (by omega)
theorem dp {bI l_1 cJ:Rat}{k:Nat}(bd:Sz k bI)(bg:Sz k l_1)(aX:Sz k cJ):Sz (10*k+9) ((l_1)*(((-(cJ))*(((bI)*(bI))+((l_1)*(l_1)))⁻¹))):=by
 have a:=Sz.mono (m:=1*k+0) ((cM (Sz.mono bd (by omega):Sz (1*k+0) _) (Sz.mono bg (by omega):Sz (1*k+0) _) (Sz.mono aX (by omega):Sz (1*k+0) _))) (by omega);have b:=Sz.mono (m:=1*k+0) ((cN (Sz.mono bd (by omega):Sz (1*k+0) _) (Sz.mono bg (by omega):Sz (1*k+0) _) (Sz.mono aX (by omega):Sz (1*k+0) _))) (by omega);have c:=Sz.mono (m:=1*k+0) (Sz.neg aX) (by omega);have d:=Sz.mono (m:=4*k+3) ((bK (Sz.mono a (by omega):Sz (1*k+0) _) (Sz.mono b (by omega):Sz (1*k+0) _) (Sz.mono a (by omega):Sz (1*k+0) _) (Sz.mono b (by omega):Sz (1*k+0) _))) (by omega);have e:=Sz.mono (m:=5*k+4) (Sz.mul c (fE d)) (by omega);have f:=Sz.mono (m:=10*k+9) ((eF (Sz.mono a (by omega):Sz (5*k+4) _) (Sz.mono b (by omega):Sz (5*k+4) _) (Sz.mono e (by omega):Sz (5*k+4) _))) (by omega);exact Sz.mono f (by omega)
theorem Cl {V:View}{l:Value}{bI l_1 cJ:Rat}{t:Value}{FG:Rat}(hl:B0 V l bI l_1 cJ)(ht:RR V t FG){k:Nat}(bd:Sz k bI)(bg:Sz k l_1)(aX:Sz k cJ)(wE:Sz k FG)(hk:20*k+19<274877906944) :
  ae prog 172 #[l,t] V fun r V'=>jY V' r ((((bI)*(((-(cJ))*(((bI)*(bI))+((l_1)*(l_1)))⁻¹))))+(((l_1)*(FG)))) ((((l_1)*(((-(cJ))*(((bI)*(bI))+((l_1)*(l_1)))⁻¹))))+((((-(bI)))*(FG)))):=by
 have a:=hl;obtain ⟨E,b,e,c,f,d,h,g,q,rfl,M,N,O⟩:=hl;have i:=ht;obtain ⟨t0,t1,t2,rfl⟩:=ht.shape;refine BI E b e c f d h g q t0 t1 t2 V _ fun P b=>(nS (a.le (b)) (Sz.mono bd (by omega):Sz (1*k+0) _) (Sz.mono bg (by omega):Sz (1*k+0) _) (Sz.mono aX (by omega):Sz (1*k+0) _) (by omega)).mono ?_;rintro r V2 e s;have j:=s;obtain ⟨Q,R,S,T,U,W,rfl,X,Y⟩:=s;have F:=Sz.mono (m:=10*k+9) ((dm (Sz.mono bd (by omega):Sz (1*k+0) _) (Sz.mono bg (by omega):Sz (1*k+0) _) (Sz.mono aX (by omega):Sz (1*k+0) _))) (by omega);have G:=Sz.mono (m:=10*k+9) ((dp (Sz.mono bd (by omega):Sz (1*k+0) _) (Sz.mono bg (by omega):Sz (1*k+0) _) (Sz.mono aX (by omega):Sz (1*k+0) _))) (by omega);refine ⟨_,_,_,_,_,_,rfl,fun Z c=>(kQ (a.le (b.trans (e.trans (c)))) (Sz.mono bd (by omega):Sz (1*k+0) _) (Sz.mono bg (by omega):Sz (1*k+0) _) (Sz.mono aX (by omega):Sz (1*k+0) _) (by omega)).mono ?_⟩;rintro r V4 f u;have n:=u;obtain ⟨WO,WQ,WR,WS,WT,WU,rfl,UE,UF⟩:=u;have o:=Sz.mono (m:=1*k+0) ((dO (Sz.mono bd (by omega):Sz (1*k+0) _) (Sz.mono bg (by omega):Sz (1*k+0) _) (Sz.mono aX (by omega):Sz (1*k+0) _))) (by omega);have p:=Sz.mono (m:=1*k+0) ((dP (Sz.mono bd (by omega):Sz (1*k+0) _) (Sz.mono bg (by omega):Sz (1*k+0) _) (Sz.mono aX (by omega):Sz (1*k+0) _))) (by omega);refine ⟨_,_,_,_,_,_,rfl,fun V5 d=>(lX (n.le (d)) (i.le (b.trans (e.trans (c.trans (f.trans (d)))))) (Sz.mono o (by omega):Sz (1*k+0) _) (Sz.mono p (by omega):Sz (1*k+0) _) (Sz.mono wE (by omega):Sz (1*k+0) _) (by omega)).mono ?_⟩;rintro r V6 h v;have H:=v;obtain ⟨WV,WW,WX,WY,WZ,W0,rfl,Q2,Q3⟩:=v;have I:=Sz.mono (m:=2*k+1) ((eE (Sz.mono o (by omega):Sz (1*k+0) _) (Sz.mono p (by omega):Sz (1*k+0) _) (Sz.mono wE (by omega):Sz (1*k+0) _))) (by omega);have J:=Sz.mono (m:=2*k+1) ((eF (Sz.mono o (by omega):Sz (1*k+0) _) (Sz.mono p (by omega):Sz (1*k+0) _) (Sz.mono wE (by omega):Sz (1*k+0) _))) (by omega);refine ⟨_,_,_,_,_,_,rfl,fun V7 g=>(AG (j.le (c.trans (f.trans (d.trans (h.trans (g)))))) (H.le (g)) (Sz.mono F (by omega):Sz (10*k+9) _) (Sz.mono G (by omega):Sz (10*k+9) _) (Sz.mono I (by omega):Sz (10*k+9) _) (Sz.mono J (by omega):Sz (10*k+9) _) (by omega)).mono ?_⟩;rintro r V8 q w;have Gp:=w;obtain ⟨x,y,z,A,B,C,rfl,K,L⟩:=w;exact ⟨_,_,_,_,_,_,rfl,fun V9 D=>⟨_,_,_,_,_,_,rfl,(K.le (D)),(L.le (D))⟩⟩
theorem yW {bI l_1 cJ FG:Rat}{k:Nat}(bd:Sz k bI)(bg:Sz k l_1)(aX:Sz k cJ)(wE:Sz k FG):Sz (20*k+19) ((((bI)*(((-(cJ))*(((bI)*(bI))+((l_1)*(l_1)))⁻¹))))+(((l_1)*(FG)))):=by
 have c:=Sz.mono (m:=10*k+9) ((dm (Sz.mono bd (by omega):Sz (1*k+0) _) (Sz.mono bg (by omega):Sz (1*k+0) _) (Sz.mono aX (by omega):Sz (1*k+0) _))) (by omega);have d:=Sz.mono (m:=10*k+9) ((dp (Sz.mono bd (by omega):Sz (1*k+0) _) (Sz.mono bg (by omega):Sz (1*k+0) _) (Sz.mono aX (by omega):Sz (1*k+0) _))) (by omega);have a:=Sz.mono (m:=1*k+0) ((dO (Sz.mono bd (by omega):Sz (1*k+0) _) (Sz.mono bg (by omega):Sz (1*k+0) _) (Sz.mono aX (by omega):Sz (1*k+0) _))) (by omega);have b:=Sz.mono (m:=1*k+0) ((dP (Sz.mono bd (by omega):Sz (1*k+0) _) (Sz.mono bg (by omega):Sz (1*k+0) _) (Sz.mono aX (by omega):Sz (1*k+0) _))) (by omega);have e:=Sz.mono (m:=2*k+1) ((eE (Sz.mono a (by omega):Sz (1*k+0) _) (Sz.mono b (by omega):Sz (1*k+0) _) (Sz.mono wE (by omega):Sz (1*k+0) _))) (by omega);have f:=Sz.mono (m:=2*k+1) ((eF (Sz.mono a (by omega):Sz (1*k+0) _) (Sz.mono b (by omega):Sz (1*k+0) _) (Sz.mono wE (by omega):Sz (1*k+0) _))) (by omega);have g:=Sz.mono (m:=20*k+19) ((xn (Sz.mono c (by omega):Sz (10*k+9) _) (Sz.mono d (by omega):Sz (10*k+9) _) (Sz.mono e (by omega):Sz (10*k+9) _) (Sz.mono f (by omega):Sz (10*k+9) _))) (by omega);exact Sz.mono g (by omega)
theorem yX {bI l_1 cJ FG:Rat}{k:Nat}(bd:Sz k bI)(bg:Sz k l_1)(aX:Sz k cJ)(wE:Sz k FG):Sz (20*k+19) ((((l_1)*(((-(cJ))*(((bI)*(bI))+((l_1)*(l_1)))⁻¹))))+((((-(bI)))*(FG)))):=by
 have c:=Sz.mono (m:=10*k+9) ((dm (Sz.mono bd (by omega):Sz (1*k+0) _) (Sz.mono bg (by omega):Sz (1*k+0) _) (Sz.mono aX (by omega):Sz (1*k+0) _))) (by omega);have d:=Sz.mono (m:=10*k+9) ((dp (Sz.mono bd (by omega):Sz (1*k+0) _) (Sz.mono bg (by omega):Sz (1*k+0) _) (Sz.mono aX (by omega):Sz (1*k+0) _))) (by omega);have a:=Sz.mono (m:=1*k+0) ((dO (Sz.mono bd (by omega):Sz (1*k+0) _) (Sz.mono bg (by omega):Sz (1*k+0) _) (Sz.mono aX (by omega):Sz (1*k+0) _))) (by omega);have b:=Sz.mono (m:=1*k+0) ((dP (Sz.mono bd (by omega):Sz (1*k+0) _) (Sz.mono bg (by omega):Sz (1*k+0) _) (Sz.mono aX (by omega):Sz (1*k+0) _))) (by omega);have e:=Sz.mono (m:=2*k+1) ((eE (Sz.mono a (by omega):Sz (1*k+0) _) (Sz.mono b (by omega):Sz (1*k+0) _) (Sz.mono wE (by omega):Sz (1*k+0) _))) (by omega);have f:=Sz.mono (m:=2*k+1) ((eF (Sz.mono a (by omega):Sz (1*k+0) _) (Sz.mono b (by omega):Sz (1*k+0) _) (Sz.mono wE (by omega):Sz (1*k+0) _))) (by omega);have g:=Sz.mono (m:=20*k+19) ((xo (Sz.mono c (by omega):Sz (10*k+9) _) (Sz.mono d (by omega):Sz (10*k+9) _) (Sz.mono e (by omega):Sz (10*k+9) _) (Sz.mono f (by omega):Sz (10*k+9) _))) (by omega);exact Sz.mono g (by omega)
theorem uU {V:View}{l:Value}{bI l_1 cJ:Rat}{p:Value}{eo eu:Rat}(hl:B0 V l bI l_1 cJ)(hp:jY V p eo eu){k:Nat}(bd:Sz k bI)(bg:Sz k l_1)(aX:Sz k cJ)(dj:Sz k eo)(c_:Sz k eu)(hk:8*k+7<274877906944) :
  ae prog 107 #[l,p] V fun r V'=>RR V' r ((((l_1)*(eo))+(((-(bI)))*(eu)))*(((l_1)*(l_1))+(((-(bI)))*((-(bI)))))⁻¹):=by
 have i:=hl;obtain ⟨x,f,j,b,g,e,n,h,s,rfl,J,K,L⟩:=hl;have o:=hp;obtain ⟨y,z,A,B,C,D,rfl,M,N⟩:=hp;refine tP x f j b g e n h s y z A B C D V _ fun O f=>(kQ (i.le (f)) (Sz.mono bd (by omega):Sz (1*k+0) _) (Sz.mono bg (by omega):Sz (1*k+0) _) (Sz.mono aX (by omega):Sz (1*k+0) _) (by omega)).mono ?_;rintro r V2 j t;have a:=t;obtain ⟨P,Q,R,S,T,U,rfl,W,X⟩:=t;have c:=Sz.mono (m:=1*k+0) ((dO (Sz.mono bd (by omega):Sz (1*k+0) _) (Sz.mono bg (by omega):Sz (1*k+0) _) (Sz.mono aX (by omega):Sz (1*k+0) _))) (by omega);have d:=Sz.mono (m:=1*k+0) ((dP (Sz.mono bd (by omega):Sz (1*k+0) _) (Sz.mono bg (by omega):Sz (1*k+0) _) (Sz.mono aX (by omega):Sz (1*k+0) _))) (by omega);refine ⟨_,_,_,_,_,_,rfl,fun Y b=>(dU (a.le (b)) (o.le (f.trans (j.trans (b)))) (Sz.mono c (by omega):Sz (1*k+0) _) (Sz.mono d (by omega):Sz (1*k+0) _) (Sz.mono dj (by omega):Sz (1*k+0) _) (Sz.mono c_ (by omega):Sz (1*k+0) _) (by omega)).mono ?_⟩;rintro r Z g u;have q:=u;obtain ⟨Ix,Iy,Iz,rfl⟩:=u.shape;have E:=Sz.mono (m:=4*k+3) ((bK (Sz.mono c (by omega):Sz (1*k+0) _) (Sz.mono d (by omega):Sz (1*k+0) _) (Sz.mono dj (by omega):Sz (1*k+0) _) (Sz.mono c_ (by omega):Sz (1*k+0) _))) (by omega);refine ⟨_,_,_,rfl,fun V5 e=>(dU (a.le (b.trans (g.trans (e)))) (a.le (b.trans (g.trans (e)))) (Sz.mono c (by omega):Sz (1*k+0) _) (Sz.mono d (by omega):Sz (1*k+0) _) (Sz.mono c (by omega):Sz (1*k+0) _) (Sz.mono d (by omega):Sz (1*k+0) _) (by omega)).mono ?_⟩;rintro r V6 n v;have F:=v;obtain ⟨M9,M_,Na,rfl⟩:=v.shape;have G:=Sz.mono (m:=4*k+3) ((bK (Sz.mono c (by omega):Sz (1*k+0) _) (Sz.mono d (by omega):Sz (1*k+0) _) (Sz.mono c (by omega):Sz (1*k+0) _) (Sz.mono d (by omega):Sz (1*k+0) _))) (by omega);refine ⟨_,_,_,rfl,fun V7 h=>(um (q.le (e.trans (n.trans (h)))) (F.le (h)) E G (by omega)).mono ?_⟩;rintro r V8 s w;have H:=w;obtain ⟨TR,TS,TT,rfl⟩:=w.shape;exact ⟨_,_,_,rfl,fun V9 I=>(H.le (I))⟩
theorem sk {bI l_1 cJ eo eu:Rat}{k:Nat}(bd:Sz k bI)(bg:Sz k l_1)(aX:Sz k cJ)(dj:Sz k eo)(c_:Sz k eu):Sz (8*k+7) ((((l_1)*(eo))+(((-(bI)))*(eu)))*(((l_1)*(l_1))+(((-(bI)))*((-(bI)))))⁻¹):=by
 have a:=Sz.mono (m:=1*k+0) ((dO (Sz.mono bd (by omega):Sz (1*k+0) _) (Sz.mono bg (by omega):Sz (1*k+0) _) (Sz.mono aX (by omega):Sz (1*k+0) _))) (by omega);have b:=Sz.mono (m:=1*k+0) ((dP (Sz.mono bd (by omega):Sz (1*k+0) _) (Sz.mono bg (by omega):Sz (1*k+0) _) (Sz.mono aX (by omega):Sz (1*k+0) _))) (by omega);have c:=Sz.mono (m:=4*k+3) ((bK (Sz.mono a (by omega):Sz (1*k+0) _) (Sz.mono b (by omega):Sz (1*k+0) _) (Sz.mono dj (by omega):Sz (1*k+0) _) (Sz.mono c_ (by omega):Sz (1*k+0) _))) (by omega);have d:=Sz.mono (m:=4*k+3) ((bK (Sz.mono a (by omega):Sz (1*k+0) _) (Sz.mono b (by omega):Sz (1*k+0) _) (Sz.mono a (by omega):Sz (1*k+0) _) (Sz.mono b (by omega):Sz (1*k+0) _))) (by omega);have e:=Sz.mono (m:=8*k+7) (Sz.mul c (fE d)) (by omega);exact Sz.mono e (by omega)
theorem iR {V:View}{v w:Value}{x y:Rat}(hx:RQ V v x)(hy:RQ V w y)(hy0:y.num≠0){k m:Nat}(hk:Sz k x)(hm:Sz m y)(hkm:k+m<274877906944) :
  ae prog 101 #[v,w] V fun r V'=>RQ V' r (x*y⁻¹):=by
 obtain ⟨p,n,c,K,L,M,rfl,b,d⟩:=hx;obtain ⟨q,i,e,N,O,P,rfl,f,g⟩:=hy;have j:=fE hm;have q1:=ag hk.1;have q2:=ag hk.2;have q3:=ag hm.1;have q4:=ag j.1
 have D:(y⁻¹).num=(if decide (y.num<0)=true then -((y.den:Nat):Int) else ((y.den:Nat):Int))/\(y⁻¹).den=y.num.natAbs:=by
  rcases Int.lt_or_gt_of_ne hy0 with h|h
  ·rw [if_pos (decide_eq_true h)];exact inv_neg h
  ·rw [if_neg (fun Q=>by have:=of_decide_eq_true Q;omega)];exact inv_pos h
 have l:x*y⁻¹=mkRat (x.num*(y⁻¹).num) (x.den*(y⁻¹).den):=Rat.mul_def' x y⁻¹;have b1:(x.num*(y⁻¹).num).natAbs<2^(k+m):=by rw [Int.natAbs_mul];exact bN hk.1 j.1
 have b2:x.den*(y⁻¹).den<2^(k+m):=bN hk.2 j.2;refine D6 _ p n c K L M _ q i e N O P V _ fun V1 o=>(cH y _ (g.le o)).mono ?_;rintro r V2 E ⟨p1,n1,c1,rfl,R⟩;refine ⟨_,_,_,rfl,fun V3 s=>(fB _ (R.le s)).mono ?_⟩;rw [←D.1];rintro r V4 F ⟨p4,n4,c4,rfl,S⟩;refine ⟨_,_,_,_,rfl,fun V5 t=>(ke x.num (y⁻¹).num (b.le (o.trans (E.trans (s.trans (F.trans t))))) (S.le t) (by omega)).mono ?_⟩;rintro r V6 T ⟨p6,n6,c6,rfl,U⟩;have G:=o.trans (E.trans (s.trans (F.trans (t.trans T))));refine ⟨_,_,_,_,rfl,fun V7 u=>(cH x _ (d.le (G.trans u))).mono ?_⟩;rintro r V8 H ⟨p8,n8,c8,rfl,W⟩;refine ⟨_,_,_,rfl,fun V9 z=>(cz (W.le z) (f.le (G.trans (u.trans (H.trans z)))) (by omega)).mono ?_⟩;rintro r gu A ⟨Iw,X,Y,rfl,a⟩;rw [af,af,←D.2] at a;refine ⟨_,_,_,rfl,fun fg I=>(kU _ (U.le (u.trans (H.trans (z.trans (A.trans I))))) (a.le I) (Nat.le_trans (ag b1) (by omega)) (Nat.le_trans (ag b2) (by omega)) (Nat.mul_ne_zero x.den_nz (y⁻¹).den_nz)).mono ?_⟩;rw [l];rintro r xF m_ ⟨YV,Z,a0,YW,a1,XH,rfl,B,C⟩;exact ⟨_,_,_,_,_,_,_,rfl,fun En J=>⟨_,_,_,_,_,_,rfl,B.le J,C.le J⟩⟩
theorem Hq {V:View}(z:Int){p:OA}{n c:Nat}(h:RD V p n c (ai z.natAbs)) :
  ae prog 102 #[.agg #[.bool (decide (z<0)),.slice p n c]] V fun r V'=>RQ V' r (z:Rat):=
 F7 _ p n c V _ fun b a=>nZ (z:=z) (d:=1) rfl rfl (h.le a) RD.nil rfl
theorem RQ.ofNat {V:View}{p:OA}{n c x:Nat}(h:RN V p n c x){b:Bool}(hb:b=decide ((x:Int)<0)):RQ V (.agg #[.bool b,.slice p n c,.slice none 0 0]) ((x:Int):Rat):=
 nZ (z:=(x:Int)) (d:=1) rfl rfl h RD.nil hb
theorem RQ.int {V:View}{q:Rat}{b:Bool}{p:OA}{n c:Nat}{p':OA}{n' c':Nat}(h:RQ V (.agg #[.bool b,.slice p n c,.slice p' n' c']) q):RI V (.agg #[.bool b,.slice p n c]) q.num:=by
 obtain ⟨d,f,g,i,j,k,e,a,l⟩:=h;cases e;exact ⟨_,_,_,rfl,a⟩
theorem RQ.den {V:View}{q:Rat}{b:Bool}{p:OA}{n c:Nat}{p':OA}{n' c':Nat}(h:RQ V (.agg #[.bool b,.slice p n c,.slice p' n' c']) q):RD V p' n' c' (tC q.den):=by
 obtain ⟨d,f,g,i,j,k,e,l,a⟩:=h;cases e;exact a
def mK (px py qx qy:Rat):Rat×Rat×Rat:=
 let a:=-(qy-py);let b:=qx-px;let c:=-(a*px+b*py)
 let f:Rat:=(((a.den*b.den*c.den:Nat):Int):Rat)
 (a*f,b*f,c*f)
theorem PX {n k:Nat}(h:n<2^k)(hk:0<k):Sz k (((n:Nat):Int):Rat):=by
 refine ⟨?_,?_⟩
 ·show ((n:Nat):Int).natAbs<_;simpa using h
 ·show 1<2^k;exact Nat.one_lt_two_pow (by omega)
theorem lK {V:View}{u w:Value}{px py qx qy:Rat}(hp:RP V u px py)(hq:RP V w qx qy){k:Nat}(s1:Sz k px)(s2:Sz k py)(s3:Sz k qx)(s4:Sz k qy)(hk1:1<=k)(hk:64*k+64<274877906944) :
  ae prog 37 #[u,w] V fun r V'=>((mK px py qx qy).1.num=0/\(mK px py qx qy).2.1.num=0->∃l,r=.tuple #[l,.bool false]/\RL V' l 0 0 0) /\
   (¬((mK px py qx qy).1.num=0/\(mK px py qx qy).2.1.num=0)->∃l,r=.tuple #[l,.bool true] /\
    RL V' l ((mK px py qx qy).1.num / (bM (mK px py qx qy).1.num (mK px py qx qy).2.1.num (mK px py qx qy).2.2.num:Int)) ((mK px py qx qy).2.1.num / (bM (mK px py qx qy).1.num (mK px py qx qy).2.1.num (mK px py qx qy).2.2.num:Int)) ((mK px py qx qy).2.2.num / (bM (mK px py qx qy).1.num (mK px py qx qy).2.1.num (mK px py qx qy).2.2.num:Int))):=by
 have J:=hp;have K:=hq;obtain ⟨p1,n1,c1,p2,n2,c2,p3,n3,c3,p4,n4,c4,rfl,c,d⟩:=hp;obtain ⟨q1,m1,e1,q2,m2,e2,q3,m3,e3,q4,m4,e4,rfl,-,-⟩:=hq;refine rY _ p1 n1 c1 p2 n2 c2 _ p3 n3 c3 p4 n4 c4 _ q1 m1 e1 q2 m2 e2 _ q3 m3 e3 q4 m4 e4 V _ fun V1 L=>(Cp (K.le L) (J.le L) s3 s4 s1 s2 hk1 (by omega)).mono ?_;rintro r V2 l2 ⟨a1,a2,a3,a4,a5,a6,a7,a8,a9,Ov,Ow,b7,rfl,f,hd⟩;have g:Sz (k+k+1) (qx-px):=s3.sub s1;have td:Sz (k+k+1) (qy-py):=s4.sub s2;have xw:=L.trans l2;refine ⟨_,_,_,_,_,_,_,_,_,_,_,_,_,_,rfl,fun V3 q=>(mV (qy-py) (by obtain ⟨_,_,_,_,_,_,e,N,h2⟩:=hd.le q;cases e;exact N) (RQ.den (hd.le q))).mono ?_⟩;rintro r V4 O n;obtain ⟨b1,b2,b3,b4,b5,b6,rfl⟩:=n.shape;have i:=td.neg;have Vv:mK px py qx qy=(-(qy-py)*(((((-(qy-py)).den*(qx-px).den*(-(-(qy-py)*px+(qx-px)*py)).den:Nat):Int):Rat)),(qx-px)*(((((-(qy-py)).den*(qx-px).den*(-(-(qy-py)*px+(qx-px)*py)).den:Nat):Int):Rat)),(-(-(qy-py)*px+(qx-px)*py))*(((((-(qy-py)).den*(qx-px).den*(-(-(qy-py)*px+(qx-px)*py)).den:Nat):Int):Rat))):=rfl;rw [Vv];generalize -(qy-py)=A at *;generalize qx-px=B at *
 replace f:=f.le (q.trans O)
 replace c:=c.le (xw.trans (q.trans O))
 replace d:=d.le (xw.trans (q.trans O))
 refine ⟨_,_,_,_,_,_,_,rfl,fun V5 s=>(aV (n.le s) (c.le s) i s1 (by omega)).mono ?_⟩;rintro r V6 P g6;obtain ⟨d1,d2,d3,d4,d5,d6,rfl⟩:=g6.shape;refine ⟨_,_,_,_,_,_,_,rfl,fun V7 y=>(aV (f.le (s.trans (P.trans y))) (d.le (s.trans (P.trans y))) g s2 (by omega)).mono ?_⟩;rintro r V8 l8 g8;obtain ⟨f1,f2,f3,f4,f5,f6,rfl⟩:=g8.shape;refine ⟨_,_,_,_,_,_,_,rfl,fun V9 Q=>(cC (g6.le (y.trans (l8.trans Q))) (g8.le Q) (i.mul s1) (g.mul s2) (by omega)).mono ?_⟩;rintro r gu R j;have z:=((i.mul s1).add (g.mul s2)).neg;obtain ⟨i1,i2,i3,i4,i5,i6,rfl⟩:=j.shape;refine ⟨_,_,_,_,_,_,_,rfl,fun fg S=>(mV (A*px+B*py) (by obtain ⟨_,_,_,_,_,_,e,N,h2⟩:=j.le S;cases e;exact N) (RQ.den (j.le S))).mono ?_⟩;rintro r ib cu T;generalize -(A*px+B*py)=C at *;obtain ⟨j1,j2,j3,j4,j5,j6,rfl⟩:=T.shape;have tG:=s.trans (P.trans (y.trans (l8.trans (Q.trans (R.trans (S.trans cu))))))
 replace n:=n.le tG
 replace f:=f.le tG
 refine ⟨_,_,_,_,_,_,_,rfl,fun lG D=>(cH A _ (RQ.den (n.le D))).mono ?_⟩;rintro r j8 U ⟨k1,k2,k3,rfl,W⟩;refine ⟨_,_,_,rfl,fun kK E=>(cH B _ (RQ.den (f.le (D.trans (U.trans E))))).mono ?_⟩;rintro r mS X ⟨k4,k5,k6,rfl,Y⟩;obtain ⟨-,da,-⟩:=cA i;obtain ⟨-,db,-⟩:=cA g;obtain ⟨-,dc,-⟩:=cA z;refine ⟨_,_,_,rfl,fun pk F=>(cz (W.le (E.trans (X.trans F))) (Y.le F) (by omega)).mono ?_⟩;rintro r uC d_ ⟨k7,k8,k9,rfl,t⟩;rw [af,af] at t;refine ⟨_,_,_,rfl,fun uD Z=>(cH C _ (RQ.den (T.le (D.trans (U.trans (E.trans (X.trans (F.trans (d_.trans Z))))))))).mono ?_⟩;rintro r Ei jL ⟨b8,b9,c0,rfl,a0⟩;have c5:=iu (a:=A.den) (b:=B.den);refine ⟨_,_,_,rfl,fun y_ iy=>(cz (t.le (Z.trans (jL.trans iy))) (a0.le iy) (by omega)).mono ?_⟩;rintro r xF m_ ⟨c6,c7,c8,rfl,v⟩;rw [af,af] at v;have o:Sz (k+k+1+(k+k+1)+(k+k+1+k+1+(k+k+1+k+1)+1)) (((A.den*B.den*C.den:Nat):Int):Rat):=PX (bN (bN i.2 g.2) z.2) (by omega);generalize A.den*B.den*C.den=M at *;refine ⟨_,_,_,rfl,fun En jM=>(qZ (v.le jM)).mono ?_⟩;rintro r On Ek ⟨c9,d0,d7,rfl,b0⟩;have hf:=RQ.ofNat b0 rfl;have Pm:=D.trans (U.trans (E.trans (X.trans (F.trans (d_.trans (Z.trans (jL.trans (iy.trans (m_.trans (jM.trans Ek))))))))));refine ⟨_,_,_,_,rfl,fun Nm p=>(aV (n.le (Pm.trans p)) (hf.le p) i o (by omega)).mono ?_⟩;rintro r Oo G XU;obtain ⟨o1,o2,o3,o4,o5,o6,rfl⟩:=XU.shape;refine ⟨_,_,_,_,_,_,_,rfl,fun Qt x=>(aV (f.le (Pm.trans (p.trans (G.trans x)))) (hf.le (p.trans (G.trans x))) g o (by omega)).mono ?_⟩;rintro r Oq El XV;obtain ⟨o7,o8,o9,d8,d9,e0,rfl⟩:=XV.shape;refine ⟨_,_,_,_,_,_,_,rfl,fun Tk H=>(aV (T.le (Pm.trans (p.trans (G.trans (x.trans (El.trans H)))))) (hf.le (p.trans (G.trans (x.trans (El.trans H))))) z o (by omega)).mono ?_⟩;rintro r Lw CX jZ;obtain ⟨t1,t2,t3,t4,t5,t6,rfl⟩:=jZ.shape;refine ⟨_,_,_,_,_,_,_,rfl,fun Xd HI=>(xP (RQ.int (XU.le (x.trans (El.trans (H.trans (CX.trans HI)))))) (RQ.int (XV.le (H.trans (CX.trans HI)))) (RQ.int (jZ.le HI)) (Nat.le_trans (cA (i.mul o)).1 (by omega)) (Nat.le_trans (cA (g.mul o)).1 (by omega)) (Nat.le_trans (cA (z.mul o)).1 (by omega))).mono ?_⟩;rintro r T0 NL ⟨z1,z2⟩;by_cases I:(A*((M:Int):Rat)).num=0/\(B*((M:Int):Rat)).num=0
 ·obtain ⟨l,rfl,y1,y2,y3,y4,y5,y6,y7,y8,y9,rfl,w1,w2,w3⟩:=z1 I;exact ⟨_,_,_,_,_,_,_,_,_,_,_,_,_,rfl,fun Ot m=>⟨fun _=>⟨_,rfl,_,_,_,_,_,_,_,_,_,rfl,w1.le m,w2.le m,w3.le m⟩,fun h=>absurd I h⟩⟩
 ·obtain ⟨l,rfl,y1,y2,y3,y4,y5,y6,y7,y8,y9,rfl,w1,w2,w3⟩:=z2 I;exact ⟨_,_,_,_,_,_,_,_,_,_,_,_,_,rfl,fun Ot m=>⟨fun h=>absurd h I,fun _=>⟨_,rfl,_,_,_,_,_,_,_,_,_,rfl,w1.le m,w2.le m,w3.le m⟩⟩⟩
end Go.Proofs.Tryz
