import Derived.Test.YtapnijmlbakblaaGreatDoorT13
import Derived.Test.YtapnijmlbakblaaGreatDoorT8
import Derived.Test.YtapnijmlbakblaaGreatDoorT12
set_option linter.unusedVariables false
open Go.IntKind (i64 u64 u32)
namespace Go.Proofs.Tryz
open Go.Eng Go.Big
theorem kL {V:View}{p q:OA}{n c m e:Nat}{x y:Nat}(hx:RN V p n c x)(hy:RN V q m e y)(hm:(ai x).length<=274877906944)(hm':(ai y).length<=274877906944) :
  ae prog 134 #[.slice p n c,.slice q m e] V fun r V'=>∃p1 n1 c1,r=.slice p1 n1 c1/\RN V' p1 n1 c1 (Nat.gcd x y):=by
 have L:=hx.len;have zj:=hy.len;refine yi p n c q m e V _ fun M t=>(kO (hx.le t) (by omega)).mono ?_;rintro r V2 B rfl;rw [af];refine ⟨_,_,rfl,fun z V'=>True,⟨fun w=>?_,fun w=>⟨(),by (try dsimp only);and_intros<;>first|exact True.intro|rfl,trivial⟩⟩,?_⟩
 ·have w:n<=2:=by simpa using w
  refine fun V3 N=>(kO (hy.le (t.trans (B.trans N))) (by omega)).mono ?_;rintro r V4 l4 rfl;rw [af];refine ⟨_,_,rfl,fun j=>?_,fun j=>⟨(),by (try dsimp only);and_intros<;>first|exact True.intro|rfl,trivial⟩⟩;have j:m<=2:=by simpa using j
  have C:=qF (x:=x) (by omega);have O:=qF (x:=y) (by omega);rw [if_pos w,if_pos j]
  refine ⟨fun z V'=>∃a b:Nat,z=((a:Int),(b:Int))/\a<18446744073709551616/\b<18446744073709551616/\Nat.gcd a b=Nat.gcd x y,fun z=>z.2.toNat,
   ⟨((x:Int),(y:Int)),by (try dsimp only);and_intros<;>first|exact True.intro|rfl,x,y,rfl,C,O,rfl⟩,?_⟩
  rintro _ V5 l5 ⟨a,b,rfl,s,g,l⟩;dsimp only;refine ⟨by trivial,fun f=>?_,fun f=>?_⟩
  ·have f:0<b:=by simpa using f
   have P:(a:Int).tmod (b:Int)=((a%b:Nat):Int):=by rw [Int.tmod_eq_emod_of_nonneg (by omega)];omega
   have A:a%b<b:=Nat.mod_lt _ f;refine ⟨by omega,((b:Int),((a%b:Nat):Int)),?_,by (try dsimp only);and_intros<;>first|exact True.intro|rfl|exact P,b,a%b,rfl,g,by omega,?_⟩
   ·(try dsimp only);simp only [Int.toNat_natCast];exact A
   ·rw [←l,Nat.gcd_comm a b,Nat.gcd_rec b a,Nat.gcd_comm]
  ·have f:b=0:=by simp at f;omega
   subst f;rw [Nat.gcd_zero_right] at l;refine fun V6 l6=>(cU a s).mono ?_;rintro r V7 l7 ⟨p1,n1,c1,rfl,D⟩;rw [l] at D;exact ⟨_,_,_,rfl,fun V8 Q=>⟨_,_,_,rfl,D.le Q⟩⟩
 rintro _ V9 I _
 replace hx:=hx.le (t.trans (B.trans I))
 replace hy:=hy.le (t.trans (B.trans I))
 refine ⟨by trivial,fun z k V'=>∃a b:Nat,RN V' z.1 z.2.1 z.2.2.1 a/\RN V' z.2.2.2.1 z.2.2.2.2.1 z.2.2.2.2.2 b/\b=k/\(ai a).length<=274877906944/\(ai b).length<=274877906944/\Nat.gcd a b=Nat.gcd x y,
  ⟨(p,n,c,q,m,e),y,by (try dsimp only);and_intros<;>first|exact True.intro|rfl,x,y,hx,hy,rfl,hm,hm',rfl⟩,?_⟩
 rintro ⟨ap,an,ac,R,E,S⟩ _ hZ T ⟨a,b,s,g,rfl,F,u,l⟩;dsimp only at s g ⊢;have o:=s.len;have G:=g.len;refine ⟨by trivial,fun f=>?_,fun f=>?_⟩
 ·have f:0<E:=by simpa using f
  have i:0<b:=by
   rcases Nat.eq_zero_or_pos b with h|h
   ·subst h;simp at G;omega
   ·exact h
  refine fun gN H=>(dN (s.le H) (g.le H) F u i).mono ?_;rintro r jg U ⟨p1,n1,c1,W,X,Y,rfl,D,Z⟩;have A:a%b<b:=Nat.mod_lt _ i;have a0:=aD (Nat.le_of_lt A);refine ⟨_,_,_,_,_,_,rfl,(R,E,S,W,X,Y),a%b,A,by (try dsimp only);and_intros<;>first|exact True.intro|rfl,b,a%b,g.le (H.trans U),Z,rfl,u,by omega,?_⟩;rw [←l,Nat.gcd_comm a b,Nat.gcd_rec b a,Nat.gcd_comm]
 ·have f:E=0:=by simp at f;omega
  have i:b=0:=bu.1 (List.length_eq_zero_iff.1 (by omega));subst i;rw [Nat.gcd_zero_right] at l;rw [←l];refine ⟨aC (ai a),s.sl,by simp [o],by omega,by omega,by simp,by simp [o],?_,?_⟩
  ·intro v K;simp only [aC,List.mem_map] at K;obtain ⟨d,-,rfl⟩:=K;rfl
  ·intro bk J sp c' j h2 M t b g;refine ⟨_,_,_,rfl,?_⟩;simp only [Nat.zero_add,Nat.zero_mul,List.take_zero,List.nil_append] at g j ⊢;exact copied (aB a) o j g
theorem eT {V:View}(b:Bool){p:OA}{n c x:Nat}(h:RN V p n c x) :
  ae prog 83 #[.bool b,.slice p n c] V fun r V'=>RI V' r (if b then -(x:Int) else x):=by
 have f:=fB h.len;refine Dy b p n c V _ ⟨fun a e d=>?_,fun a e d=>?_⟩
 ·rw [if_pos a];refine RI.mk ?_ ?_
  ·rw [Bool.eq_iff_iff,decide_eq_true_eq,decide_eq_true_eq];omega
  ·rw [Int.natAbs_neg,Int.natAbs_natCast];exact h.le d
 ·rw [a,if_neg (by decide)];refine RI.mk ?_ ?_
  ·symm;rw [decide_eq_false_iff_not];omega
  ·rw [Int.natAbs_natCast];exact h.le d
theorem iP {V:View}{b:Bool}{p:OA}{n c x:Nat}{z:Int}(h:RN V p n c x)(hz:(if b then -(x:Int) else x)=z) :
  ae prog 83 #[.bool b,.slice p n c] V fun r V'=>∃(Ib:Bool)(JM:OA)(Jr Il:Nat),r=.agg #[.bool Ib,.slice JM Jr Il]/\∀V3:View,V'.Le V3->RI V3 (.agg #[.bool Ib,.slice JM Jr Il]) z:=by
 refine (eT b h).mono ?_;rintro r V2 d ⟨e,f,i,rfl,g⟩;rw [hz] at g ⊢;exact ⟨_,_,_,_,rfl,fun V3 a=>⟨_,_,_,rfl,g.le a⟩⟩
theorem yR {V:View}(n:Int)(h0:-9223372036854775808<=n)(h1:n<=9223372036854775807) :
  ae prog 77 #[.int .i64 n] V fun r V'=>RI V' r n:=by
 refine Fq n V _ ⟨fun a d f=>?_,fun a d f=>?_⟩
 ·have a:n<0:=by simpa using a
  have e:u64.wrap (0-u64.wrap n)=((-n).toNat:Int):=by rw [rE,rE];omega
  rw [e];refine (cU _ (by omega)).mono ?_;rintro r V2 g ⟨h,i,j,rfl,b⟩;exact ⟨_,_,_,rfl,fun k c=>iP (b.le c) (by simp;omega)⟩
 ·have a:0<=n:=by simpa using a
  have e:u64.wrap n=(n.toNat:Int):=by rw [aN (by omega)];omega
  rw [e];refine (cU _ (by omega)).mono ?_;rintro r V2 g ⟨h,i,j,rfl,b⟩;exact ⟨_,_,_,rfl,fun k c=>iP (b.le c) (by simp;omega)⟩
theorem Ec {V:View}(z:Int){p:OA}{n c:Nat}(h:RN V p n c z.natAbs) :
  ae prog 173 #[.agg #[.bool (decide (z<0)),.slice p n c]] V fun r V'=>r=.int .i64 z.sign:=by
 have f:=fB h.len;refine DC _ p n c V _ ⟨fun b d e=>?_,fun b=>⟨fun a d e=>?_,fun a d e=>?_⟩⟩
 ·have:z=0:=by simp at b;omega
  rw [this];rfl
 ·rw [decide_eq_true_eq] at a;rw [Int.sign_eq_neg_one_of_neg a]
 ·rw [decide_eq_false_iff_not] at a;have:0<z:=by simp at b;omega
  rw [Int.sign_eq_one_of_pos this]
theorem BP {V:View}(z:Int){p:OA}{n c:Nat}(h:RN V p n c z.natAbs) :
  ae prog 38 #[.agg #[.bool (decide (z<0)),.slice p n c]] V fun r V'=>RI V' r (-z):=by
 refine A6 _ p n c V _ fun d a=>iP (h.le a) ?_;by_cases b:z<0<;>simp [b]<;>omega
theorem j_ {V:View}(z w:Int){p q:OA}{n c m e:Nat}(ha:RN V p n c z.natAbs)(hb:RN V q m e w.natAbs)(hm:(ai z.natAbs).length+(ai w.natAbs).length<=1099511627776) :
  ae prog 141 #[.agg #[.bool (decide (z<0)),.slice p n c],.agg #[.bool (decide (w<0)),.slice q m e]] V fun r V'=>RI V' r (z*w):=by
 refine Fs _ p n c _ q m e V _ fun h a=>(cg (ha.le a) (hb.le a) hm).mono ?_;rintro r V2 i ⟨j,k,l,rfl,b⟩;rw [af,af] at b;refine ⟨_,_,_,rfl,fun o d=>iP (b.le d) ?_⟩;have f:z=aW (decide (z<0)) (ai z.natAbs):=(aH z).symm;have g:w=aW (decide (w<0)) (ai w.natAbs):=(aH w).symm
 conv=>rhs;rw [f,g]
 unfold aW;rw [af,af];cases decide (z<0)<;>cases decide (w<0)<;>simp [Int.neg_mul,Int.mul_neg]
theorem yQ {V:View}(z w:Int){p q:OA}{n c m e:Nat}(ha:RN V p n c z.natAbs)(hb:RN V q m e w.natAbs)(hm:(ai z.natAbs).length<=1099511627776)(hn:(ai w.natAbs).length<=1099511627776) :
  ae prog 140 #[.agg #[.bool (decide (z<0)),.slice p n c],.agg #[.bool (decide (w<0)),.slice q m e]] V fun r V'=>RI V' r (z+w):=by
 refine Fm _ p n c _ q m e V _ ⟨fun i t a=>(GW (ha.le a) (hb.le a) hm hn).mono ?_,fun i t a=>(iu (ha.le a) (hb.le a) hm hn).mono ?_⟩
 ·rintro r V2 g ⟨k,l,o,rfl,b⟩;rw [af,af] at b;refine ⟨_,_,_,rfl,fun s d=>iP (b.le d) ?_⟩;by_cases h:z<0<;>by_cases hw:w<0<;>simp [h,hw] at i⊢<;> omega
 ·rintro r V2 g rfl;refine ⟨_,rfl,fun f s d=>?_,fun f s d=>?_⟩
  ·have f:z.natAbs<w.natAbs:=by simpa [fy] using f
   refine (ow (hb.le (a.trans (g.trans d))) (ha.le (a.trans (g.trans d))) hn (aD (Nat.le_of_lt f)) (by rw [af,af];omega)).mono ?_;rintro r u v ⟨k,l,o,rfl,b⟩;rw [af,af] at b;refine ⟨_,_,_,rfl,fun x j=>iP (b.le j) ?_⟩;by_cases h:z<0<;>by_cases hw:w<0<;>simp [h,hw] at i⊢<;> omega
  ·have f:w.natAbs<=z.natAbs:=by simpa [←Int.not_lt,fy] using f
   refine (ow (ha.le (a.trans (g.trans d))) (hb.le (a.trans (g.trans d))) hm (aD f) (by rw [af,af];omega)).mono ?_;rintro r u v ⟨k,l,o,rfl,b⟩;rw [af,af] at b;refine ⟨_,_,_,rfl,fun x j=>iP (b.le j) ?_⟩;by_cases h:z<0<;>by_cases hw:w<0<;>simp [h,hw] at i⊢<;> omega
end Go.Proofs.Tryz
namespace Go.Eng
open Go.Big
def sX (d:Nat):List Nat:=if d=1 then [] else ai d
def RQ (V:View)(v:Value)(q:Rat):Prop:=∃p n c p' n' c',v=.agg #[.bool (decide (q.num<0)),.slice p n c,.slice p' n' c'] /\
 RD V p n c (ai q.num.natAbs)/\RD V p' n' c' (sX q.den)
theorem RQ.le {V V':View}{v:Value}{q:Rat}(h:RQ V v q)(l:V.Le V'):RQ V' v q:=by
 obtain ⟨p,n,c,a,b,d,e,f,g⟩:=h;exact ⟨p,n,c,a,b,d,e,f.le l,g.le l⟩
theorem B3 {q:Rat}:sX q.den=[]↔q.den=1:=by
 unfold sX;split
 ·rename_i h;simp [h]
 ·rename_i h;rw [bu];have:=q.den_nz;omega
end Go.Eng
namespace Go.Proofs.Tryz
open Go.Eng Go.Big
theorem me {V:View}{q:Rat}{p:OA}{n c:Nat}(h:RD V p n c (sX q.den)):n=0↔q.den=1:=by
 rw [←B3,h.len,List.length_eq_zero_iff]
theorem cw {V:View}(q:Rat){p p':OA}{n c n' c':Nat}(b:Bool)(h2:RD V p' n' c' (sX q.den)) :
  ae prog 82 #[.agg #[.bool b,.slice p n c,.slice p' n' c']] V fun r V'=>∃p1 n1 c1,r=.slice p1 n1 c1/\RN V' p1 n1 c1 q.den:=by
 have d:=me h2;refine Fp b p n c p' n' c' V _ ⟨fun a h f=>mP.mono ?_,fun a h f=>⟨_,_,_,rfl,?_⟩⟩
 ·rintro r V2 j ⟨p1,n1,c1,rfl,g⟩;have:q.den=1:=d.1 (by simp at a;omega);rw [this];exact ⟨_,_,_,rfl,fun k i=>⟨_,_,_,rfl,g.le i⟩⟩
 ·have:q.den≠1:=fun e=>by have:=d.2 e;simp at a;omega
  unfold sX at h2;rw [if_neg this] at h2;exact h2.le f
theorem nR {V:View}{q:Rat}{z:Int}{d:Nat}{p p':OA}{n c n' c':Nat}(hn:q.num=z)(hd:q.den=d)(h1:RD V p n c (ai z.natAbs))(h2:RD V p' n' c' (sX d)){b:Bool}(hb:b=decide (z<0)) :
  RQ V (.agg #[.bool b,.slice p n c,.slice p' n' c']) q:=by
 subst hn hd hb;exact ⟨_,_,_,_,_,_,rfl,h1,h2⟩
theorem kM {V:View}(z:Int){d:Nat}{p q:OA}{n c m e:Nat}(hx:RN V p n c z.natAbs)(hy:RN V q m e d)(hm:(ai z.natAbs).length<=274877906944)(hn:(ai d).length<=274877906944)(hd:d≠0) :
  ae prog 104 #[.agg #[.bool (decide (z<0)),.slice p n c],.slice q m e] V fun r V'=>RQ V' r (mkRat z d):=by
 refine Dv _ p n c q m e V _ fun V1 y=>(kL (hx.le y) (hy.le y) hm hn).mono ?_;rintro r V2 W ⟨p1,n1,c1,rfl,h⟩;have I:=Nat.gcd_dvd_right z.natAbs d;have J:=Nat.gcd_dvd_left z.natAbs d;have K:0<Nat.gcd z.natAbs d:=Nat.gcd_pos_of_pos_right _ (by omega);have i:(ai (Nat.gcd z.natAbs d)).length<=274877906944:=Nat.le_trans (aD (Nat.le_of_dvd (by omega) I)) hn;have L:(mkRat z d).num=z / (Nat.gcd d z.natAbs:Nat):=by rw [Rat.num_mkRat,if_neg hd]
 have a:(mkRat z d).den=d / Nat.gcd d z.natAbs:=by rw [Rat.den_mkRat,if_neg hd]
 rw [Nat.gcd_comm d] at L a;generalize hG:Nat.gcd z.natAbs d=g at *;generalize mkRat z d=w at *;refine ⟨_,_,_,rfl,fun V3 A=>mP.mono ?_⟩;rintro r V4 B ⟨p2,n2,c2,rfl,h1⟩;refine ⟨_,_,_,rfl,fun V5 j=>(iu (h.le (A.trans (B.trans j))) (h1.le j) (by omega) (by decide)).mono ?_⟩;rintro r V6 M rfl
 replace hx:=hx.le (y.trans (W.trans (A.trans (B.trans (j.trans M)))))
 replace hy:=hy.le (y.trans (W.trans (A.trans (B.trans (j.trans M)))))
 replace h:=h.le (A.trans (B.trans (j.trans M)))
 refine ⟨_,rfl,fun X V7 C=>(dN (hx.le C) (h.le C) hm i K).mono ?_,fun X zO D=>mP.mono ?_⟩
 ·rintro r V8 Y ⟨p4,n4,c4,p5,n5,c5,rfl,Z,-⟩;have a0:(mkRat z d).num.natAbs=(mkRat z d).num.natAbs:=rfl;obtain ⟨k,N⟩:=J;have O:z.natAbs / g=k:=by rw [N,Nat.mul_div_cancel_left _ K]
  rw [O] at Z
  have hz:z=(g:Int)*(if z<0 then -(k:Int) else k):=by
   split
   ·rw [Int.mul_neg,←Int.natCast_mul,←N];omega
   ·rw [←Int.natCast_mul,←N];omega
  have b:w.num=(if z<0 then -(k:Int) else k):=by
   rw [L];generalize (if z<0 then -(k:Int) else k)=t at *;rw [hz,Int.mul_ediv_cancel_left _ (by omega)]
  refine ⟨_,_,_,_,_,_,rfl,fun V9 P=>(eT _ (Z.le P)).mono ?_⟩
  have TJ:(if decide (z<0)=true then -(k:Int) else k)=w.num:=by
   rw [b];simp
  rw [TJ];rintro r hZ l ⟨p7,n7,c7,rfl,g2⟩;refine ⟨_,_,_,_,rfl,fun gN E=>(dN (hy.le (C.trans (Y.trans (P.trans (l.trans E))))) (h.le (C.trans (Y.trans (P.trans (l.trans E))))) hn i K).mono ?_⟩;rintro r jg cY ⟨p8,n8,c8,p9,n9,c9,rfl,Q,-⟩;rw [←a] at Q;refine ⟨_,_,_,_,_,_,rfl,fun ph F=>mP.mono ?_⟩;rintro r lC G ⟨NA,a1,a2,rfl,R⟩;have a3:(ai w.den).length<=274877906944:=by rw [a];exact Nat.le_trans (aD (Nat.div_le_self _ _)) hn
  refine ⟨_,_,_,rfl,fun lD o=>(iu (Q.le (F.trans (G.trans o))) (R.le o) (by omega) (by decide)).mono ?_⟩;rintro r nG S rfl;refine ⟨_,rfl,fun f qH T=>nR rfl rfl (g2.le (E.trans (cY.trans (F.trans (G.trans (o.trans (S.trans T))))))) ?_ rfl,fun f wY s=>nR rfl rfl (g2.le (E.trans (cY.trans (F.trans (G.trans (o.trans (S.trans s))))))) ?_ rfl⟩
  ·have:w.den=1:=kc.1 (by simpa using f);rw [B3.2 this];exact RD.nil
  ·have:w.den≠1:=fun e=>by rw [kc.2 e] at f;simp at f
   unfold sX;rw [if_neg this];exact Q.le (F.trans (G.trans (o.trans (S.trans s))))
 ·have u:g=1:=kc.1 (by simpa using X);have b:w.num=z:=by rw [L,u];simp
  have v:w.den=d:=by rw [a,u];simp
  rintro r Bl H ⟨a4,a5,a6,rfl,R⟩;refine ⟨_,_,_,rfl,fun Br x=>(iu (hy.le (D.trans (H.trans x))) (R.le x) (by omega) (by decide)).mono ?_⟩;rintro r DL U rfl;refine ⟨_,rfl,fun f qH T=>nR b v (hx.le (D.trans (H.trans (x.trans (U.trans T))))) ?_ rfl,fun f wY s=>nR b v (hx.le (D.trans (H.trans (x.trans (U.trans s))))) ?_ rfl⟩
  ·have:d=1:=kc.1 (by simpa using f);unfold sX;rw [if_pos this];exact RD.nil
  ·have:d≠1:=fun e=>by rw [kc.2 e] at f;simp at f
   unfold sX;rw [if_neg this];exact hy.le (D.trans (H.trans (x.trans (U.trans s))))
theorem ka {V:View}(n:Int)(h0:-9223372036854775808<=n)(h1:n<=9223372036854775807) :
  ae prog 35 #[.int .i64 n] V fun r V'=>RQ V' r (n:Rat):=by
 refine HP n V _ fun b e=>(yR n h0 h1).mono ?_;rintro r V2 f ⟨p,m,c,rfl,g⟩;exact ⟨_,_,_,_,rfl,fun h a=>nR (z:=n) (d:=1) rfl rfl (g.le a) RD.nil rfl⟩
theorem Li {V:View}(q:Rat){p p':OA}{n c n' c':Nat}(h1:RD V p n c (ai q.num.natAbs)) :
  ae prog 119 #[.agg #[.bool (decide (q.num<0)),.slice p n c,.slice p' n' c']] V fun r V'=>r=.int .i64 q.num.sign:=by
 refine Kx _ p n c p' n' c' V _ fun b a=>(Ec q.num (h1.le a)).mono ?_;rintro r V2 d rfl;exact ⟨_,rfl,fun e f=>rfl⟩
theorem mQ {V:View}(q:Rat){p p':OA}{n c n' c':Nat}(h1:RD V p n c (ai q.num.natAbs))(h2:RD V p' n' c' (sX q.den)) :
  ae prog 80 #[.agg #[.bool (decide (q.num<0)),.slice p n c,.slice p' n' c']] V fun r V'=>RQ V' r (-q):=by
 refine Fu _ p n c p' n' c' V _ fun f a=>(BP q.num (h1.le a)).mono ?_;rintro r V2 e ⟨h,i,j,rfl,g⟩;exact ⟨_,_,_,_,rfl,fun k b=>nR (q:=-q) (z:=-q.num) (d:=q.den) (by rfl) (by rfl) (g.le b) ((h2.le a).le (e.trans b)) rfl⟩
theorem qT {V:View}{p:OA}{n c x:Nat}(h:RN V p n c x) :
  ae prog 83 #[.bool false,.slice p n c] V fun r V'=>RI V' r (x:Int):=by
 have:=eT false h
 rwa [if_neg (by decide)] at this
theorem ch {x:Rat}{k:Nat}(h:Sz k x):(ai x.num.natAbs).length<=k/\(ai x.den).length<=k/\(ai (x.den:Int).natAbs).length<=k:=⟨ag h.1,ag h.2,ag h.2⟩
theorem fS {V:View}{v w:Value}{x y:Rat}(hx:RQ V v x)(hy:RQ V w y){k m:Nat}(hk:Sz k x)(hm:Sz m y)(hkm:k+m<274877906944) :
  ae prog 74 #[v,w] V fun r V'=>RQ V' r (x+y):=by
 obtain ⟨p,n,c,p',n',c',rfl,f,a⟩:=hx;obtain ⟨q,i,e,q',i',e',rfl,h,b⟩:=hy;have A:=me a;have zj:=me b;obtain ⟨b1,b2,b3,b4⟩:=uo hk hm;obtain ⟨d1,d2,d3⟩:=ch hk;obtain ⟨d4,d5,d6⟩:=ch hm;have j:x+y=mkRat (x.num*y.den+y.num*x.den) (x.den*y.den):=Rat.add_def' x y;refine (fun tail=>DB _ p n c p' n' c' _ q i e q' i' e' V _ ⟨fun B=>⟨fun C V1 l=>?_,fun _=>tail⟩,fun _=>tail⟩) ?_
 ·clear tail;have B:x.den=1:=A.1 (by simp at B;omega);have C:y.den=1:=zj.1 (by simp at C;omega);refine (yQ x.num y.num (f.le l) (h.le l) (by omega) (by omega)).mono ?_;rintro r V2 Q ⟨p2,n2,c2,rfl,g⟩
  have e1:x+y=((x.num+y.num:Int):Rat):=by
   rw [j,B,C];simp [Rat.mkRat_one]
  rw [e1];exact ⟨_,_,_,_,rfl,fun V3 t=>nR (z:=x.num+y.num) (d:=1) rfl rfl (g.le t) RD.nil rfl⟩
 ·intro V1 l;refine (cw y _ (b.le l)).mono ?_;rintro r V2 Q ⟨p1,n1,c1,rfl,g1⟩;refine ⟨_,_,_,rfl,fun V3 t=>(qT (g1.le t)).mono ?_⟩;rintro r V4 l4 ⟨p3,n3,c3,rfl,g3⟩;have R:=l.trans (Q.trans (t.trans l4));refine ⟨_,_,_,_,rfl,fun V5 D=>(j_ x.num y.den (f.le (R.trans D)) (g3.le D) (by omega)).mono ?_⟩;rintro r V6 l6 ⟨p5,n5,c5,rfl,g5⟩;have S:=R.trans (D.trans l6);refine ⟨_,_,_,_,rfl,fun V7 E=>(cw x _ (a.le (S.trans E))).mono ?_⟩;rintro r V8 T ⟨p7,n7,c7,rfl,g7⟩;have OB:=S.trans (E.trans T);refine ⟨_,_,_,rfl,fun V9 F=>(qT (g7.le F)).mono ?_⟩;rintro r hZ o ⟨p9,n9,c9,rfl,g9⟩;have U:=OB.trans (F.trans o);refine ⟨_,_,_,_,rfl,fun gN u=>(j_ y.num x.den (h.le (U.trans u)) (g9.le u) (by omega)).mono ?_⟩;rintro r jg W ⟨Rc,a0,a1,rfl,G⟩;have Cp:=U.trans (u.trans W);refine ⟨_,_,_,_,rfl,fun ph H=>(yQ _ _ (g5.le (E.trans (T.trans (F.trans (o.trans (u.trans (W.trans H))))))) (G.le H) (Nat.le_trans (ag b1) (by omega)) (Nat.le_trans (ag b2) (by omega))).mono ?_⟩;rintro r lC fo ⟨a2,a3,a4,rfl,I⟩;have X:=Cp.trans (H.trans fo);refine ⟨_,_,_,_,rfl,fun lD J=>(cw x _ (a.le (X.trans J))).mono ?_⟩;rintro r nG Y ⟨a5,a6,a7,rfl,K⟩;have T7:=X.trans (J.trans Y);refine ⟨_,_,_,rfl,fun qH L=>(cw y _ (b.le (T7.trans L))).mono ?_⟩;rintro r wY Z ⟨a8,a9,b0,rfl,M⟩;refine ⟨_,_,_,rfl,fun zO N=>(cg (K.le (L.trans (Z.trans N))) (M.le N) (by omega)).mono ?_⟩;rintro r Bl lS ⟨b5,b6,b7,rfl,s⟩;rw [af,af] at s;refine ⟨_,_,_,rfl,fun Br jT=>(kM _ (I.le (J.trans (Y.trans (L.trans (Z.trans (N.trans (lS.trans jT))))))) (s.le jT) (Nat.le_trans (ag b3) (by omega)) (Nat.le_trans (ag b4) (by omega)) (Nat.mul_ne_zero x.den_nz y.den_nz)).mono ?_⟩;rw [j];rintro r DL qI ⟨Xi,b8,b9,Xj,c0,Wf,rfl,O,P⟩;exact ⟨_,_,_,_,_,_,_,rfl,fun GA lH=>⟨_,_,_,_,_,_,rfl,O.le lH,P.le lH⟩⟩
theorem GV {V:View}{v w:Value}{x y:Rat}(hx:RQ V v x)(hy:RQ V w y){k m:Nat}(hk:Sz k x)(hm:Sz m y)(hkm:k+m<274877906944) :
  ae prog 121 #[v,w] V fun r V'=>RQ V' r (x-y):=by
 have a:=hx;obtain ⟨p,n,c,l,o,s,rfl,t,u⟩:=hx;obtain ⟨q,i,e,z,A,B,rfl,b,d⟩:=hy;refine Fv _ p n c l o s _ q i e z A B V _ fun F f=>(mQ y (b.le f) (d.le f)).mono ?_;rintro r V2 C g;obtain ⟨G,H,I,J,K,L,rfl,M,N⟩:=id g;refine ⟨_,_,_,_,_,_,_,rfl,fun O h=>(fS (a.le (f.trans (C.trans h))) (g.le h) hk hm.neg hkm).mono ?_⟩;rw [←Rat.sub_eq_add_neg];rintro r P Q ⟨R,S,T,U,W,X,rfl,D,E⟩;exact ⟨_,_,_,_,_,_,_,rfl,fun Y j=>⟨_,_,_,_,_,_,rfl,D.le j,E.le j⟩⟩
theorem FG {V:View}{v w:Value}{x y:Rat}(hx:RQ V v x)(hy:RQ V w y){k m:Nat}(hk:Sz k x)(hm:Sz m y)(hkm:k+m<274877906944) :
  ae prog 62 #[v,w] V fun r V'=>r=.int .i64 (cmpQ x y):=by
 have a:=hx;have b:=hy;obtain ⟨p,n,c,f,g,h,rfl,j,l⟩:=hx;obtain ⟨q,i,e,o,s,t,rfl,u,z⟩:=hy;refine Kw _ p n c f g h _ q i e o s t V _ fun C d=>(GV (a.le d) (b.le d) hk hm hkm).mono ?_;rintro r V2 D ⟨E,F,G,H,I,J,rfl,A,K⟩;refine ⟨_,_,_,_,_,_,_,rfl,fun L B=>(Li (x-y) (A.le B)).mono ?_⟩;rintro r M N rfl;exact ⟨_,rfl,fun O P=>rfl⟩
theorem cz {V:View}{v w:Value}{x y:Rat}(hx:RQ V v x)(hy:RQ V w y){k m:Nat}(hk:Sz k x)(hm:Sz m y)(hkm:k+m<274877906944) :
  ae prog 76 #[v,w] V fun r V'=>RQ V' r (x*y):=by
 obtain ⟨p,n,c,K,L,M,rfl,b,f⟩:=hx;obtain ⟨q,i,e,N,O,P,rfl,h,j⟩:=hy;have s:=me f;have Q:=me j;obtain ⟨d1,d2,d3⟩:=ch hk;obtain ⟨d4,d5,d6⟩:=ch hm;have l:x*y=mkRat (x.num*y.num) (x.den*y.den):=Rat.mul_def' x y;have b1:(x.num*y.num).natAbs<2^(k+m):=by rw [Int.natAbs_mul];exact bH hk.1 hm.1
 have b2:x.den*y.den<2^(k+m):=bH hk.2 hm.2;refine (fun tail=>A8 _ p n c K L M _ q i e N O P V _ ⟨fun t=>⟨fun u R a=>?_,fun _=>tail⟩,fun _=>tail⟩) ?_
 ·clear tail;have t:x.den=1:=s.1 (by simp at t;omega);have u:y.den=1:=Q.1 (by simp at u;omega);refine (j_ x.num y.num (b.le a) (h.le a) (by omega)).mono ?_;rintro r V2 A ⟨S,T,U,rfl,g⟩
  have W:x*y=((x.num*y.num:Int):Rat):=by
   rw [l,t,u];simp [Rat.mkRat_one]
  rw [W];exact ⟨_,_,_,_,rfl,fun X o=>nR (z:=x.num*y.num) (d:=1) rfl rfl (g.le o) RD.nil rfl⟩
 ·intro R a;refine (j_ x.num y.num (b.le a) (h.le a) (by omega)).mono ?_;rintro r V2 A ⟨S,T,U,rfl,Y⟩;refine ⟨_,_,_,_,rfl,fun X o=>(cw x _ (f.le (a.trans (A.trans o)))).mono ?_⟩;rintro r V4 F ⟨p4,n4,c4,rfl,Z⟩;refine ⟨_,_,_,rfl,fun V5 B=>(cw y _ (j.le (a.trans (A.trans (o.trans (F.trans B)))))).mono ?_⟩;rintro r V6 G ⟨p6,n6,c6,rfl,g6⟩;refine ⟨_,_,_,rfl,fun V7 C=>(cg (Z.le (B.trans (G.trans C))) (g6.le C) (by omega)).mono ?_⟩;rintro r V8 l8 ⟨p8,n8,c8,rfl,H⟩;rw [af,af] at H;refine ⟨_,_,_,rfl,fun V9 I=>(kM _ (Y.le (o.trans (F.trans (B.trans (G.trans (C.trans (l8.trans I))))))) (H.le I) (Nat.le_trans (ag b1) (by omega)) (Nat.le_trans (ag b2) (by omega)) (Nat.mul_ne_zero x.den_nz y.den_nz)).mono ?_⟩;rw [l];rintro r DL qI ⟨Xi,a0,a1,Xj,a2,Wf,rfl,D,E⟩;exact ⟨_,_,_,_,_,_,_,rfl,fun GA J=>⟨_,_,_,_,_,_,rfl,D.le J,E.le J⟩⟩
end Go.Proofs.Tryz
namespace Go.Eng
open Go.Big
def RP (V:View)(v:Value)(x y:Rat):Prop:=∃p n c p' n' c' q m e q' m' e',v=.agg #[.bool (decide (x.num<0)),.slice p n c,.slice p' n' c',.bool (decide (y.num<0)),.slice q m e,.slice q' m' e'] /\
 RQ V (.agg #[.bool (decide (x.num<0)),.slice p n c,.slice p' n' c']) x/\RQ V (.agg #[.bool (decide (y.num<0)),.slice q m e,.slice q' m' e']) y
theorem RP.le {V V':View}{v:Value}{x y:Rat}(h:RP V v x y)(l:V.Le V'):RP V' v x y:=by
 obtain ⟨p,n,c,a,b,d,q,m,e,f,g,i,rfl,j,k⟩:=h;exact ⟨p,n,c,a,b,d,q,m,e,f,g,i,rfl,j.le l,k.le l⟩
theorem RQ.shape {V:View}{v:Value}{q:Rat}(h:RQ V v q):∃p n c p' n' c',v=.agg #[.bool (decide (q.num<0)),.slice p n c,.slice p' n' c']:=by
 obtain ⟨p,n,c,p',n',c',e,-⟩:=h;exact ⟨_,_,_,_,_,_,e⟩
end Go.Eng
namespace Go.Proofs.Tryz
open Go.Eng Go.Big
theorem rS {V:View}{p:OA}{n c:Nat}{ds:List Nat}(h:RD V p n c ds)(hm:ds.length<=1099511627776) :
  ae prog 95 #[.slice p n c] V fun r V'=>∃p1 n1 c1,r=.slice p1 n1 c1/\RD V' p1 n1 c1 ds:=by
 have a:=h.len;refine A_ p n c V _ ⟨aC ds,h.sl,by simp [a],by omega,by omega,by simp,by simp [a],?_,?_⟩
 ·intro v e;simp only [aC,List.mem_map] at e;obtain ⟨d,-,rfl⟩:=e;rfl
 ·intro i J sp j f k l m b g;refine ⟨_,_,_,rfl,?_⟩;simp only [Nat.zero_add,Nat.zero_mul,List.take_zero,List.nil_append] at g f ⊢;exact copied h.eK a f g
theorem jm {V:View}{v:Value}{z:Int}(h:RI V v z)(hm:(ai z.natAbs).length<=1099511627776) :
  ae prog 44 #[v] V fun r V'=>RI V' r z:=by
 obtain ⟨p,n,c,rfl,h⟩:=h;refine A9 _ p n c V _ fun d a=>(rS (h.le a) hm).mono ?_;rintro r V2 e ⟨f,i,j,rfl,g⟩;exact ⟨_,_,_,rfl,fun k b=>⟨_,_,_,rfl,g.le b⟩⟩
theorem uJ {V:View}(x y:Int)(h0:-9223372036854775808<=x)(h1:x<=9223372036854775807)(h2:-9223372036854775808<=y)(h3:y<=9223372036854775807) :
  ae prog 47 #[.int .i64 x,.int .i64 y] V fun r V'=>RP V' r (x:Rat) (y:Rat):=by
 refine DI x y V _ fun h i=>(ka x h0 h1).mono ?_;rintro r V2 j a;obtain ⟨p,n,c,k,l,o,rfl⟩:=a.shape;refine ⟨_,_,_,_,_,_,_,rfl,fun s f=>(ka y h2 h3).mono ?_⟩;rintro r t g b;obtain ⟨q,m,e,u,v,w,rfl⟩:=b.shape;exact ⟨_,_,_,_,_,_,_,rfl,fun z d=>⟨_,_,_,_,_,_,_,_,_,_,_,_,rfl,a.le (f.trans (g.trans d)),b.le d⟩⟩
theorem ma {V:View}{u v w:Value}{px py c qx qy:Rat}(hp:RP V u px py)(hc:RQ V v c)(hq:RP V w qx qy){k m:Nat}(s1:Sz k px)(s2:Sz k py)(s3:Sz m c)(s4:Sz m qx)(s5:Sz m qy)(hkm:k+(m+m+1)<274877906944) :
  ae prog 34 #[u,v,w] V fun r V'=>RP V' r (px+c*qx) (py+c*qy):=by
 obtain ⟨x,y,z,A,B,C,D,E,F,G,H,I,rfl,d,e⟩:=hp;obtain ⟨J,K,L,M,N,O,rfl⟩:=hc.shape;obtain ⟨P,Q,R,S,T,U,W,X,Y,Z,m4,e4,rfl,f,g⟩:=hq;refine Bb _ x y z A B C _ D E F G H I _ J K L M N O _ P Q R S T U _ W X Y Z m4 e4 V _ fun V1 a=>(cz (hc.le a) (f.le a) s3 s4 (by omega)).mono ?_;rintro r V2 l n;obtain ⟨a1,a2,a3,a4,a5,a6,rfl⟩:=n.shape;refine ⟨_,_,_,_,_,_,_,rfl,fun V3 h=>(fS (d.le (a.trans (l.trans h))) (n.le h) s1 (s3.mul s4) (by omega)).mono ?_⟩;rintro r V4 l4 o;obtain ⟨b1,b2,b3,b4,b5,b6,rfl⟩:=o.shape;have i:=a.trans (l.trans (h.trans l4));refine ⟨_,_,_,_,_,_,_,rfl,fun V5 b=>(cz (hc.le (i.trans b)) (g.le (i.trans b)) s3 s5 (by omega)).mono ?_⟩;rintro r V6 p q;obtain ⟨d1,d2,d3,d4,d5,d6,rfl⟩:=q.shape;refine ⟨_,_,_,_,_,_,_,rfl,fun V7 j=>(fS (e.le (i.trans (b.trans (p.trans j)))) (q.le j) s2 (s3.mul s5) (by omega)).mono ?_⟩;rintro r V8 l8 s;obtain ⟨f1,f2,f3,f4,f5,f6,rfl⟩:=s.shape;exact ⟨_,_,_,_,_,_,_,rfl,fun V9 t=>⟨_,_,_,_,_,_,_,_,_,_,_,_,rfl,o.le (b.trans (p.trans (j.trans (l8.trans t)))),s.le t⟩⟩
theorem MC:Sz 1 ((-1:Int):Rat):=by unfold Sz;decide
theorem BS {V:View}{u w:Value}{px py qx qy:Rat}(hp:RP V u px py)(hq:RP V w qx qy){k m:Nat}(s1:Sz k px)(s2:Sz k py)(s4:Sz m qx)(s5:Sz m qy)(hm:1<=m)(hkm:k+(m+m+1)<274877906944) :
  ae prog 79 #[u,w] V fun r V'=>RP V' r (px-qx) (py-qy):=by
 have d:=hp;have e:=hq;obtain ⟨j,l,n,o,p,q,s,t,v,x,y,z,rfl,-,-⟩:=hp;obtain ⟨A,B,c,C,D,E,F,G,H,I,J,K,rfl,-,-⟩:=hq;refine Bf _ j l n o p q _ s t v x y z _ A B c C D E _ F G H I J K V _ fun S L=>(ka (-1) (by omega) (by omega)).mono ?_;rintro r V2 M g;obtain ⟨T,U,W,X,Y,Z,rfl⟩:=g.shape;have h:=L.trans M;refine ⟨_,_,_,_,_,_,_,rfl,fun V3 f=>(ma (d.le (h.trans f)) (g.le f) (e.le (h.trans f)) s1 s2 (MC.mono hm) s4 s5 hkm).mono ?_⟩
 have c:∀a b:Rat,a+((-1:Int):Rat)*b=a-b:=by
  intro a b;have:((-1:Int):Rat)=-1:=rfl;rw [this,Rat.neg_mul,Rat.one_mul,Rat.sub_eq_add_neg]
 rw [c,c];rintro r V4 l4 ⟨b1,b2,b3,b4,b5,b6,b7,b8,b9,N,O,P,rfl,Q,R⟩;exact ⟨_,_,_,_,_,_,_,_,_,_,_,_,_,_,rfl,fun V5 i=>⟨_,_,_,_,_,_,_,_,_,_,_,_,rfl,Q.le i,R.le i⟩⟩
theorem Ae {V:View}{u w:Value}{px py qx qy:Rat}(hp:RP V u px py)(hq:RP V w qx qy){k m:Nat}(s1:Sz k px)(s2:Sz k py)(s4:Sz m qx)(s5:Sz m qy)(hkm:k+m<274877906944) :
  ae prog 78 #[u,w] V fun r V'=>r=.bool (decide (px=qx/\py=qy)):=by
 obtain ⟨l,n,o,p,q,s,t,v,x,y,z,A,rfl,c,d⟩:=hp;obtain ⟨B,C,D,E,F,G,H,I,J,K,L,M,rfl,f,g⟩:=hq;refine yl _ l n o p q s _ t v x y z A _ B C D E F G _ H I J K L M V _ fun O b=>(FG (c.le b) (f.le b) s1 s4 hkm).mono ?_;rintro r V2 j rfl;refine ⟨_,rfl,fun a N i=>(FG (d.le (b.trans (j.trans i))) (g.le (b.trans (j.trans i))) s2 s5 hkm).mono ?_,fun a N i=>?_⟩
 ·have a:px=qx:=kQ.2 (by simpa using a);rintro r P Q rfl;refine ⟨_,rfl,fun R S=>?_⟩;congr 1;rw [Bool.eq_iff_iff,decide_eq_true_eq,beq_iff_eq,←kQ];exact ⟨fun h=>⟨a,h⟩,fun h=>h.2⟩
 ·have a:¬px=qx:=fun e=>by rw [kQ.1 e] at a;simp at a
  rw [decide_eq_false fun h=>a h.1]
end Go.Proofs.Tryz
namespace Go.Eng
open Go.Big
def RL (V:View)(v:Value)(a b c:Int):Prop:=∃p n s p' n' s' q m e,v=.agg #[.bool (decide (a<0)),.slice p n s,.bool (decide (b<0)),.slice p' n' s',.bool (decide (c<0)),.slice q m e] /\
 RD V p n s (ai a.natAbs)/\RD V p' n' s' (ai b.natAbs)/\RD V q m e (ai c.natAbs)
theorem RL.le {V V':View}{v:Value}{a b c:Int}(h:RL V v a b c)(l:V.Le V'):RL V' v a b c:=by
 obtain ⟨p,n,s,d,f,g,q,m,e,rfl,i,j,k⟩:=h;exact ⟨p,n,s,d,f,g,q,m,e,rfl,i.le l,j.le l,k.le l⟩
end Go.Eng
namespace Go.Proofs.Tryz
open Go.Eng Go.Big
theorem nK {V:View}{p q:OA}{n c m e:Nat}{xs ys:List Nat}(hx:RD V p n c xs)(hy:RD V q m e ys)(hm:xs.length<=1099511627776) :
  ae prog 178 #[.slice p n c,.slice q m e] V fun r V'=>r=.bool (decide (xs=ys)):=by
 have g:=hx.len;have s:=hy.len;refine wN p n c q m e V _ ⟨fun b t u=>?_,fun b=>?_⟩
 ·have b:n≠m:=by simp at b;omega
  rw [decide_eq_false fun h=>b (by rw [g,s,h])]
 ·have b:n=m:=by simp at b;omega
  refine ⟨fun z V'=>0<=z/\z<=n/\xs.take z.toNat=ys.take z.toNat,fun z=>n-z.toNat,⟨0,by (try dsimp only);and_intros<;>first|exact True.intro|rfl,by (try dsimp only);omega,by (try dsimp only);omega,rfl⟩,?_⟩;rintro i V2 o ⟨j,k,d⟩;dsimp only at k d ⊢;obtain ⟨i,rfl⟩:=Int.eq_ofNat_of_zero_le j;simp only [Int.toNat_natCast] at d;refine ⟨by trivial,fun f=>?_,fun f v x=>?_⟩
  ·have f:i<n:=by simpa using f
   refine (hx.le o).rd i rfl (by omega) ((hy.le o).rd i rfl (by omega) ⟨fun a y A=>?_,fun a=>?_⟩)
   ·have a:xs[i]≠ys[i]:=by simp at a;omega
    rw [decide_eq_false fun h=>a (by subst h;rfl)]
   ·have a:xs[i]=ys[i]:=by simp at a;omega
    have w:i64.wrap ((i:Int)+1)=((i+1:Nat):Int):=by rw [aw (by omega)];omega
    simp only [w];refine ⟨((i+1:Nat):Int),?_,by (try dsimp only);and_intros<;>first|exact True.intro|rfl,by (try dsimp only);omega,by (try dsimp only);omega,?_⟩
    ·(try dsimp only);omega
    ·(try dsimp only)
     simp only [Int.toNat_natCast];rw [List.take_succ_eq_append_getElem (by omega),List.take_succ_eq_append_getElem (l:=ys) (by omega),d,a]
  ·have f:i=n:=by simp at f;omega
   rw [List.take_of_length_le (by omega),List.take_of_length_le (by omega)] at d;rw [decide_eq_true d]
theorem J_ {z w:Int}:(decide (z<0)==decide (w<0))=true->(decide (ai z.natAbs=ai w.natAbs)=decide (z=w)):=by
 intro h;have b:(z<0↔w<0):=by simpa using h
 rw [Bool.eq_iff_iff,decide_eq_true_eq,decide_eq_true_eq];constructor
 ·intro a;have:=pH a;omega
 ·intro a;rw [a]
theorem gj {V:View}{z w:Int}{p q:OA}{n c m e:Nat}(hx:RD V p n c (ai z.natAbs))(hy:RD V q m e (ai w.natAbs))(hm:(ai z.natAbs).length<=1099511627776) :
  ae prog 129 #[.agg #[.bool (decide (z<0)),.slice p n c],.agg #[.bool (decide (w<0)),.slice q m e]] V fun r V'=>r=.bool (decide (z=w)):=by
 refine wM _ p n c _ q m e V _ ⟨fun a d b=>(nK (hx.le b) (hy.le b) hm).mono ?_,fun a d b=>?_⟩
 ·rintro r V2 f rfl;refine ⟨_,rfl,fun g i=>?_⟩;rw [J_ a]
 ·rw [decide_eq_false fun h=>by subst h;simp at a]
theorem xw {V:View}{v w:Value}{a b c a' b' c':Int}(hx:RL V v a b c)(hy:RL V w a' b' c')(h1:(ai a.natAbs).length<=1099511627776)(h2:(ai b.natAbs).length<=1099511627776)(h3:(ai c.natAbs).length<=1099511627776) :
  ae prog 68 #[v,w] V fun r V'=>r=.bool (decide (a=a'/\b=b'/\c=c')):=by
 obtain ⟨p,n,s,x,y,z,q,m,e,rfl,A,B,C⟩:=hx;obtain ⟨i,j,k,D,E,F,i2,G,H,rfl,I,J,K⟩:=hy;refine wR _ p n s _ x y z _ q m e _ i j k _ D E F _ i2 G H V _ fun L d=>(gj (A.le d) (I.le d) h1).mono ?_;rintro r V2 l rfl;refine ⟨_,rfl,fun f M o=>(gj (B.le (d.trans (l.trans o))) (J.le (d.trans (l.trans o))) h2).mono ?_,fun f N O=>?_⟩
 ·rintro r P t rfl;rw [decide_eq_true_eq] at f;refine ⟨_,rfl,fun g Q u=>(gj (C.le (d.trans (l.trans (o.trans (t.trans u))))) (K.le (d.trans (l.trans (o.trans (t.trans u))))) h3).mono ?_,fun g R S=>?_⟩
  ·rintro r T U rfl;rw [decide_eq_true_eq] at g;refine ⟨_,rfl,fun W X=>?_⟩;congr 1;rw [Bool.eq_iff_iff,decide_eq_true_eq,decide_eq_true_eq];exact ⟨fun h=>⟨f,g,h⟩,fun h=>h.2.2⟩
  ·rw [decide_eq_false_iff_not] at g;rw [decide_eq_false fun h=>g h.2.1]
 ·rw [decide_eq_false_iff_not] at f;rw [decide_eq_false fun h=>f h.1]
theorem rU {V:View}{v:Value}{a b c:Int}(hx:RL V v a b c)(h1:(ai a.natAbs).length<=1099511627776)(h2:(ai b.natAbs).length<=1099511627776)(h3:(ai c.natAbs).length<=1099511627776) :
  ae prog 14 #[v] V fun r V'=>RL V' r a b c:=by
 obtain ⟨p,n,s,l,o,t,q,m,e,rfl,u,w,x⟩:=hx;refine Bg _ p n s _ l o t _ q m e V _ fun B d=>(jm ⟨_,_,_,rfl,u.le d⟩ h1).mono ?_;rintro r V2 i ⟨C,D,E,rfl,y⟩;refine ⟨_,_,_,_,rfl,fun F f=>(jm ⟨_,_,_,rfl,w.le (d.trans (i.trans f))⟩ h2).mono ?_⟩;rintro r G j ⟨H,I,J,rfl,z⟩;refine ⟨_,_,_,_,rfl,fun K g=>(jm ⟨_,_,_,rfl,x.le (d.trans (i.trans (f.trans (j.trans g))))⟩ h3).mono ?_⟩;rintro r L k ⟨M,N,O,rfl,A⟩;exact ⟨_,_,_,_,rfl,fun P h=>⟨_,_,_,_,_,_,_,_,_,rfl,y.le (f.trans (j.trans (g.trans (k.trans h)))),z.le (g.trans (k.trans h)),A.le h⟩⟩
theorem uU {z:Int}{g:Nat}(hg:0<g)(hd:g∣z.natAbs):(if decide (z<0)=true then -((z.natAbs / g:Nat):Int) else ((z.natAbs / g:Nat):Int))=z / (g:Int):=by
 obtain ⟨k,a⟩:=hd;have b:z.natAbs / g=k:=by rw [a,Nat.mul_div_cancel_left _ hg]
 rw [b]
 have c:z=(g:Int)*(if decide (z<0)=true then -(k:Int) else k):=by
  split
  ·rename_i h;rw [decide_eq_true_eq] at h;rw [Int.mul_neg,←Int.natCast_mul,←a];omega
  ·rename_i h;rw [decide_eq_true_eq] at h;rw [←Int.natCast_mul,←a];omega
 generalize (if decide (z<0)=true then -(k:Int) else k)=t at *;rw [c,Int.mul_ediv_cancel_left _ (by omega)]
def bE (a b c:Int):Nat:=Nat.gcd (Nat.gcd a.natAbs b.natAbs) c.natAbs
theorem xr {V:View}{u v w:Value}{a b c:Int}(ha:RI V u a)(hb:RI V v b)(hc:RI V w c)(h1:(ai a.natAbs).length<=274877906944)(h2:(ai b.natAbs).length<=274877906944)(h3:(ai c.natAbs).length<=274877906944) :
  ae prog 84 #[u,v,w] V fun r V'=>(a=0/\b=0->∃l,r=.tuple #[l,.bool false]/\RL V' l 0 0 0) /\
   (¬(a=0/\b=0)->∃l,r=.tuple #[l,.bool true]/\RL V' l (a / (bE a b c:Int)) (b / (bE a b c:Int)) (c / (bE a b c:Int))):=by
 obtain ⟨p,n,s,rfl,ha⟩:=ha;obtain ⟨T,U,W,rfl,hb⟩:=hb;obtain ⟨q,m,e,rfl,hc⟩:=hc;refine wP _ p n s _ T U W _ q m e V _ fun V1 j=>(kL (ha.le j) (hb.le j) h1 h2).mono ?_;rintro r V2 L ⟨p1,n1,c1,rfl,M⟩;have hp:=fB M.len;have t:Nat.gcd a.natAbs b.natAbs=0↔a=0/\b=0:=by rw [Nat.gcd_eq_zero_iff];omega
 refine ⟨_,_,_,rfl,fun x V3 l3=>⟨fun _=>⟨_,rfl,_,_,_,_,_,_,_,_,_,rfl,RD.nil,RD.nil,RD.nil⟩,fun h=>?_⟩,fun x V4 y=>?_⟩
 ·exact absurd (t.1 (by simp at x;omega)) h
 have z:¬(a=0/\b=0):=fun h=>by have:=t.2 h;simp at x;omega
 have g:0<Nat.gcd a.natAbs b.natAbs:=by have:=t;omega
 have i:(ai (Nat.gcd a.natAbs b.natAbs)).length<=274877906944:=by
  rcases Nat.eq_zero_or_pos a.natAbs with h|h
  ·rw [h,Nat.gcd_zero_left];exact h2
  ·exact Nat.le_trans (aD (Nat.gcd_le_left _ h)) h1
 refine (kL (M.le y) (hc.le (j.trans (L.trans y))) i h3).mono ?_;rintro r V5 X ⟨p2,n2,c2,rfl,k⟩;have A:=j.trans (L.trans (y.trans X));have Y:Nat.gcd (Nat.gcd a.natAbs b.natAbs) c.natAbs=bE a b c:=rfl;have d:0<bE a b c:=Nat.gcd_pos_of_pos_left _ g;have B:(ai (bE a b c)).length<=274877906944:=Nat.le_trans (aD (Nat.gcd_le_left _ g)) i;have Z:bE a b c∣a.natAbs:=Nat.dvd_trans (Nat.gcd_dvd_left _ _) (Nat.gcd_dvd_left _ _);have db:bE a b c∣b.natAbs:=Nat.dvd_trans (Nat.gcd_dvd_left _ _) (Nat.gcd_dvd_right _ _);have dc:bE a b c∣c.natAbs:=Nat.gcd_dvd_right _ _;have sa:=uU d Z;have sb:=uU d db;have sc:=uU d dc;rw [Y] at k;generalize bE a b c=G at *;refine ⟨_,_,_,rfl,fun V6 C=>(dN (ha.le (A.trans C)) (k.le C) h1 B d).mono ?_⟩;rintro r V7 l7 ⟨p3,n3,c3,p4,n4,c4,rfl,g3,-⟩;have D:=C.trans l7;refine ⟨_,_,_,_,_,_,rfl,fun V8 o=>(dN (hb.le (A.trans (D.trans o))) (k.le (D.trans o)) h2 B d).mono ?_⟩;rintro r V9 N ⟨p5,n5,c5,p6,n6,c6,rfl,g5,-⟩;have O:=D.trans (o.trans N);refine ⟨_,_,_,_,_,_,rfl,fun hZ f=>(dN (hc.le (A.trans (O.trans f))) (k.le (O.trans f)) h3 B d).mono ?_⟩;rintro r gN P ⟨p7,n7,c7,p8,n8,c8,rfl,g7,-⟩;refine ⟨_,_,_,_,_,_,rfl,fun jg E=>(eT _ (g3.le (o.trans (N.trans (f.trans (P.trans E)))))).mono ?_⟩;rw [sa];rintro r ph Q ⟨p9,n9,c9,rfl,g9⟩;refine ⟨_,_,_,_,rfl,fun lC F=>(eT _ (g5.le (f.trans (P.trans (E.trans (Q.trans F)))))).mono ?_⟩;rw [sb];rintro r lD R ⟨NA,a0,a1,rfl,H⟩;refine ⟨_,_,_,_,rfl,fun nG I=>(eT _ (g7.le (E.trans (Q.trans (F.trans (R.trans I)))))).mono ?_⟩;rw [sc];rintro r qH S ⟨Rc,a2,a3,rfl,J⟩;refine ⟨_,_,_,_,rfl,fun wY K=>⟨fun h=>absurd h z,fun _=>⟨_,rfl,_,_,_,_,_,_,_,_,_,rfl,?_,?_,?_⟩⟩⟩
 ·exact g9.le (F.trans (R.trans (I.trans (S.trans K))))
 ·exact H.le (I.trans (S.trans K))
 ·exact J.le K
end Go.Proofs.Tryz
namespace Go.Eng
open Go.Big
def wW (V:View)(v:Value)(a b c:Rat):Prop:=∃(x1 x2:Int)(p:OA)(y1 y2:Int)(q:OA)(z1 z2:Int)(r:OA),v=.agg #[.int .i64 x1,.int .i64 x2,.pointer p,.int .i64 y1,.int .i64 y2,.pointer q,.int .i64 z1,.int .i64 z2,.pointer r] /\
 RR V (.agg #[.int .i64 x1,.int .i64 x2,.pointer p]) a/\RR V (.agg #[.int .i64 y1,.int .i64 y2,.pointer q]) b/\RR V (.agg #[.int .i64 z1,.int .i64 z2,.pointer r]) c
def Py (v:Value):Prop:=∃(x1 x2:Int)(x3:OA)(y1 y2:Int)(y3:OA)(z1 z2:Int)(z3:OA),v=.agg #[.int .i64 x1,.int .i64 x2,.pointer x3,.int .i64 y1,.int .i64 y2,.pointer y3,.int .i64 z1,.int .i64 z2,.pointer z3]
theorem wW.le {V V':View}{v:Value}{a b c:Rat}(h:wW V v a b c)(l:V.Le V'):wW V' v a b c:=by
 obtain ⟨d,e,p,f,g,q,i,j,r,rfl,k,m,n⟩:=h;exact ⟨d,e,p,f,g,q,i,j,r,rfl,k.le l,m.le l,n.le l⟩
end Go.Eng
namespace Go.Proofs.Tryz
open Go.Eng Go.Big
theorem GQ {V:View}{v:Value}{a b c:Rat}(h:wW V v a b c){k:Nat}(s1:Sz k a)(s2:Sz k b)(s3:Sz k c)(hk:k<=1099511627776) :
  ae prog 164 #[v] V fun r V'=>RL V' r a.num b.num c.num:=by
 obtain ⟨w,x,p,y,z,q,A,B,r,rfl,m,n,o⟩:=h;refine xU _ _ _ _ _ _ _ _ _ V _ fun C d=>(eJ (m.le d) s1 hk).mono ?_;rintro r V2 i ⟨D,E,F,rfl,s⟩;refine ⟨_,_,_,_,rfl,fun G e=>(eJ (n.le (d.trans (i.trans e))) s2 hk).mono ?_⟩;rintro r H j ⟨I,J,K,rfl,t⟩;refine ⟨_,_,_,_,rfl,fun L f=>(eJ (o.le (d.trans (i.trans (e.trans (j.trans f))))) s3 hk).mono ?_⟩;rintro r M l ⟨N,O,P,rfl,u⟩;exact ⟨_,_,_,_,rfl,fun Q g=>⟨_,_,_,_,_,_,_,_,_,rfl,s.le (e.trans (j.trans (f.trans (l.trans g)))),t.le (f.trans (l.trans g)),u.le g⟩⟩
def vJ (b1:Bool)(xs:List Nat)(b2:Bool)(ys:List Nat)(b3:Bool)(zs:List Nat):Bool:=
 lJ b1 xs&&lJ b2 ys&&lJ b3 zs&&!(decide ((aW b1 xs:Rat)=0)&&decide ((aW b2 ys:Rat)=0))&&decide (cJ (cJ (aW b1 xs) (aW b2 ys)) (aW b3 zs)=((1:Int):Rat))
theorem rj {V:View}{ok:Bool}{A B C:Rat}(h:ok=false):∃v,Value.tuple #[.agg #[.int .i64 0,.int .i64 0,.pointer none,.int .i64 0,.int .i64 0,.pointer none,.int .i64 0,.int .i64 0,.pointer none],.bool false]=.tuple #[v,.bool ok]/\Py v/\(ok=true->wW V v A B C):=by
 subst h;exact ⟨_,rfl,⟨_,_,_,_,_,_,_,_,_,rfl⟩,fun h=>nomatch h⟩
theorem Kq:Sz 1 ((1:Int):Rat):=by unfold Sz;decide
theorem D7 {V:View}(b1 b2 b3:Bool){p q s:OA}{n c m e i j:Nat}{xs ys zs:List Nat}(hx:RD V p n c xs)(hy:RD V q m e ys)(hz:RD V s i j zs)
  (h1:xs.length<=1099511627776)(h2:ys.length<=1099511627776)(h3:zs.length<=1099511627776){k:Nat}(s1:Sz k (aW b1 xs:Rat))(s2:Sz k (aW b2 ys:Rat))(s3:Sz k (aW b3 zs:Rat))(hk:4*k+4<1099511627776) :
  ae prog 40 #[.agg #[.bool b1,.slice p n c,.bool b2,.slice q m e,.bool b3,.slice s i j]] V fun r V'=>∃v,r=.tuple #[v,.bool (vJ b1 xs b2 ys b3 zs)]/\Py v/\(vJ b1 xs b2 ys b3 zs=true->wW V' v (aW b1 xs) (aW b2 ys) (aW b3 zs)):=by
 refine Dm _ p n c _ q m e _ s i j V _ fun V1 G=>(dM b1 (hx.le G) h1).mono ?_;rintro r V2 J rfl;refine ⟨_,rfl,fun b V3 l3=>rj ?_,fun b V4 K=>(dM b2 (hy.le (G.trans (J.trans K))) h2).mono ?_⟩
 ·have b:lJ b1 xs=false:=by simpa using b
  simp [vJ,b]
 have b:lJ b1 xs=true:=by simpa using b
 rintro r V5 W rfl;refine ⟨_,rfl,fun d V6 l6=>rj ?_,fun d V7 X=>(dM b3 (hz.le (G.trans (J.trans (K.trans (W.trans X))))) h3).mono ?_⟩
 ·have d:lJ b2 ys=false:=by simpa using d
  simp [vJ,d]
 have d:lJ b2 ys=true:=by simpa using d
 rintro r V8 l8 rfl;have Y:=G.trans (J.trans (K.trans (W.trans (X.trans l8))));refine ⟨_,rfl,fun f0 V9 l9=>rj ?_,fun f0 hZ w=>(kH b1 (hx.le (Y.trans w)) h1).mono ?_⟩
 ·have f0:lJ b3 zs=false:=by simpa using f0
  simp [vJ,f0]
 have f0:lJ b3 zs=true:=by simpa using f0
 rintro r gN bL f;obtain ⟨x1,x2,x3,rfl⟩:=f.shape;have Z:=Y.trans (w.trans bL);refine ⟨_,_,_,rfl,fun jg L=>(kH b2 (hy.le (Z.trans L)) h2).mono ?_⟩;rintro r ph cN g;obtain ⟨y1,y2,y3,rfl⟩:=g.shape;have T6:=Z.trans (L.trans cN);refine ⟨_,_,_,rfl,fun lC M=>(kH b3 (hz.le (T6.trans M)) h3).mono ?_⟩;rintro r H dY rc;obtain ⟨z1,z2,z3,rfl⟩:=rc.shape
 replace f:=f.le (L.trans (cN.trans (M.trans dY)))
 replace g:=g.le (M.trans dY)
 have x:vJ b1 xs b2 ys b3 zs=(!(decide ((aW b1 xs:Rat)=0)&&decide ((aW b2 ys:Rat)=0))&&decide (cJ (cJ (aW b1 xs) (aW b2 ys)) (aW b3 zs)=((1:Int):Rat))):=by
  simp only [vJ,b,d,f0,Bool.true_and]
 rw [x];clear x b d f0 hx hy hz;generalize (aW b1 xs:Rat)=A at *;generalize (aW b2 ys:Rat)=B at *;generalize (aW b3 zs:Rat)=C at *;refine ⟨_,_,_,rfl,fun nG I=>(pB (f.le I)).mono ?_⟩;rintro r qH N rfl;refine ⟨_,rfl,fun t0 wY fL=>(pB (g.le (I.trans (N.trans fL)))).mono ?_,fun t0 O P=>?_⟩
 ·rintro r zO gT rfl;refine ⟨_,rfl,fun Q Bl lS=>rj (by rw [t0,Q];rfl),fun Q O P=>?_⟩;have lb:H.Le O:=I.trans (N.trans (fL.trans (gT.trans P)));have R:(decide (A=0)&&decide (B=0))=false:=by rw [Q,Bool.and_false]
  rw [R];refine (fO (f.le lb) (g.le lb) s1 s2 (by omega)).mono ?_;rintro r DL y rg;obtain ⟨g1,g2,g3,rfl⟩:=rg.shape;refine ⟨_,_,_,rfl,fun GA l=>(fO (rg.le l) (rc.le (lb.trans (y.trans l))) (fu s1 s2) s3 (by omega)).mono ?_⟩;rintro r NT S z;obtain ⟨h1,h2,h3,rfl⟩:=z.shape;refine ⟨_,_,_,rfl,fun Pj D=>(iF 1 (by omega) (by omega)).mono ?_⟩;rintro r Sf E F;obtain ⟨i1,i2,i3,rfl⟩:=F.shape;refine ⟨_,_,_,rfl,fun VA o=>(ir (z.le (D.trans (E.trans o))) (F.le o) (fu (fu s1 s2) s3) Kq (by omega)).mono ?_⟩;rintro r T U rfl;have t:H.Le T:=lb.trans (y.trans (l.trans (S.trans (D.trans (E.trans (o.trans U))))));refine ⟨_,rfl,fun a SW LQ=>rj ?_,fun a PC u=>?_⟩
  ·rw [Bool.not_eq_true'] at a;rw [a];rfl
  ·have a:decide (cJ (cJ A B) C=((1:Int):Rat))=true:=by
    cases h:decide (cJ (cJ A B) C=((1:Int):Rat))
    ·rw [h] at a;cases a
    ·rfl
   rw [a];exact ⟨_,rfl,⟨_,_,_,_,_,_,_,_,_,rfl⟩,fun _=>⟨_,_,_,_,_,_,_,_,_,rfl,f.le (t.trans u),g.le (t.trans u),rc.le (t.trans u)⟩⟩
 ·have lb:H.Le O:=I.trans (N.trans P);have R:(decide (A=0)&&decide (B=0))=false:=by rw [t0,Bool.false_and]
  rw [R];refine (fO (f.le lb) (g.le lb) s1 s2 (by omega)).mono ?_;rintro r DL y rg;obtain ⟨g1,g2,g3,rfl⟩:=rg.shape;refine ⟨_,_,_,rfl,fun GA l=>(fO (rg.le l) (rc.le (lb.trans (y.trans l))) (fu s1 s2) s3 (by omega)).mono ?_⟩;rintro r NT S z;obtain ⟨h1,h2,h3,rfl⟩:=z.shape;refine ⟨_,_,_,rfl,fun Pj D=>(iF 1 (by omega) (by omega)).mono ?_⟩;rintro r Sf E F;obtain ⟨i1,i2,i3,rfl⟩:=F.shape;refine ⟨_,_,_,rfl,fun VA o=>(ir (z.le (D.trans (E.trans o))) (F.le o) (fu (fu s1 s2) s3) Kq (by omega)).mono ?_⟩;rintro r T U rfl;have t:H.Le T:=lb.trans (y.trans (l.trans (S.trans (D.trans (E.trans (o.trans U))))));refine ⟨_,rfl,fun a SW LQ=>rj ?_,fun a PC u=>?_⟩
  ·rw [Bool.not_eq_true'] at a;rw [a];rfl
  ·have a:decide (cJ (cJ A B) C=((1:Int):Rat))=true:=by
    cases h:decide (cJ (cJ A B) C=((1:Int):Rat))
    ·rw [h] at a;cases a
    ·rfl
   rw [a];exact ⟨_,rfl,⟨_,_,_,_,_,_,_,_,_,rfl⟩,fun _=>⟨_,_,_,_,_,_,_,_,_,rfl,f.le (t.trans u),g.le (t.trans u),rc.le (t.trans u)⟩⟩
def JI:List Int->Int
 | []=>0
 | x::r=>if x=0 then JI r else x
def Ov (l:List Int):List Value:=l.map fun x=>Value.int .i64 x
theorem OQ {l:List Int}:JI l=0↔∀x∈l,x=0:=by
 induction l with
 | nil=>simp [JI]
 | cons x r ih=>
  simp only [JI,List.mem_cons,forall_eq_or_imp];split
  ·rename_i h;simp [h,ih]
  ·rename_i h;simp [h]
theorem Iv {V:View}{p:OA}{n c:Nat}{l:List Int}(hl:n=l.length)(hs:V.sl p (Ov l))(hm:l.length<=1099511627776) :
  ae prog 175 #[.slice p n c] V fun r V'=>r=.int .i64 (JI l):=by
 refine HO p n c V _ ⟨fun z V'=>0<=z/\z<=n/\JI l=JI (l.drop z.toNat),fun z=>n-z.toNat,⟨0,by (try dsimp only);and_intros<;>first|exact True.intro|rfl,by (try dsimp only);omega,by (try dsimp only);omega,rfl⟩,?_⟩;rintro i m j ⟨e,f,he⟩;dsimp only at f he ⊢;obtain ⟨i,rfl⟩:=Int.eq_ofNat_of_zero_le e;simp only [Int.toNat_natCast] at he;refine ⟨by trivial,fun b=>?_,fun b o q=>?_⟩
 ·have b:i<n:=by simpa using b
  have d:i<l.length:=by omega
  obtain ⟨k,h,g⟩:=(j.sl hs) i (.int .i64 l[i]) (by simp [Ov,d]);rw [List.drop_eq_getElem_cons d,JI] at he;refine ⟨by rw [h];rfl,⟨by omega,by omega⟩,l[i],⟨k.add i,by rw [h];simp [ah],g⟩,fun a V2 s=>?_,fun a=>?_⟩
  ·have a:l[i]≠0:=by simpa using a
   rw [if_neg a] at he;rw [he]
  ·have a:l[i]=0:=by simpa using a
   rw [if_pos a] at he;have w:i64.wrap ((i:Int)+1)=((i+1:Nat):Int):=by rw [aw (by omega)];omega
   simp only [w];refine ⟨((i+1:Nat):Int),?_,by (try dsimp only);and_intros<;>first|exact True.intro|rfl,by (try dsimp only);omega,by (try dsimp only);omega,?_⟩
   ·(try dsimp only);omega
   ·exact he
 ·have b:i=n:=by simp at b;omega
  rw [List.drop_of_length_le (by omega)] at he;rw [he];rfl
theorem yL {V:View}{v w:Value}{a b c a' b' c':Rat}(hx:wW V v a b c)(hy:wW V w a' b' c'){k m:Nat}(s1:Sz k a)(s2:Sz k b)(s3:Sz k c)(t1:Sz m a')(t2:Sz m b')(t3:Sz m c')(hk:k+m<1099511627776) :
  ae prog 125 #[v,w] V fun r V'=>r=.int .i64 (JI [cmpQ a a',cmpQ b b',cmpQ c c']):=by
 obtain ⟨A,B,p,C,D,q,E,F,r,rfl,j,n,o⟩:=hx;obtain ⟨G,H,I,J,K,L,M,N,O,rfl,s,t,u⟩:=hy;refine xV _ _ _ _ _ _ _ _ _ _ _ _ _ _ _ _ _ _ V _ fun P d=>(eI (j.le d) (s.le d) s1 t1 hk).mono ?_;rintro r V2 e rfl;refine ⟨_,rfl,fun Q f=>(eI (n.le (d.trans (e.trans f))) (t.le (d.trans (e.trans f))) s2 t2 hk).mono ?_⟩;rintro r R x rfl;have g:=d.trans (e.trans (f.trans x));refine ⟨_,rfl,fun S h=>(eI (o.le (g.trans h)) (u.le (g.trans h)) s3 t3 hk).mono ?_⟩;rintro r T U rfl;refine ⟨_,rfl,fun W X Y y=>(Iv (l:=[cmpQ a a',cmpQ b b',cmpQ c c']) rfl (fun i v z=>⟨_,rfl,by rw [add_zero'];exact eO (xs:=Ov [cmpQ a a',cmpQ b b',cmpQ c c']) y z⟩) (by simp)).mono ?_⟩;rintro r Z l8 rfl;exact ⟨_,rfl,fun _ V9 l9=>rfl⟩
theorem BL {V:View}{v w:Value}{a b c a' b' c':Rat}(hx:wW V v a b c)(hy:wW V w a' b' c'){k m:Nat}(s1:Sz k a)(s2:Sz k b)(s3:Sz k c)(t1:Sz m a')(t2:Sz m b')(t3:Sz m c')(hk:k+m<1099511627776) :
  ae prog 126 #[v,w] V fun r V'=>r=.bool (decide (a=a'/\b=b'/\c=c')):=by
 have d:=hx;have e:=hy;obtain ⟨g,h,p,i,j,q,l,n,r,rfl,-,-,-⟩:=hx;obtain ⟨o,s,t,u,x,y,z,A,B,rfl,-,-,-⟩:=hy;refine tE _ _ _ _ _ _ _ _ _ _ _ _ _ _ _ _ _ _ V _ fun C f=>(yL (d.le f) (e.le f) s1 s2 s3 t1 t2 t3 hk).mono ?_;rintro r V2 D rfl;refine ⟨_,rfl,fun E F=>?_⟩;congr 1;rw [Bool.eq_iff_iff,decide_eq_true_eq,beq_iff_eq,OQ];simp [←kQ]
def jS (V:View)(v:Value)(x y:Rat):Prop:=∃(x1 x2:Int)(p:OA)(y1 y2:Int)(q:OA),v=.agg #[.int .i64 x1,.int .i64 x2,.pointer p,.int .i64 y1,.int .i64 y2,.pointer q] /\
 RR V (.agg #[.int .i64 x1,.int .i64 x2,.pointer p]) x/\RR V (.agg #[.int .i64 y1,.int .i64 y2,.pointer q]) y
theorem jS.le {V V':View}{v:Value}{x y:Rat}(h:jS V v x y)(l:V.Le V'):jS V' v x y:=by
 obtain ⟨a,b,p,c,d,q,e,f,g⟩:=h;exact ⟨a,b,p,c,d,q,e,f.le l,g.le l⟩
theorem Aa {V:View}{p:Value}{fp fq:Rat}{q:Value}{sv sw:Rat}(hp:jS V p fp fq)(hq:jS V q sv sw){k:Nat}(dF:Sz k fp)(dm:Sz k fq)(nD:Sz k sv)(nE:Sz k sw)(hk:2*k+1<274877906944) :
  ae prog 219 #[p,q] V fun r V'=>jS V' r ((fp)+(sv)) ((fq)+(sw)):=by
 have i:=hp;obtain ⟨j,l,m,n,o,s,rfl,t,u⟩:=hp;have v:=hq;obtain ⟨w,x,y,z,A,B,rfl,C,D⟩:=hq;refine xZ j l m n o s w x y z A B V _ fun F a=>(pz (t.le (a)) (C.le (a)) dF nD (by omega)).mono ?_;rintro r V2 e f;have b:=f;obtain ⟨G,H,I,rfl⟩:=f.shape;refine ⟨_,_,_,rfl,fun J c=>(pz (u.le (a.trans (e.trans (c)))) (D.le (a.trans (e.trans (c)))) dm nE (by omega)).mono ?_⟩;rintro r K E g;have d:=g;obtain ⟨L,M,N,rfl⟩:=g.shape;exact ⟨_,_,_,rfl,fun O h=>⟨_,_,_,_,_,_,rfl,(b.le (c.trans (E.trans (h)))),(d.le (h))⟩⟩
theorem wU {fp fq sv sw:Rat}{k:Nat}(dF:Sz k fp)(dm:Sz k fq)(nD:Sz k sv)(nE:Sz k sw):Sz (2*k+1) ((fp)+(sv)):=by
 have a:=Sz.mono (m:=2*k+1) (Sz.add dF nD) (by omega);exact Sz.mono a (by omega)
theorem wV {fp fq sv sw:Rat}{k:Nat}(dF:Sz k fp)(dm:Sz k fq)(nD:Sz k sv)(nE:Sz k sw):Sz (2*k+1) ((fq)+(sw)):=by
 have a:=Sz.mono (m:=2*k+1) (Sz.add dm nE) (by omega);exact Sz.mono a (by omega)
theorem Ab {V:View}{p:Value}{fp fq:Rat}{q:Value}{sv sw:Rat}(hp:jS V p fp fq)(hq:jS V q sv sw){k:Nat}(dF:Sz k fp)(dm:Sz k fq)(nD:Sz k sv)(nE:Sz k sw)(hk:2*k+1<274877906944) :
  ae prog 216 #[p,q] V fun r V'=>jS V' r ((fp)-(sv)) ((fq)-(sw)):=by
 have i:=hp;obtain ⟨j,l,m,n,o,s,rfl,t,u⟩:=hp;have v:=hq;obtain ⟨w,x,y,z,A,B,rfl,C,D⟩:=hq;refine ya j l m n o s w x y z A B V _ fun F a=>(zZ (t.le (a)) (C.le (a)) dF nD (by omega)).mono ?_;rintro r V2 e f;have b:=f;obtain ⟨G,H,I,rfl⟩:=f.shape;refine ⟨_,_,_,rfl,fun J c=>(zZ (u.le (a.trans (e.trans (c)))) (D.le (a.trans (e.trans (c)))) dm nE (by omega)).mono ?_⟩;rintro r K E g;have d:=g;obtain ⟨L,M,N,rfl⟩:=g.shape;exact ⟨_,_,_,rfl,fun O h=>⟨_,_,_,_,_,_,rfl,(b.le (c.trans (E.trans (h)))),(d.le (h))⟩⟩
theorem lZ {V:View}{p:Value}{fp fq:Rat}{c:Value}{KK:Rat}(hp:jS V p fp fq)(hc:RR V c KK){k:Nat}(dF:Sz k fp)(dm:Sz k fq)(HC:Sz k KK)(hk:2*k+1<274877906944) :
  ae prog 200 #[p,c] V fun r V'=>jS V' r ((fp)*(KK)) ((fq)*(KK)):=by
 have l:=hp;obtain ⟨m,n,o,q,s,t,rfl,u,v⟩:=hp;have a:=hc;obtain ⟨w,x,y,rfl⟩:=hc.shape;refine tI m n o q s t w x y V _ fun A b=>(ji (u.le (b)) (a.le (b)) dF HC (by omega)).mono ?_;rintro r V2 g h;have d:=h;obtain ⟨B,C,D,rfl⟩:=h.shape;refine ⟨_,_,_,rfl,fun E e=>(ji (v.le (b.trans (g.trans (e)))) (a.le (b.trans (g.trans (e)))) dm HC (by omega)).mono ?_⟩;rintro r F z i;have f:=i;obtain ⟨G,H,I,rfl⟩:=i.shape;exact ⟨_,_,_,rfl,fun J j=>⟨_,_,_,_,_,_,rfl,(d.le (e.trans (z.trans (j)))),(f.le (j))⟩⟩
theorem dV {fp fq KK:Rat}{k:Nat}(dF:Sz k fp)(dm:Sz k fq)(HC:Sz k KK):Sz (2*k+1) ((fp)*(KK)):=by
 have a:=Sz.mono (m:=2*k+1) (Sz.mul dF HC) (by omega);exact Sz.mono a (by omega)
theorem dW {fp fq KK:Rat}{k:Nat}(dF:Sz k fp)(dm:Sz k fq)(HC:Sz k KK):Sz (2*k+1) ((fq)*(KK)):=by
 have a:=Sz.mono (m:=2*k+1) (Sz.mul dm HC) (by omega);exact Sz.mono a (by omega)
theorem xm {V:View}{p:Value}{fp fq:Rat}(hp:jS V p fp fq){k:Nat}(dF:Sz k fp)(dm:Sz k fq)(hk:1*k+1<274877906944) :
  ae prog 217 #[p] V fun r V'=>jS V' r (-(fq)) (fp):=by
 have e:=hp;obtain ⟨f,g,h,i,j,l,rfl,m,n⟩:=hp;refine wC f g h i j l V _ fun q b=>(gg (n.le (b)) dm (by omega)).mono ?_;rintro r V2 o c;have a:=c;obtain ⟨s,t,u,rfl⟩:=c.shape;exact ⟨_,_,_,rfl,fun v d=>⟨_,_,_,_,_,_,rfl,(a.le (d)),(m.le (b.trans (o.trans (d))))⟩⟩
theorem dL {V:View}{p:Value}{fp fq:Rat}{q:Value}{sv sw:Rat}(hp:jS V p fp fq)(hq:jS V q sv sw){k:Nat}(dF:Sz k fp)(dm:Sz k fq)(nD:Sz k sv)(nE:Sz k sw)(hk:4*k+3<274877906944) :
  ae prog 156 #[p,q] V fun r V'=>RR V' r (((fp)*(sv))+((fq)*(sw))):=by
 have j:=hp;obtain ⟨l,n,o,s,t,u,rfl,v,w⟩:=hp;have x:=hq;obtain ⟨y,z,A,B,C,D,rfl,E,F⟩:=hq;refine x_ l n o s t u y z A B C D V _ fun L a=>(ji (v.le (a)) (E.le (a)) dF nD (by omega)).mono ?_;rintro r V2 e f;have b:=f;obtain ⟨M,N,O,rfl⟩:=f.shape;have G:=Sz.mono (m:=2*k+1) (Sz.mul dF nD) (by omega);refine ⟨_,_,_,rfl,fun P c=>(ji (w.le (a.trans (e.trans (c)))) (F.le (a.trans (e.trans (c)))) dm nE (by omega)).mono ?_⟩;rintro r Q H g;have d:=g;obtain ⟨R,S,T,rfl⟩:=g.shape;have I:=Sz.mono (m:=2*k+1) (Sz.mul dm nE) (by omega);refine ⟨_,_,_,rfl,fun U h=>(pz (b.le (c.trans (H.trans (h)))) (d.le (h)) G I (by omega)).mono ?_⟩;rintro r W X i;have J:=i;obtain ⟨Y,Z,Pa,rfl⟩:=i.shape;exact ⟨_,_,_,rfl,fun V7 K=>(J.le (K))⟩
theorem bA {fp fq sv sw:Rat}{k:Nat}(dF:Sz k fp)(dm:Sz k fq)(nD:Sz k sv)(nE:Sz k sw):Sz (4*k+3) (((fp)*(sv))+((fq)*(sw))):=by
 have a:=Sz.mono (m:=2*k+1) (Sz.mul dF nD) (by omega);have b:=Sz.mono (m:=2*k+1) (Sz.mul dm nE) (by omega);have c:=Sz.mono (m:=4*k+3) (Sz.add a b) (by omega);exact Sz.mono c (by omega)
theorem kI {V:View}{l:Value}{cq l_1 eA:Rat}(hl:wW V l cq l_1 eA){k:Nat}(bF:Sz k cq)(bI:Sz k l_1)(bG:Sz k eA)(hk:1*k+1<274877906944) :
  ae prog 157 #[l] V fun r V'=>jS V' r (l_1) (-(cq)):=by
 have f:=hl;obtain ⟨g,a,c,b,h,i,j,m,n,rfl,o,p,q⟩:=hl;refine xX g a c b h i j m n V _ fun s a=>(gg (o.le (a)) bF (by omega)).mono ?_;rintro r V2 c e;have d:=e;obtain ⟨t,u,v,rfl⟩:=e.shape;exact ⟨_,_,_,rfl,fun w b=>⟨_,_,_,_,_,_,rfl,(p.le (a.trans (c.trans (b)))),(d.le (b))⟩⟩
theorem dG {cq l_1 eA:Rat}{k:Nat}(bF:Sz k cq)(bI:Sz k l_1)(bG:Sz k eA):Sz (1*k+0) (l_1):=by
 exact Sz.mono bI (by omega)
theorem dH {cq l_1 eA:Rat}{k:Nat}(bF:Sz k cq)(bI:Sz k l_1)(bG:Sz k eA):Sz (1*k+0) (-(cq)):=by
 have a:=Sz.mono (m:=1*k+0) (Sz.neg bF) (by omega);exact Sz.mono a (by omega)
theorem gQ {V:View}{l:Value}{cq l_1 eA:Rat}(hl:wW V l cq l_1 eA){k:Nat}(bF:Sz k cq)(bI:Sz k l_1)(bG:Sz k eA)(hk:1*k+1<274877906944) :
  ae prog 155 #[l] V fun r V'=>jS V' r (cq) (l_1):=by
 have b:=hl;obtain ⟨c,a,d,e,f,g,h,i,j,rfl,m,n,o⟩:=hl;exact rI c a d e f g h i j V _ fun p a=>⟨_,_,_,_,_,_,rfl,(m.le (a)),(n.le (a))⟩
theorem cF {cq l_1 eA:Rat}{k:Nat}(bF:Sz k cq)(bI:Sz k l_1)(bG:Sz k eA):Sz (1*k+0) (cq):=by
 exact Sz.mono bF (by omega)
theorem cG {cq l_1 eA:Rat}{k:Nat}(bF:Sz k cq)(bI:Sz k l_1)(bG:Sz k eA):Sz (1*k+0) (l_1):=by
 exact Sz.mono bI (by omega)
theorem qP {V:View}{l:Value}{cq l_1 eA:Rat}(hl:wW V l cq l_1 eA){k:Nat}(bF:Sz k cq)(bI:Sz k l_1)(bG:Sz k eA)(hk:1*k+1<274877906944) :
  ae prog 93 #[l] V fun r V'=>wW V' r (-(cq)) (-(l_1)) (-(eA)):=by
 have o:=hl;obtain ⟨p,a,e,b,f,c,g,d,q,rfl,s,t,u⟩:=hl;refine qA p a e b f c g d q V _ fun w a=>(gg (s.le (a)) bF (by omega)).mono ?_;rintro r V2 e j;have h:=j;obtain ⟨x,y,z,rfl⟩:=j.shape;refine ⟨_,_,_,rfl,fun A b=>(gg (t.le (a.trans (e.trans (b)))) bI (by omega)).mono ?_⟩;rintro r B f m;have i:=m;obtain ⟨C,D,E,rfl⟩:=m.shape;refine ⟨_,_,_,rfl,fun F c=>(gg (u.le (a.trans (e.trans (b.trans (f.trans (c)))))) bG (by omega)).mono ?_⟩;rintro r G g n;have v:=n;obtain ⟨H,I,J,rfl⟩:=n.shape;exact ⟨_,_,_,rfl,fun K d=>⟨_,_,_,_,_,_,_,_,_,rfl,(h.le (b.trans (f.trans (c.trans (g.trans (d)))))),(i.le (c.trans (g.trans (d)))),(v.le (d))⟩⟩
theorem lY {V:View}{l:Value}{cq l_1 eA:Rat}{p:Value}{fp fq:Rat}(hl:wW V l cq l_1 eA)(hp:jS V p fp fq){k:Nat}(bF:Sz k cq)(bI:Sz k l_1)(bG:Sz k eA)(dF:Sz k fp)(dm:Sz k fq)(hk:5*k+4<274877906944) :
  ae prog 158 #[l,p] V fun r V'=>RR V' r ((((cq)*(fp))+((l_1)*(fq)))+(eA)):=by
 have e:=hl;obtain ⟨v,a,c,b,f,d,n,g,w,rfl,G,H,x⟩:=hl;have h:=hp;obtain ⟨y,z,A,B,C,D,rfl,I,J⟩:=hp;refine tG v a c b f d n g w y z A B C D V _ fun K a=>(gQ (e.le (a)) (Sz.mono bF (by omega):Sz (1*k+0) _) (Sz.mono bI (by omega):Sz (1*k+0) _) (Sz.mono bG (by omega):Sz (1*k+0) _) (by omega)).mono ?_;rintro r V2 c o;have i:=o;obtain ⟨L,M,N,O,P,Q,rfl,R,S⟩:=o;have q:=Sz.mono (m:=1*k+0) ((cF (Sz.mono bF (by omega):Sz (1*k+0) _) (Sz.mono bI (by omega):Sz (1*k+0) _) (Sz.mono bG (by omega):Sz (1*k+0) _))) (by omega);have s:=Sz.mono (m:=1*k+0) ((cG (Sz.mono bF (by omega):Sz (1*k+0) _) (Sz.mono bI (by omega):Sz (1*k+0) _) (Sz.mono bG (by omega):Sz (1*k+0) _))) (by omega);refine ⟨_,_,_,_,_,_,rfl,fun T b=>(dL (i.le (b)) (h.le (a.trans (c.trans (b)))) (Sz.mono q (by omega):Sz (1*k+0) _) (Sz.mono s (by omega):Sz (1*k+0) _) (Sz.mono dF (by omega):Sz (1*k+0) _) (Sz.mono dm (by omega):Sz (1*k+0) _) (by omega)).mono ?_⟩;rintro r U f t;have j:=t;obtain ⟨W,X,Y,rfl⟩:=t.shape;have E:=Sz.mono (m:=4*k+3) ((bA (Sz.mono q (by omega):Sz (1*k+0) _) (Sz.mono s (by omega):Sz (1*k+0) _) (Sz.mono dF (by omega):Sz (1*k+0) _) (Sz.mono dm (by omega):Sz (1*k+0) _))) (by omega);refine ⟨_,_,_,rfl,fun Z d=>(pz (j.le (d)) (x.le (a.trans (c.trans (b.trans (f.trans (d)))))) E bG (by omega)).mono ?_⟩;rintro r V6 n u;have F:=u;obtain ⟨O9,O_,Pa,rfl⟩:=u.shape;exact ⟨_,_,_,rfl,fun V7 g=>(F.le (g))⟩
theorem kz {cq l_1 eA fp fq:Rat}{k:Nat}(bF:Sz k cq)(bI:Sz k l_1)(bG:Sz k eA)(dF:Sz k fp)(dm:Sz k fq):Sz (5*k+4) ((((cq)*(fp))+((l_1)*(fq)))+(eA)):=by
 have a:=Sz.mono (m:=1*k+0) ((cF (Sz.mono bF (by omega):Sz (1*k+0) _) (Sz.mono bI (by omega):Sz (1*k+0) _) (Sz.mono bG (by omega):Sz (1*k+0) _))) (by omega);have b:=Sz.mono (m:=1*k+0) ((cG (Sz.mono bF (by omega):Sz (1*k+0) _) (Sz.mono bI (by omega):Sz (1*k+0) _) (Sz.mono bG (by omega):Sz (1*k+0) _))) (by omega);have c:=Sz.mono (m:=4*k+3) ((bA (Sz.mono a (by omega):Sz (1*k+0) _) (Sz.mono b (by omega):Sz (1*k+0) _) (Sz.mono dF (by omega):Sz (1*k+0) _) (Sz.mono dm (by omega):Sz (1*k+0) _))) (by omega);have d:=Sz.mono (m:=5*k+4) (Sz.add c bG) (by omega);exact Sz.mono d (by omega)
theorem nJ {V:View}{l:Value}{cq l_1 eA:Rat}(hl:wW V l cq l_1 eA){k:Nat}(bF:Sz k cq)(bI:Sz k l_1)(bG:Sz k eA)(hk:10*k+9<274877906944) :
  ae prog 159 #[l] V fun r V'=>jS V' r ((cq)*(((-(eA))*(((cq)*(cq))+((l_1)*(l_1)))⁻¹))) ((l_1)*(((-(eA))*(((cq)*(cq))+((l_1)*(l_1)))⁻¹))):=by
 have j:=hl;obtain ⟨A,h,n,b,d,c,i,e,o,rfl,O,P,B⟩:=hl;refine wA A h n b d c i e o V _ fun Q h=>(gQ (j.le (h)) (Sz.mono bF (by omega):Sz (1*k+0) _) (Sz.mono bI (by omega):Sz (1*k+0) _) (Sz.mono bG (by omega):Sz (1*k+0) _) (by omega)).mono ?_;rintro r V2 n q;have a:=q;obtain ⟨R,S,T,U,W,X,rfl,Y,Z⟩:=q;have f:=Sz.mono (m:=1*k+0) ((cF (Sz.mono bF (by omega):Sz (1*k+0) _) (Sz.mono bI (by omega):Sz (1*k+0) _) (Sz.mono bG (by omega):Sz (1*k+0) _))) (by omega);have g:=Sz.mono (m:=1*k+0) ((cG (Sz.mono bF (by omega):Sz (1*k+0) _) (Sz.mono bI (by omega):Sz (1*k+0) _) (Sz.mono bG (by omega):Sz (1*k+0) _))) (by omega);refine ⟨_,_,_,_,_,_,rfl,fun V3 b=>(gg (B.le (h.trans (n.trans (b)))) bG (by omega)).mono ?_⟩;rintro r V4 d s;have p:=s;obtain ⟨KV,KW,KX,rfl⟩:=s.shape;have t:=Sz.mono (m:=1*k+0) (Sz.neg bG) (by omega);refine ⟨_,_,_,rfl,fun V5 c=>(dL (a.le (b.trans (d.trans (c)))) (a.le (b.trans (d.trans (c)))) (Sz.mono f (by omega):Sz (1*k+0) _) (Sz.mono g (by omega):Sz (1*k+0) _) (Sz.mono f (by omega):Sz (1*k+0) _) (Sz.mono g (by omega):Sz (1*k+0) _) (by omega)).mono ?_⟩;rintro r V6 i u;have C:=u;obtain ⟨O9,O_,Pa,rfl⟩:=u.shape;have v:=Sz.mono (m:=4*k+3) ((bA (Sz.mono f (by omega):Sz (1*k+0) _) (Sz.mono g (by omega):Sz (1*k+0) _) (Sz.mono f (by omega):Sz (1*k+0) _) (Sz.mono g (by omega):Sz (1*k+0) _))) (by omega);refine ⟨_,_,_,rfl,fun V7 e=>(tX (p.le (c.trans (i.trans (e)))) (C.le (e)) t v (by omega)).mono ?_⟩;rintro r V8 o w;have D:=w;obtain ⟨XB,XC,XD,rfl⟩:=w.shape;have E:=Sz.mono (m:=5*k+4) (Sz.mul t (jL v)) (by omega);refine ⟨_,_,_,rfl,fun V9 x=>(lZ (a.le (b.trans (d.trans (c.trans (i.trans (e.trans (o.trans (x)))))))) (D.le (x)) (Sz.mono f (by omega):Sz (5*k+4) _) (Sz.mono g (by omega):Sz (5*k+4) _) (Sz.mono E (by omega):Sz (5*k+4) _) (by omega)).mono ?_⟩;rintro r hZ F y;have DM:=y;obtain ⟨G,H,I,J,K,L,rfl,M,N⟩:=y;exact ⟨_,_,_,_,_,_,rfl,fun gN z=>⟨_,_,_,_,_,_,rfl,(M.le (z)),(N.le (z))⟩⟩
theorem df {cq l_1 eA:Rat}{k:Nat}(bF:Sz k cq)(bI:Sz k l_1)(bG:Sz k eA):Sz (10*k+9) ((cq)*(((-(eA))*(((cq)*(cq))+((l_1)*(l_1)))⁻¹))):=by
 have a:=Sz.mono (m:=1*k+0) ((cF (Sz.mono bF (by omega):Sz (1*k+0) _) (Sz.mono bI (by omega):Sz (1*k+0) _) (Sz.mono bG (by omega):Sz (1*k+0) _))) (by omega);have b:=Sz.mono (m:=1*k+0) ((cG (Sz.mono bF (by omega):Sz (1*k+0) _) (Sz.mono bI (by omega):Sz (1*k+0) _) (Sz.mono bG (by omega):Sz (1*k+0) _))) (by omega);have c:=Sz.mono (m:=1*k+0) (Sz.neg bG) (by omega);have d:=Sz.mono (m:=4*k+3) ((bA (Sz.mono a (by omega):Sz (1*k+0) _) (Sz.mono b (by omega):Sz (1*k+0) _) (Sz.mono a (by omega):Sz (1*k+0) _) (Sz.mono b (by omega):Sz (1*k+0) _))) (by omega);have e:=Sz.mono (m:=5*k+4) (Sz.mul c (jL d)) (by omega);have f:=Sz.mono (m:=10*k+9) ((dV (Sz.mono a (by omega):Sz (5*k+4) _) (Sz.mono b (by omega):Sz (5*k+4) _) (Sz.mono e (by omega):Sz (5*k+4) _))) (by omega);exact Sz.mono f (by omega)
theorem dg {cq l_1 eA:Rat}{k:Nat}(bF:Sz k cq)(bI:Sz k l_1)(bG:Sz k eA):Sz (10*k+9) ((l_1)*(((-(eA))*(((cq)*(cq))+((l_1)*(l_1)))⁻¹))):=by
 have a:=Sz.mono (m:=1*k+0) ((cF (Sz.mono bF (by omega):Sz (1*k+0) _) (Sz.mono bI (by omega):Sz (1*k+0) _) (Sz.mono bG (by omega):Sz (1*k+0) _))) (by omega);have b:=Sz.mono (m:=1*k+0) ((cG (Sz.mono bF (by omega):Sz (1*k+0) _) (Sz.mono bI (by omega):Sz (1*k+0) _) (Sz.mono bG (by omega):Sz (1*k+0) _))) (by omega);have c:=Sz.mono (m:=1*k+0) (Sz.neg bG) (by omega);have d:=Sz.mono (m:=4*k+3) ((bA (Sz.mono a (by omega):Sz (1*k+0) _) (Sz.mono b (by omega):Sz (1*k+0) _) (Sz.mono a (by omega):Sz (1*k+0) _) (Sz.mono b (by omega):Sz (1*k+0) _))) (by omega);have e:=Sz.mono (m:=5*k+4) (Sz.mul c (jL d)) (by omega);have f:=Sz.mono (m:=10*k+9) ((dW (Sz.mono a (by omega):Sz (5*k+4) _) (Sz.mono b (by omega):Sz (5*k+4) _) (Sz.mono e (by omega):Sz (5*k+4) _))) (by omega);exact Sz.mono f (by omega)
theorem BM {V:View}{l:Value}{cq l_1 eA:Rat}{t:Value}{KU:Rat}(hl:wW V l cq l_1 eA)(ht:RR V t KU){k:Nat}(bF:Sz k cq)(bI:Sz k l_1)(bG:Sz k eA)(AV:Sz k KU)(hk:20*k+19<274877906944) :
  ae prog 172 #[l,t] V fun r V'=>jS V' r ((((cq)*(((-(eA))*(((cq)*(cq))+((l_1)*(l_1)))⁻¹))))+(((l_1)*(KU)))) ((((l_1)*(((-(eA))*(((cq)*(cq))+((l_1)*(l_1)))⁻¹))))+((((-(cq)))*(KU)))):=by
 have a:=hl;obtain ⟨y,b,e,c,f,d,h,g,q,rfl,Z,te,vh⟩:=hl;have i:=ht;obtain ⟨t0,t1,t2,rfl⟩:=ht.shape;refine A3 y b e c f d h g q t0 t1 t2 V _ fun V1 b=>(nJ (a.le (b)) (Sz.mono bF (by omega):Sz (1*k+0) _) (Sz.mono bI (by omega):Sz (1*k+0) _) (Sz.mono bG (by omega):Sz (1*k+0) _) (by omega)).mono ?_;rintro r V2 e s;have j:=s;obtain ⟨MH,MI,MJ,MK,ML,MM,rfl,Lw,Lx⟩:=s;have z:=Sz.mono (m:=10*k+9) ((df (Sz.mono bF (by omega):Sz (1*k+0) _) (Sz.mono bI (by omega):Sz (1*k+0) _) (Sz.mono bG (by omega):Sz (1*k+0) _))) (by omega);have A:=Sz.mono (m:=10*k+9) ((dg (Sz.mono bF (by omega):Sz (1*k+0) _) (Sz.mono bI (by omega):Sz (1*k+0) _) (Sz.mono bG (by omega):Sz (1*k+0) _))) (by omega);refine ⟨_,_,_,_,_,_,rfl,fun V3 c=>(kI (a.le (b.trans (e.trans (c)))) (Sz.mono bF (by omega):Sz (1*k+0) _) (Sz.mono bI (by omega):Sz (1*k+0) _) (Sz.mono bG (by omega):Sz (1*k+0) _) (by omega)).mono ?_⟩;rintro r V4 f u;have n:=u;obtain ⟨B,C,D,E,F,G,rfl,YG,YH⟩:=u;have o:=Sz.mono (m:=1*k+0) ((dG (Sz.mono bF (by omega):Sz (1*k+0) _) (Sz.mono bI (by omega):Sz (1*k+0) _) (Sz.mono bG (by omega):Sz (1*k+0) _))) (by omega);have p:=Sz.mono (m:=1*k+0) ((dH (Sz.mono bF (by omega):Sz (1*k+0) _) (Sz.mono bI (by omega):Sz (1*k+0) _) (Sz.mono bG (by omega):Sz (1*k+0) _))) (by omega);refine ⟨_,_,_,_,_,_,rfl,fun V5 d=>(lZ (n.le (d)) (i.le (b.trans (e.trans (c.trans (f.trans (d)))))) (Sz.mono o (by omega):Sz (1*k+0) _) (Sz.mono p (by omega):Sz (1*k+0) _) (Sz.mono AV (by omega):Sz (1*k+0) _) (by omega)).mono ?_⟩;rintro r V6 h v;have H:=v;obtain ⟨I,J,K,L,M,N,rfl,YI,YJ⟩:=v;have O:=Sz.mono (m:=2*k+1) ((dV (Sz.mono o (by omega):Sz (1*k+0) _) (Sz.mono p (by omega):Sz (1*k+0) _) (Sz.mono AV (by omega):Sz (1*k+0) _))) (by omega);have P:=Sz.mono (m:=2*k+1) ((dW (Sz.mono o (by omega):Sz (1*k+0) _) (Sz.mono p (by omega):Sz (1*k+0) _) (Sz.mono AV (by omega):Sz (1*k+0) _))) (by omega);refine ⟨_,_,_,_,_,_,rfl,fun V7 g=>(Aa (j.le (c.trans (f.trans (d.trans (h.trans (g)))))) (H.le (g)) (Sz.mono z (by omega):Sz (10*k+9) _) (Sz.mono A (by omega):Sz (10*k+9) _) (Sz.mono O (by omega):Sz (10*k+9) _) (Sz.mono P (by omega):Sz (10*k+9) _) (by omega)).mono ?_⟩;rintro r V8 q w;have KN:=w;obtain ⟨Q,R,S,T,U,W,rfl,X,Y⟩:=w;exact ⟨_,_,_,_,_,_,rfl,fun V9 x=>⟨_,_,_,_,_,_,rfl,(X.le (x)),(Y.le (x))⟩⟩
theorem yp {cq l_1 eA KU:Rat}{k:Nat}(bF:Sz k cq)(bI:Sz k l_1)(bG:Sz k eA)(AV:Sz k KU):Sz (20*k+19) ((((cq)*(((-(eA))*(((cq)*(cq))+((l_1)*(l_1)))⁻¹))))+(((l_1)*(KU)))):=by
 have c:=Sz.mono (m:=10*k+9) ((df (Sz.mono bF (by omega):Sz (1*k+0) _) (Sz.mono bI (by omega):Sz (1*k+0) _) (Sz.mono bG (by omega):Sz (1*k+0) _))) (by omega);have d:=Sz.mono (m:=10*k+9) ((dg (Sz.mono bF (by omega):Sz (1*k+0) _) (Sz.mono bI (by omega):Sz (1*k+0) _) (Sz.mono bG (by omega):Sz (1*k+0) _))) (by omega);have a:=Sz.mono (m:=1*k+0) ((dG (Sz.mono bF (by omega):Sz (1*k+0) _) (Sz.mono bI (by omega):Sz (1*k+0) _) (Sz.mono bG (by omega):Sz (1*k+0) _))) (by omega);have b:=Sz.mono (m:=1*k+0) ((dH (Sz.mono bF (by omega):Sz (1*k+0) _) (Sz.mono bI (by omega):Sz (1*k+0) _) (Sz.mono bG (by omega):Sz (1*k+0) _))) (by omega);have e:=Sz.mono (m:=2*k+1) ((dV (Sz.mono a (by omega):Sz (1*k+0) _) (Sz.mono b (by omega):Sz (1*k+0) _) (Sz.mono AV (by omega):Sz (1*k+0) _))) (by omega);have f:=Sz.mono (m:=2*k+1) ((dW (Sz.mono a (by omega):Sz (1*k+0) _) (Sz.mono b (by omega):Sz (1*k+0) _) (Sz.mono AV (by omega):Sz (1*k+0) _))) (by omega);have g:=Sz.mono (m:=20*k+19) ((wU (Sz.mono c (by omega):Sz (10*k+9) _) (Sz.mono d (by omega):Sz (10*k+9) _) (Sz.mono e (by omega):Sz (10*k+9) _) (Sz.mono f (by omega):Sz (10*k+9) _))) (by omega);exact Sz.mono g (by omega)
theorem yq {cq l_1 eA KU:Rat}{k:Nat}(bF:Sz k cq)(bI:Sz k l_1)(bG:Sz k eA)(AV:Sz k KU):Sz (20*k+19) ((((l_1)*(((-(eA))*(((cq)*(cq))+((l_1)*(l_1)))⁻¹))))+((((-(cq)))*(KU)))):=by
 have c:=Sz.mono (m:=10*k+9) ((df (Sz.mono bF (by omega):Sz (1*k+0) _) (Sz.mono bI (by omega):Sz (1*k+0) _) (Sz.mono bG (by omega):Sz (1*k+0) _))) (by omega);have d:=Sz.mono (m:=10*k+9) ((dg (Sz.mono bF (by omega):Sz (1*k+0) _) (Sz.mono bI (by omega):Sz (1*k+0) _) (Sz.mono bG (by omega):Sz (1*k+0) _))) (by omega);have a:=Sz.mono (m:=1*k+0) ((dG (Sz.mono bF (by omega):Sz (1*k+0) _) (Sz.mono bI (by omega):Sz (1*k+0) _) (Sz.mono bG (by omega):Sz (1*k+0) _))) (by omega);have b:=Sz.mono (m:=1*k+0) ((dH (Sz.mono bF (by omega):Sz (1*k+0) _) (Sz.mono bI (by omega):Sz (1*k+0) _) (Sz.mono bG (by omega):Sz (1*k+0) _))) (by omega);have e:=Sz.mono (m:=2*k+1) ((dV (Sz.mono a (by omega):Sz (1*k+0) _) (Sz.mono b (by omega):Sz (1*k+0) _) (Sz.mono AV (by omega):Sz (1*k+0) _))) (by omega);have f:=Sz.mono (m:=2*k+1) ((dW (Sz.mono a (by omega):Sz (1*k+0) _) (Sz.mono b (by omega):Sz (1*k+0) _) (Sz.mono AV (by omega):Sz (1*k+0) _))) (by omega);have g:=Sz.mono (m:=20*k+19) ((wV (Sz.mono c (by omega):Sz (10*k+9) _) (Sz.mono d (by omega):Sz (10*k+9) _) (Sz.mono e (by omega):Sz (10*k+9) _) (Sz.mono f (by omega):Sz (10*k+9) _))) (by omega);exact Sz.mono g (by omega)
theorem uH {V:View}{l:Value}{cq l_1 eA:Rat}{p:Value}{fp fq:Rat}(hl:wW V l cq l_1 eA)(hp:jS V p fp fq){k:Nat}(bF:Sz k cq)(bI:Sz k l_1)(bG:Sz k eA)(dF:Sz k fp)(dm:Sz k fq)(hk:8*k+7<274877906944) :
  ae prog 107 #[l,p] V fun r V'=>RR V' r ((((l_1)*(fp))+(((-(cq)))*(fq)))*(((l_1)*(l_1))+(((-(cq)))*((-(cq)))))⁻¹):=by
 have i:=hl;obtain ⟨x,f,j,b,g,e,n,h,s,rfl,J,K,L⟩:=hl;have o:=hp;obtain ⟨y,z,A,B,C,D,rfl,M,N⟩:=hp;refine tF x f j b g e n h s y z A B C D V _ fun O f=>(kI (i.le (f)) (Sz.mono bF (by omega):Sz (1*k+0) _) (Sz.mono bI (by omega):Sz (1*k+0) _) (Sz.mono bG (by omega):Sz (1*k+0) _) (by omega)).mono ?_;rintro r V2 j t;have a:=t;obtain ⟨P,Q,R,S,T,U,rfl,W,X⟩:=t;have c:=Sz.mono (m:=1*k+0) ((dG (Sz.mono bF (by omega):Sz (1*k+0) _) (Sz.mono bI (by omega):Sz (1*k+0) _) (Sz.mono bG (by omega):Sz (1*k+0) _))) (by omega);have d:=Sz.mono (m:=1*k+0) ((dH (Sz.mono bF (by omega):Sz (1*k+0) _) (Sz.mono bI (by omega):Sz (1*k+0) _) (Sz.mono bG (by omega):Sz (1*k+0) _))) (by omega);refine ⟨_,_,_,_,_,_,rfl,fun Y b=>(dL (a.le (b)) (o.le (f.trans (j.trans (b)))) (Sz.mono c (by omega):Sz (1*k+0) _) (Sz.mono d (by omega):Sz (1*k+0) _) (Sz.mono dF (by omega):Sz (1*k+0) _) (Sz.mono dm (by omega):Sz (1*k+0) _) (by omega)).mono ?_⟩;rintro r Z g u;have q:=u;obtain ⟨KV,KW,KX,rfl⟩:=u.shape;have E:=Sz.mono (m:=4*k+3) ((bA (Sz.mono c (by omega):Sz (1*k+0) _) (Sz.mono d (by omega):Sz (1*k+0) _) (Sz.mono dF (by omega):Sz (1*k+0) _) (Sz.mono dm (by omega):Sz (1*k+0) _))) (by omega);refine ⟨_,_,_,rfl,fun V5 e=>(dL (a.le (b.trans (g.trans (e)))) (a.le (b.trans (g.trans (e)))) (Sz.mono c (by omega):Sz (1*k+0) _) (Sz.mono d (by omega):Sz (1*k+0) _) (Sz.mono c (by omega):Sz (1*k+0) _) (Sz.mono d (by omega):Sz (1*k+0) _) (by omega)).mono ?_⟩;rintro r V6 n v;have F:=v;obtain ⟨O9,O_,Pa,rfl⟩:=v.shape;have G:=Sz.mono (m:=4*k+3) ((bA (Sz.mono c (by omega):Sz (1*k+0) _) (Sz.mono d (by omega):Sz (1*k+0) _) (Sz.mono c (by omega):Sz (1*k+0) _) (Sz.mono d (by omega):Sz (1*k+0) _))) (by omega);refine ⟨_,_,_,rfl,fun V7 h=>(tX (q.le (e.trans (n.trans (h)))) (F.le (h)) E G (by omega)).mono ?_⟩;rintro r V8 s w;have H:=w;obtain ⟨XB,XC,XD,rfl⟩:=w.shape;exact ⟨_,_,_,rfl,fun V9 I=>(H.le (I))⟩
theorem rO {cq l_1 eA fp fq:Rat}{k:Nat}(bF:Sz k cq)(bI:Sz k l_1)(bG:Sz k eA)(dF:Sz k fp)(dm:Sz k fq):Sz (8*k+7) ((((l_1)*(fp))+(((-(cq)))*(fq)))*(((l_1)*(l_1))+(((-(cq)))*((-(cq)))))⁻¹):=by
 have a:=Sz.mono (m:=1*k+0) ((dG (Sz.mono bF (by omega):Sz (1*k+0) _) (Sz.mono bI (by omega):Sz (1*k+0) _) (Sz.mono bG (by omega):Sz (1*k+0) _))) (by omega);have b:=Sz.mono (m:=1*k+0) ((dH (Sz.mono bF (by omega):Sz (1*k+0) _) (Sz.mono bI (by omega):Sz (1*k+0) _) (Sz.mono bG (by omega):Sz (1*k+0) _))) (by omega);have c:=Sz.mono (m:=4*k+3) ((bA (Sz.mono a (by omega):Sz (1*k+0) _) (Sz.mono b (by omega):Sz (1*k+0) _) (Sz.mono dF (by omega):Sz (1*k+0) _) (Sz.mono dm (by omega):Sz (1*k+0) _))) (by omega);have d:=Sz.mono (m:=4*k+3) ((bA (Sz.mono a (by omega):Sz (1*k+0) _) (Sz.mono b (by omega):Sz (1*k+0) _) (Sz.mono a (by omega):Sz (1*k+0) _) (Sz.mono b (by omega):Sz (1*k+0) _))) (by omega);have e:=Sz.mono (m:=8*k+7) (Sz.mul c (jL d)) (by omega);exact Sz.mono e (by omega)
theorem Eb {V:View}{v w:Value}{x y:Rat}(hx:RQ V v x)(hy:RQ V w y)(hy0:y.num≠0){k m:Nat}(hk:Sz k x)(hm:Sz m y)(hkm:k+m<274877906944) :
  ae prog 101 #[v,w] V fun r V'=>RQ V' r (x*y⁻¹):=by
 obtain ⟨p,n,c,K,L,M,rfl,b,d⟩:=hx;obtain ⟨q,i,e,N,O,P,rfl,f,g⟩:=hy;have j:=jL hm;have q1:=ag hk.1;have q2:=ag hk.2;have q3:=ag hm.1;have q4:=ag j.1
 have D:(y⁻¹).num=(if decide (y.num<0)=true then -((y.den:Nat):Int) else ((y.den:Nat):Int))/\(y⁻¹).den=y.num.natAbs:=by
  rcases Int.lt_or_gt_of_ne hy0 with h|h
  ·rw [if_pos (decide_eq_true h)];exact inv_neg h
  ·rw [if_neg (fun Q=>by have:=of_decide_eq_true Q;omega)];exact inv_pos h
 have l:x*y⁻¹=mkRat (x.num*(y⁻¹).num) (x.den*(y⁻¹).den):=Rat.mul_def' x y⁻¹;have b1:(x.num*(y⁻¹).num).natAbs<2^(k+m):=by rw [Int.natAbs_mul];exact bH hk.1 j.1
 have b2:x.den*(y⁻¹).den<2^(k+m):=bH hk.2 j.2;refine Dz _ p n c K L M _ q i e N O P V _ fun V1 o=>(cw y _ (g.le o)).mono ?_;rintro r V2 E ⟨p1,n1,c1,rfl,R⟩;refine ⟨_,_,_,rfl,fun V3 s=>(eT _ (R.le s)).mono ?_⟩;rw [←D.1];rintro r V4 F ⟨p4,n4,c4,rfl,S⟩;refine ⟨_,_,_,_,rfl,fun V5 t=>(j_ x.num (y⁻¹).num (b.le (o.trans (E.trans (s.trans (F.trans t))))) (S.le t) (by omega)).mono ?_⟩;rintro r V6 T ⟨p6,n6,c6,rfl,U⟩;have G:=o.trans (E.trans (s.trans (F.trans (t.trans T))));refine ⟨_,_,_,_,rfl,fun V7 u=>(cw x _ (d.le (G.trans u))).mono ?_⟩;rintro r V8 H ⟨p8,n8,c8,rfl,W⟩;refine ⟨_,_,_,rfl,fun V9 z=>(cg (W.le z) (f.le (G.trans (u.trans (H.trans z)))) (by omega)).mono ?_⟩;rintro r hZ A ⟨NA,X,Y,rfl,a⟩;rw [af,af,←D.2] at a;refine ⟨_,_,_,rfl,fun gN I=>(kM _ (U.le (u.trans (H.trans (z.trans (A.trans I))))) (a.le I) (Nat.le_trans (ag b1) (by omega)) (Nat.le_trans (ag b2) (by omega)) (Nat.mul_ne_zero x.den_nz (y⁻¹).den_nz)).mono ?_⟩;rw [l];rintro r DL qI ⟨Xi,Z,a0,Xj,a1,Wf,rfl,B,C⟩;exact ⟨_,_,_,_,_,_,_,rfl,fun GA J=>⟨_,_,_,_,_,_,rfl,B.le J,C.le J⟩⟩
theorem GX {V:View}(z:Int){p:OA}{n c:Nat}(h:RD V p n c (ai z.natAbs)) :
  ae prog 102 #[.agg #[.bool (decide (z<0)),.slice p n c]] V fun r V'=>RQ V' r (z:Rat):=
 Fx _ p n c V _ fun b a=>nR (z:=z) (d:=1) rfl rfl (h.le a) RD.nil rfl
theorem RQ.ofNat {V:View}{p:OA}{n c x:Nat}(h:RN V p n c x){b:Bool}(hb:b=decide ((x:Int)<0)):RQ V (.agg #[.bool b,.slice p n c,.slice none 0 0]) ((x:Int):Rat):=
 nR (z:=(x:Int)) (d:=1) rfl rfl h RD.nil hb
theorem RQ.int {V:View}{q:Rat}{b:Bool}{p:OA}{n c:Nat}{p':OA}{n' c':Nat}(h:RQ V (.agg #[.bool b,.slice p n c,.slice p' n' c']) q):RI V (.agg #[.bool b,.slice p n c]) q.num:=by
 obtain ⟨d,f,g,i,j,k,e,a,l⟩:=h;cases e;exact ⟨_,_,_,rfl,a⟩
theorem RQ.den {V:View}{q:Rat}{b:Bool}{p:OA}{n c:Nat}{p':OA}{n' c':Nat}(h:RQ V (.agg #[.bool b,.slice p n c,.slice p' n' c']) q):RD V p' n' c' (sX q.den):=by
 obtain ⟨d,f,g,i,j,k,e,l,a⟩:=h;cases e;exact a
def mH (px py qx qy:Rat):Rat×Rat×Rat:=
 let a:=-(qy-py);let b:=qx-px;let c:=-(a*px+b*py)
 let f:Rat:=(((a.den*b.den*c.den:Nat):Int):Rat)
 (a*f,b*f,c*f)
theorem O8 {n k:Nat}(h:n<2^k)(hk:0<k):Sz k (((n:Nat):Int):Rat):=by
 refine ⟨?_,?_⟩
 ·show ((n:Nat):Int).natAbs<_;simpa using h
 ·show 1<2^k;exact Nat.one_lt_two_pow (by omega)
theorem lF {V:View}{u w:Value}{px py qx qy:Rat}(hp:RP V u px py)(hq:RP V w qx qy){k:Nat}(s1:Sz k px)(s2:Sz k py)(s3:Sz k qx)(s4:Sz k qy)(hk1:1<=k)(hk:64*k+64<274877906944) :
  ae prog 37 #[u,w] V fun r V'=>((mH px py qx qy).1.num=0/\(mH px py qx qy).2.1.num=0->∃l,r=.tuple #[l,.bool false]/\RL V' l 0 0 0) /\
   (¬((mH px py qx qy).1.num=0/\(mH px py qx qy).2.1.num=0)->∃l,r=.tuple #[l,.bool true] /\
    RL V' l ((mH px py qx qy).1.num / (bE (mH px py qx qy).1.num (mH px py qx qy).2.1.num (mH px py qx qy).2.2.num:Int)) ((mH px py qx qy).2.1.num / (bE (mH px py qx qy).1.num (mH px py qx qy).2.1.num (mH px py qx qy).2.2.num:Int)) ((mH px py qx qy).2.2.num / (bE (mH px py qx qy).1.num (mH px py qx qy).2.1.num (mH px py qx qy).2.2.num:Int))):=by
 have J:=hp;have K:=hq;obtain ⟨p1,n1,c1,p2,n2,c2,p3,n3,c3,p4,n4,c4,rfl,c,d⟩:=hp;obtain ⟨q1,m1,e1,q2,m2,e2,q3,m3,e3,q4,m4,e4,rfl,-,-⟩:=hq;refine rL _ p1 n1 c1 p2 n2 c2 _ p3 n3 c3 p4 n4 c4 _ q1 m1 e1 q2 m2 e2 _ q3 m3 e3 q4 m4 e4 V _ fun V1 L=>(BS (K.le L) (J.le L) s3 s4 s1 s2 hk1 (by omega)).mono ?_;rintro r V2 l2 ⟨a1,a2,a3,a4,a5,a6,a7,a8,a9,MW,MX,b7,rfl,f,hd⟩;have g:Sz (k+k+1) (qx-px):=s3.sub s1;have td:Sz (k+k+1) (qy-py):=s4.sub s2;have I4:=L.trans l2;refine ⟨_,_,_,_,_,_,_,_,_,_,_,_,_,_,rfl,fun V3 q=>(mQ (qy-py) (by obtain ⟨_,_,_,_,_,_,e,N,h2⟩:=hd.le q;cases e;exact N) (RQ.den (hd.le q))).mono ?_⟩;rintro r V4 O n;obtain ⟨b1,b2,b3,b4,b5,b6,rfl⟩:=n.shape;have i:=td.neg;have TV:mH px py qx qy=(-(qy-py)*(((((-(qy-py)).den*(qx-px).den*(-(-(qy-py)*px+(qx-px)*py)).den:Nat):Int):Rat)),(qx-px)*(((((-(qy-py)).den*(qx-px).den*(-(-(qy-py)*px+(qx-px)*py)).den:Nat):Int):Rat)),(-(-(qy-py)*px+(qx-px)*py))*(((((-(qy-py)).den*(qx-px).den*(-(-(qy-py)*px+(qx-px)*py)).den:Nat):Int):Rat))):=rfl;rw [TV];generalize -(qy-py)=A at *;generalize qx-px=B at *
 replace f:=f.le (q.trans O)
 replace c:=c.le (I4.trans (q.trans O))
 replace d:=d.le (I4.trans (q.trans O))
 refine ⟨_,_,_,_,_,_,_,rfl,fun V5 s=>(cz (n.le s) (c.le s) i s1 (by omega)).mono ?_⟩;rintro r V6 P g6;obtain ⟨d1,d2,d3,d4,d5,d6,rfl⟩:=g6.shape;refine ⟨_,_,_,_,_,_,_,rfl,fun V7 y=>(cz (f.le (s.trans (P.trans y))) (d.le (s.trans (P.trans y))) g s2 (by omega)).mono ?_⟩;rintro r V8 l8 g8;obtain ⟨f1,f2,f3,f4,f5,f6,rfl⟩:=g8.shape;refine ⟨_,_,_,_,_,_,_,rfl,fun V9 Q=>(fS (g6.le (y.trans (l8.trans Q))) (g8.le Q) (i.mul s1) (g.mul s2) (by omega)).mono ?_⟩;rintro r hZ R j;have z:=((i.mul s1).add (g.mul s2)).neg;obtain ⟨i1,i2,i3,i4,i5,i6,rfl⟩:=j.shape;refine ⟨_,_,_,_,_,_,_,rfl,fun gN S=>(mQ (A*px+B*py) (by obtain ⟨_,_,_,_,_,_,e,N,h2⟩:=j.le S;cases e;exact N) (RQ.den (j.le S))).mono ?_⟩;rintro r jg cY T;generalize -(A*px+B*py)=C at *;obtain ⟨j1,j2,j3,j4,j5,j6,rfl⟩:=T.shape;have Cp:=s.trans (P.trans (y.trans (l8.trans (Q.trans (R.trans (S.trans cY))))))
 replace n:=n.le Cp
 replace f:=f.le Cp
 refine ⟨_,_,_,_,_,_,_,rfl,fun ph D=>(cw A _ (RQ.den (n.le D))).mono ?_⟩;rintro r lC U ⟨k1,k2,k3,rfl,W⟩;refine ⟨_,_,_,rfl,fun lD E=>(cw B _ (RQ.den (f.le (D.trans (U.trans E))))).mono ?_⟩;rintro r nG X ⟨k4,k5,k6,rfl,Y⟩;obtain ⟨-,da,-⟩:=ch i;obtain ⟨-,db,-⟩:=ch g;obtain ⟨-,dc,-⟩:=ch z;refine ⟨_,_,_,rfl,fun qH F=>(cg (W.le (E.trans (X.trans F))) (Y.le F) (by omega)).mono ?_⟩;rintro r wY fL ⟨k7,k8,k9,rfl,t⟩;rw [af,af] at t;refine ⟨_,_,_,rfl,fun zO Z=>(cw C _ (RQ.den (T.le (D.trans (U.trans (E.trans (X.trans (F.trans (fL.trans Z))))))))).mono ?_⟩;rintro r Bl lS ⟨b8,b9,c0,rfl,a0⟩;have c5:=ia (a:=A.den) (b:=B.den);refine ⟨_,_,_,rfl,fun Br jT=>(cg (t.le (Z.trans (lS.trans jT))) (a0.le jT) (by omega)).mono ?_⟩;rintro r DL qI ⟨c6,c7,c8,rfl,v⟩;rw [af,af] at v;have o:Sz (k+k+1+(k+k+1)+(k+k+1+k+1+(k+k+1+k+1)+1)) (((A.den*B.den*C.den:Nat):Int):Rat):=O8 (bH (bH i.2 g.2) z.2) (by omega);generalize A.den*B.den*C.den=M at *;refine ⟨_,_,_,rfl,fun GA lH=>(qT (v.le lH)).mono ?_⟩;rintro r NT HY ⟨c9,d0,d7,rfl,b0⟩;have hf:=RQ.ofNat b0 rfl;have Oz:=D.trans (U.trans (E.trans (X.trans (F.trans (fL.trans (Z.trans (lS.trans (jT.trans (qI.trans (lH.trans HY))))))))));refine ⟨_,_,_,_,rfl,fun Pj p=>(cz (n.le (Oz.trans p)) (hf.le p) i o (by omega)).mono ?_⟩;rintro r Sf G Ws;obtain ⟨o1,o2,o3,o4,o5,o6,rfl⟩:=Ws.shape;refine ⟨_,_,_,_,_,_,_,rfl,fun VA x=>(cz (f.le (Oz.trans (p.trans (G.trans x)))) (hf.le (p.trans (G.trans x))) g o (by omega)).mono ?_⟩;rintro r Sg OH Wt;obtain ⟨o7,o8,o9,d8,d9,e0,rfl⟩:=Wt.shape;refine ⟨_,_,_,_,_,_,_,rfl,fun SW H=>(cz (T.le (Oz.trans (p.trans (G.trans (x.trans (OH.trans H)))))) (hf.le (p.trans (G.trans (x.trans (OH.trans H))))) z o (by omega)).mono ?_⟩;rintro r PC FV lQ;obtain ⟨t1,t2,t3,t4,t5,t6,rfl⟩:=lQ.shape;refine ⟨_,_,_,_,_,_,_,rfl,fun e5 T_=>(xr (RQ.int (Ws.le (x.trans (OH.trans (H.trans (FV.trans T_)))))) (RQ.int (Wt.le (H.trans (FV.trans T_)))) (RQ.int (lQ.le T_)) (Nat.le_trans (ch (i.mul o)).1 (by omega)) (Nat.le_trans (ch (g.mul o)).1 (by omega)) (Nat.le_trans (ch (z.mul o)).1 (by omega))).mono ?_⟩;rintro r XK QJ ⟨z1,z2⟩;by_cases I:(A*((M:Int):Rat)).num=0/\(B*((M:Int):Rat)).num=0
 ·obtain ⟨l,rfl,y1,y2,y3,y4,y5,y6,y7,y8,y9,rfl,w1,w2,w3⟩:=z1 I;exact ⟨_,_,_,_,_,_,_,_,_,_,_,_,_,rfl,fun SX m=>⟨fun _=>⟨_,rfl,_,_,_,_,_,_,_,_,_,rfl,w1.le m,w2.le m,w3.le m⟩,fun h=>absurd I h⟩⟩
 ·obtain ⟨l,rfl,y1,y2,y3,y4,y5,y6,y7,y8,y9,rfl,w1,w2,w3⟩:=z2 I;exact ⟨_,_,_,_,_,_,_,_,_,_,_,_,_,rfl,fun SX m=>⟨fun h=>absurd h I,fun _=>⟨_,rfl,_,_,_,_,_,_,_,_,_,rfl,w1.le m,w2.le m,w3.le m⟩⟩⟩
theorem Ea {V:View}{v:Value}{q:Rat}(h:RQ V v q){k:Nat}(_s:Sz k q)(_hk:k<=1099511627776):ae prog 80 #[v] V fun r V'=>RQ V' r (-q):=by
 obtain ⟨p,n,c,d,e,f,rfl,a,b⟩:=h;exact mQ q a b
theorem uK {V:View}{z:Int}{p:OA}{n c:Nat}(h:RD V p n c (ai z.natAbs)){k:Nat}(_s:Sz k (z:Rat))(_hk:k<=1099511627776) :
  ae prog 102 #[.agg #[.bool (decide (z<0)),.slice p n c]] V fun r V'=>RQ V' r (z:Rat):=GX z h
theorem BR {V:View}{l:Value}{cq l_1 eA:Int}(hl:RL V l cq l_1 eA){k:Nat}(bF:Sz k ((cq:Int):Rat))(bI:Sz k ((l_1:Int):Rat))(bG:Sz k ((eA:Int):Rat))(hk:1*k+1<274877906944) :
  ae prog 49 #[l] V fun r V'=>RP V' r (((l_1:Int):Rat)) (-(((cq:Int):Rat))):=by
 have p:=hl;obtain ⟨q,a,e,b,f,c,g,d,s,rfl,t,u,x⟩:=hl;refine Bc _ q a e _ b f c _ g d s V _ fun y a=>(uK (u.le (a)) bI (by omega)).mono ?_;rintro r V2 e j;have h:=j;obtain ⟨z,A,B,C,D,E,rfl⟩:=j.shape;refine ⟨_,_,_,_,_,_,_,rfl,fun F b=>(uK (t.le (a.trans (e.trans (b)))) bF (by omega)).mono ?_⟩;rintro r G f n;have i:=n;obtain ⟨H,I,J,K,L,M,rfl⟩:=n.shape;have v:=Sz.mono (m:=1*k+0) (bF) (by omega);refine ⟨_,_,_,_,_,_,_,rfl,fun N c=>(Ea (i.le (c)) v (by omega)).mono ?_⟩;rintro r O g o;have w:=o;obtain ⟨P,Q,R,S,T,U,rfl⟩:=o.shape;exact ⟨_,_,_,_,_,_,_,rfl,fun W d=>⟨_,_,_,_,_,_,_,_,_,_,_,_,rfl,(h.le (b.trans (f.trans (c.trans (g.trans (d)))))),(w.le (d))⟩⟩
theorem yr {cq:Int}{l_1:Int}{eA:Int}{k:Nat}(bF:Sz k ((cq:Int):Rat))(bI:Sz k ((l_1:Int):Rat))(bG:Sz k ((eA:Int):Rat)):Sz (1*k+0) (((l_1:Int):Rat)):=by
 have a:=Sz.mono (m:=1*k+0) (bI) (by omega);exact Sz.mono a (by omega)
theorem yu {cq:Int}{l_1:Int}{eA:Int}{k:Nat}(bF:Sz k ((cq:Int):Rat))(bI:Sz k ((l_1:Int):Rat))(bG:Sz k ((eA:Int):Rat)):Sz (1*k+0) (-(((cq:Int):Rat))):=by
 have a:=Sz.mono (m:=1*k+0) (bF) (by omega);have b:=Sz.mono (m:=1*k+0) (Sz.neg a) (by omega);exact Sz.mono b (by omega)
theorem rT {V:View}{p:Value}{fp fq:Rat}{q:Value}{sv sw:Rat}(hp:RP V p fp fq)(hq:RP V q sv sw){k:Nat}(dF:Sz k fp)(dm:Sz k fq)(nD:Sz k sv)(nE:Sz k sw)(hk:4*k+3<274877906944) :
  ae prog 103 #[p,q] V fun r V'=>RQ V' r (((fp)*(sv))+((fq)*(sw))):=by
 have j:=hp;obtain ⟨l,n,o,s,t,u,v,w,x,y,z,A,rfl,B,C⟩:=hp;have D:=hq;obtain ⟨E,F,G,H,I,J,K,L,M,N,O,P,rfl,Q,R⟩:=hq;refine Be _ l n o s t u _ v w x y z A _ E F G H I J _ K L M N O P V _ fun Y a=>(cz (B.le (a)) (Q.le (a)) dF nD (by omega)).mono ?_;rintro r V2 e f;have b:=f;obtain ⟨Z,NK,NL,ZX,ZY,ZZ,rfl⟩:=f.shape;have S:=Sz.mono (m:=2*k+1) (Sz.mul dF nD) (by omega);refine ⟨_,_,_,_,_,_,_,rfl,fun V3 c=>(cz (C.le (a.trans (e.trans (c)))) (R.le (a.trans (e.trans (c)))) dm nE (by omega)).mono ?_⟩;rintro r V4 T g;have d:=g;obtain ⟨KV,KW,KX,Xv,Xw,Xx,rfl⟩:=g.shape;have U:=Sz.mono (m:=2*k+1) (Sz.mul dm nE) (by omega);refine ⟨_,_,_,_,_,_,_,rfl,fun V5 h=>(fS (b.le (c.trans (T.trans (h)))) (d.le (h)) S U (by omega)).mono ?_⟩;rintro r V6 l6 i;have W:=i;obtain ⟨O9,O_,Pa,Xy,Xz,XA,rfl⟩:=i.shape;exact ⟨_,_,_,_,_,_,_,rfl,fun V7 X=>(W.le (X))⟩
theorem oa {fp:Rat}{fq:Rat}{sv:Rat}{sw:Rat}{k:Nat}(dF:Sz k fp)(dm:Sz k fq)(nD:Sz k sv)(nE:Sz k sw):Sz (4*k+3) (((fp)*(sv))+((fq)*(sw))):=by
 have a:=Sz.mono (m:=2*k+1) (Sz.mul dF nD) (by omega);have b:=Sz.mono (m:=2*k+1) (Sz.mul dm nE) (by omega);have c:=Sz.mono (m:=4*k+3) (Sz.add a b) (by omega);exact Sz.mono c (by omega)
theorem xu {V:View}{l:Value}{cq l_1 eA:Int}{p:Value}{fp fq:Rat}(hl:RL V l cq l_1 eA)(hp:RP V p fp fq)(hd0:((((((l_1:Int):Rat)))*((((l_1:Int):Rat))))+(((-(((cq:Int):Rat))))*((-(((cq:Int):Rat)))))).num≠0){k:Nat}(bF:Sz k ((cq:Int):Rat))(bI:Sz k ((l_1:Int):Rat))(bG:Sz k ((eA:Int):Rat))(dF:Sz k fp)(dm:Sz k fq)(hk:8*k+7<274877906944) :
  ae prog 61 #[l,p] V fun r V'=>RQ V' r ((((fp)*((((l_1:Int):Rat))))+((fq)*((-(((cq:Int):Rat))))))*((((((l_1:Int):Rat)))*((((l_1:Int):Rat))))+(((-(((cq:Int):Rat))))*((-(((cq:Int):Rat))))))⁻¹):=by
 have i:=hl;obtain ⟨x,f,j,b,g,e,n,h,s,rfl,S,T,U⟩:=hl;have o:=hp;obtain ⟨y,z,A,B,C,D,E,F,G,H,I,J,rfl,W,X⟩:=hp;refine wQ _ x f j _ b g e _ n h s _ y z A B C D _ E F G H I J V _ fun Y f=>(BR (i.le (f)) (Sz.mono bF (by omega):Sz (1*k+0) _) (Sz.mono bI (by omega):Sz (1*k+0) _) (Sz.mono bG (by omega):Sz (1*k+0) _) (by omega)).mono ?_;rintro r V2 j t;have a:=t;obtain ⟨Z,MI,MJ,MK,ML,MM,ZT,ZU,ZV,ZW,Xt,Xu,rfl,Lw,Lx⟩:=t;have c:=Sz.mono (m:=1*k+0) ((yr (Sz.mono bF (by omega):Sz (1*k+0) _) (Sz.mono bI (by omega):Sz (1*k+0) _) (Sz.mono bG (by omega):Sz (1*k+0) _))) (by omega);have d:=Sz.mono (m:=1*k+0) ((yu (Sz.mono bF (by omega):Sz (1*k+0) _) (Sz.mono bI (by omega):Sz (1*k+0) _) (Sz.mono bG (by omega):Sz (1*k+0) _))) (by omega);refine ⟨_,_,_,_,_,_,_,_,_,_,_,_,_,_,rfl,fun V3 b=>(rT (o.le (f.trans (j.trans (b)))) (a.le (b)) (Sz.mono dF (by omega):Sz (1*k+0) _) (Sz.mono dm (by omega):Sz (1*k+0) _) (Sz.mono c (by omega):Sz (1*k+0) _) (Sz.mono d (by omega):Sz (1*k+0) _) (by omega)).mono ?_⟩;rintro r V4 g u;have q:=u;obtain ⟨KV,KW,KX,Xv,Xw,Xx,rfl⟩:=u.shape;have K:=Sz.mono (m:=4*k+3) ((oa (Sz.mono dF (by omega):Sz (1*k+0) _) (Sz.mono dm (by omega):Sz (1*k+0) _) (Sz.mono c (by omega):Sz (1*k+0) _) (Sz.mono d (by omega):Sz (1*k+0) _))) (by omega);refine ⟨_,_,_,_,_,_,_,rfl,fun V5 e=>(rT (a.le (b.trans (g.trans (e)))) (a.le (b.trans (g.trans (e)))) (Sz.mono c (by omega):Sz (1*k+0) _) (Sz.mono d (by omega):Sz (1*k+0) _) (Sz.mono c (by omega):Sz (1*k+0) _) (Sz.mono d (by omega):Sz (1*k+0) _) (by omega)).mono ?_⟩;rintro r V6 n v;have L:=v;obtain ⟨O9,O_,Pa,Xy,Xz,XA,rfl⟩:=v.shape;have M:=Sz.mono (m:=4*k+3) ((oa (Sz.mono c (by omega):Sz (1*k+0) _) (Sz.mono d (by omega):Sz (1*k+0) _) (Sz.mono c (by omega):Sz (1*k+0) _) (Sz.mono d (by omega):Sz (1*k+0) _))) (by omega);refine ⟨_,_,_,_,_,_,_,rfl,fun V7 h=>(Eb (q.le (e.trans (n.trans (h)))) (L.le (h)) hd0 K M (by omega)).mono ?_⟩;rintro r V8 s w;have N:=w;obtain ⟨XB,XC,XD,O,P,Q,rfl⟩:=w.shape;exact ⟨_,_,_,_,_,_,_,rfl,fun V9 R=>(N.le (R))⟩
end Go.Proofs.Tryz
