import Derived.Test.YtapnijmlbakblaaGreatDoorZP13
import Derived.Test.YtapnijmlbakblaaGreatDoorZP8
import Derived.Test.YtapnijmlbakblaaGreatDoorZP12
set_option linter.unusedVariables false
open Go.IntKind (i64 u64 u32)
namespace Go.Proofs.Tryz
open Go.Eng Go.Big
theorem fp {V:View}{p q:OA}{n c m e:Nat}{x y:Nat}(hx:RN V p n c x)(hy:RN V q m e y)(hm:(ai x).length<=274877906944)(hm':(ai y).length<=274877906944:=by omega) :
  aa prog 134 #[.slice p n c,.slice q m e] V fun r V'=>∃p1 n1 c1,r=.slice p1 n1 c1/\RN V' p1 n1 c1 (Nat.gcd x y):=by
 have L:=hx.len;have zc:=hy.len;refine yh p n c q m e V _ fun M t=>(kJ (hx.le t)).mono ?_;rintro r V2 B rfl;rw [ae];refine ⟨_,_,rfl,fun z V'=>True,⟨fun w=>?_,fun w=>⟨(),by (try dsimp only);and_intros<;>first|exact True.intro|rfl,trivial⟩⟩,?_⟩
 ·have w:n<=2:=by simpa using w
  refine fun V3 N=>(kJ (hy.le (t.trans (B.trans N)))).mono ?_;rintro r V4 l4 rfl;rw [ae];refine ⟨_,_,rfl,fun j=>?_,fun j=>⟨(),by (try dsimp only);and_intros<;>first|exact True.intro|rfl,trivial⟩⟩;have j:m<=2:=by simpa using j
  have C:=qk (x:=x);have O:=qk (x:=y);rw [if_pos w,if_pos j]
  refine ⟨fun z V'=>∃a b:Nat,z=((a:Int),(b:Int))/\a<18446744073709551616/\b<18446744073709551616/\Nat.gcd a b=Nat.gcd x y,fun z=>z.2.toNat,
   ⟨((x:Int),(y:Int)),by (try dsimp only);and_intros<;>first|exact True.intro|rfl,x,y,rfl,C,O,rfl⟩,?_⟩
  rintro _ V5 l5 ⟨a,b,rfl,s,g,l⟩;dsimp only;refine ⟨by trivial,fun f=>?_,fun f=>?_⟩
  ·have f:0<b:=by simpa using f
   have P:(a:Int).tmod (b:Int)=((a%b:Nat):Int):=by rw [Qz3 (by omega)];omega
   have A:a%b<b:=Qv9 _ f;refine ⟨by omega,((b:Int),((a%b:Nat):Int)),?_,by (try dsimp only);and_intros<;>first|exact True.intro|rfl|exact P,b,a%b,rfl,g,by omega,?_⟩
   ·(try dsimp only);simp only [Qq0];exact A
   ·rw [←l,Qg4 a b,Nat.gcd_rec b a,Qg4]
  ·have f:b=0:=by simp at f;omega
   subst f;rw [Qf0] at l;refine fun V6 l6=>(cS a s).mono ?_;rintro r V7 l7 ⟨p1,n1,c1,rfl,D⟩;rw [l] at D;exact ⟨_,_,_,rfl,fun V8 Q=>⟨_,_,_,rfl,D.le Q⟩⟩
 rintro _ V9 I _
 replace hx:=hx.le (t.trans (B.trans I))
 replace hy:=hy.le (t.trans (B.trans I))
 refine ⟨by trivial,fun z k V'=>∃a b:Nat,RN V' z.1 z.2.1 z.2.2.1 a/\RN V' z.2.2.2.1 z.2.2.2.2.1 z.2.2.2.2.2 b/\b=k/\(ai a).length<=274877906944/\(ai b).length<=274877906944/\Nat.gcd a b=Nat.gcd x y,
  ⟨(p,n,c,q,m,e),y,by (try dsimp only);and_intros<;>first|exact True.intro|rfl,x,y,hx,hy,rfl,hm,hm',rfl⟩,?_⟩
 rintro ⟨ap,an,ac,R,E,S⟩ _ gm T ⟨a,b,s,g,rfl,F,u,l⟩;dsimp only at s g ⊢;have o:=s.len;have G:=g.len;refine ⟨by trivial,fun f=>?_,fun f=>?_⟩
 ·have f:0<E:=by simpa using f
  have i:0<b:=by
   rcases Qx9 b with h|h
   ·subst h;simp at G;omega
   ·exact h
  refine fun fH H=>(dM (s.le H) (g.le H) F u i).mono ?_;rintro r jC U ⟨p1,n1,c1,W,X,Y,rfl,D,Z⟩;have A:a%b<b:=Qv9 _ i;have a0:=aD (Qg9 A);refine ⟨_,_,_,_,_,_,rfl,(R,E,S,W,X,Y),a%b,A,by (try dsimp only);and_intros<;>first|exact True.intro|rfl,b,a%b,g.le (H.trans U),Z,rfl,u,by omega,?_⟩;rw [←l,Qg4 a b,Nat.gcd_rec b a,Qg4]
 ·have f:E=0:=by simp at f;omega
  have i:b=0:=bd.1 (Qq6.1 (by omega));subst i;rw [Qf0] at l;rw [←l];refine ⟨aG (ai a),s.sl,by simp [o],by omega,by omega,by simp,by simp [o],?_,?_⟩
  ·intro v K;simp only [aG,Qy0] at K;obtain ⟨d,-,rfl⟩:=K;rfl
  ·intro bk J sp c' j h2 M t b g;refine ⟨_,_,_,rfl,?_⟩;simp only [Qy1,Qd8,Qc2,Qm3] at g j ⊢;exact copied (aH a) o j g
theorem dq {V:View}(b:Bool){p:OA}{n c x:Nat}(h:RN V p n c x) :
  aa prog 83 #[.bool b,.slice p n c] V fun r V'=>RI V' r (if b then -(x:Int) else x):=by
 have f:=fw h.len;refine C8 b p n c V _ ⟨fun a e d=>?_,fun a e d=>?_⟩
 ·rw [if_pos a];refine RI.mk ?_ ?_
  ·rw [Qx6,decide_eq_true_eq,decide_eq_true_eq];omega
  ·rw [Qf3,Qx5];exact h.le d
 ·rw [a,if_neg (by decide)];refine RI.mk ?_ ?_
  ·symm;rw [decide_eq_false_iff_not];omega
  ·rw [Qx5];exact h.le d
theorem iN {V:View}{b:Bool}{p:OA}{n c x:Nat}{z:Int}(h:RN V p n c x)(hz:(if b then -(x:Int) else x)=z) :
  aa prog 83 #[.bool b,.slice p n c] V fun r V'=>∃(HE:Bool)(Ja:OA)(IJ HK:Nat),r=.agg #[.bool HE,.slice Ja IJ HK]/\∀V3:View,V'.Le V3->RI V3 (.agg #[.bool HE,.slice Ja IJ HK]) z:=by
 refine (dq b h).mono ?_;rintro r d e ⟨f,i,j,rfl,g⟩;rw [hz] at g ⊢;exact ⟨_,_,_,_,rfl,fun V3 a=>⟨_,_,_,rfl,g.le a⟩⟩
theorem yM {V:View}(n:Int)(h0:-9223372036854775808<=n)(h1:n<=9223372036854775807:=by omega) :
  aa prog 77 #[.int .i64 n] V fun r V'=>RI V' r n:=by
 refine EU n V _ ⟨fun a d f=>?_,fun a d f=>?_⟩
 ·have a:n<0:=by simpa using a
  have e:u64.wrap (0-u64.wrap n)=((-n).toNat:Int):=by rw [rv,rv];omega
  rw [e];refine (cS _).mono ?_;rintro r g h ⟨i,j,k,rfl,b⟩;exact ⟨_,_,_,rfl,fun l c=>iN (b.le c) (by simp;omega)⟩
 ·have a:0<=n:=by simpa using a
  have e:u64.wrap n=(n.toNat:Int):=by rw [aM (by omega)];omega
  rw [e];refine (cS _).mono ?_;rintro r g h ⟨i,j,k,rfl,b⟩;exact ⟨_,_,_,rfl,fun l c=>iN (b.le c) (by simp;omega)⟩
theorem DS {V:View}(z:Int){p:OA}{n c:Nat}(h:RN V p n c z.natAbs) :
  aa prog 173 #[.agg #[.bool (decide (z<0)),.slice p n c]] V fun r V'=>r=.int .i64 z.sign:=by
 have f:=fw h.len;refine Db _ p n c V _ ⟨fun b d e=>?_,fun b=>⟨fun a d e=>?_,fun a d e=>?_⟩⟩
 ·have:z=0:=by simp at b;omega
  rw [this];rfl
 ·rw [decide_eq_true_eq] at a;rw [Qd5 a]
 ·rw [decide_eq_false_iff_not] at a;have:0<z:=by simp at b;omega
  rw [Qd4 this]
theorem jh {V:View}(z:Int){p:OA}{n c:Nat}(h:RN V p n c z.natAbs) :
  aa prog 38 #[.agg #[.bool (decide (z<0)),.slice p n c]] V fun r V'=>RI V' r (-z):=by
 refine AP _ p n c V _ fun d a=>iN (h.le a) ?_;by_cases b:z<0<;>simp [b]<;>omega
theorem j_ {V:View}(z w:Int){p q:OA}{n c m e:Nat}(ha:RN V p n c z.natAbs)(hb:RN V q m e w.natAbs)(hm:(ai z.natAbs).length+(ai w.natAbs).length<=1099511627776:=by omega) :
  aa prog 141 #[.agg #[.bool (decide (z<0)),.slice p n c],.agg #[.bool (decide (w<0)),.slice q m e]] V fun r V'=>RI V' r (z*w):=by
 refine EV _ p n c _ q m e V _ fun h a=>(cp (ha.le a) (hb.le a) hm).mono ?_;rintro r i j ⟨k,l,o,rfl,b⟩;rw [ae,ae] at b;refine ⟨_,_,_,rfl,fun s d=>iN (b.le d) ?_⟩;have f:z=aA (decide (z<0)) (ai z.natAbs):=(aE z).symm;have g:w=aA (decide (w<0)) (ai w.natAbs):=(aE w).symm
 conv=>rhs;rw [f,g]
 unfold aA;rw [ae,ae];cases decide (z<0)<;>cases decide (w<0)<;>simp [Qt0,Qt1]
theorem yL {V:View}(z w:Int){p q:OA}{n c m e:Nat}(ha:RN V p n c z.natAbs)(hb:RN V q m e w.natAbs)(hm:(ai z.natAbs).length<=1099511627776)(hn:(ai w.natAbs).length<=1099511627776:=by omega) :
  aa prog 140 #[.agg #[.bool (decide (z<0)),.slice p n c],.agg #[.bool (decide (w<0)),.slice q m e]] V fun r V'=>RI V' r (z+w):=by
 refine ER _ p n c _ q m e V _ ⟨fun i t a=>(Ga (ha.le a) (hb.le a) hm hn).mono ?_,fun i t a=>(fP (ha.le a) (hb.le a) hm hn).mono ?_⟩
 ·rintro r u g ⟨k,l,o,rfl,b⟩;rw [ae,ae] at b;refine ⟨_,_,_,rfl,fun s d=>iN (b.le d) ?_⟩;by_cases h:z<0<;>by_cases hw:w<0<;>simp [h,hw] at i⊢<;> omega
 ·rintro r u g rfl;refine ⟨_,rfl,fun f s d=>?_,fun f s d=>?_⟩
  ·have f:z.natAbs<w.natAbs:=by simpa [fq] using f
   refine (nJ (hb.le (a.trans (g.trans d))) (ha.le (a.trans (g.trans d))) hn (aD (Qg9 f)) (by rw [ae,ae];omega)).mono ?_;rintro r v x ⟨k,l,o,rfl,b⟩;rw [ae,ae] at b;refine ⟨_,_,_,rfl,fun y j=>iN (b.le j) ?_⟩;by_cases h:z<0<;>by_cases hw:w<0<;>simp [h,hw] at i⊢<;> omega
  ·have f:w.natAbs<=z.natAbs:=by simpa [←Wx9,fq] using f
   refine (nJ (ha.le (a.trans (g.trans d))) (hb.le (a.trans (g.trans d))) hm (aD f) (by rw [ae,ae];omega)).mono ?_;rintro r v x ⟨k,l,o,rfl,b⟩;rw [ae,ae] at b;refine ⟨_,_,_,rfl,fun y j=>iN (b.le j) ?_⟩;by_cases h:z<0<;>by_cases hw:w<0<;>simp [h,hw] at i⊢<;> omega
end Go.Proofs.Tryz
namespace Go.Eng
open Go.Big
def sW (d:Nat):List Nat:=if d=1 then [] else ai d
def RQ (V:View)(v:Value)(q:Rat):Prop:=∃p n c p' n' c',v=.agg #[.bool (decide (q.num<0)),.slice p n c,.slice p' n' c'] /\
 RD V p n c (ai q.num.natAbs)/\RD V p' n' c' (sW q.den)
theorem RQ.le {V V':View}{v:Value}{q:Rat}(h:RQ V v q)(l:V.Le V'):RQ V' v q:=by
 obtain ⟨p,n,c,a,b,d,e,f,g⟩:=h;exact ⟨p,n,c,a,b,d,e,f.le l,g.le l⟩
theorem BK {q:Rat}:sW q.den=[]↔q.den=1:=by
 unfold sW;split
 ·rename_i h;simp [h]
 ·rename_i h;rw [bd];have:=q.den_nz;omega
end Go.Eng
namespace Go.Proofs.Tryz
open Go.Eng Go.Big
theorem lM {V:View}{q:Rat}{p:OA}{n c:Nat}(h:RD V p n c (sW q.den)):n=0↔q.den=1:=by
 rw [←BK,h.len,Qq6]
theorem cB {V:View}(q:Rat){p p':OA}{n c n' c':Nat}(b:Bool)(h2:RD V p' n' c' (sW q.den)) :
  aa prog 82 #[.agg #[.bool b,.slice p n c,.slice p' n' c']] V fun r V'=>∃p1 n1 c1,r=.slice p1 n1 c1/\RN V' p1 n1 c1 q.den:=by
 have d:=lM h2;refine ET b p n c p' n' c' V _ ⟨fun a h f=>kb.mono ?_,fun a h f=>⟨_,_,_,rfl,?_⟩⟩
 ·rintro r j k ⟨p1,n1,c1,rfl,g⟩;have:q.den=1:=d.1 (by simp at a;omega);rw [this];exact ⟨_,_,_,rfl,fun l i=>⟨_,_,_,rfl,g.le i⟩⟩
 ·have:q.den≠1:=fun e=>by have:=d.2 e;simp at a;omega
  unfold sW at h2;rw [if_neg this] at h2;exact h2.le f
theorem nq {V:View}{q:Rat}{z:Int}{d:Nat}{p p':OA}{n c n' c':Nat}(hn:q.num=z)(hd:q.den=d)(h1:RD V p n c (ai z.natAbs))(h2:RD V p' n' c' (sW d)){b:Bool}(hb:b=decide (z<0)) :
  RQ V (.agg #[.bool b,.slice p n c,.slice p' n' c']) q:=by
 subst hn hd hb;exact ⟨_,_,_,_,_,_,rfl,h1,h2⟩
theorem iG {V:View}(z:Int){d:Nat}{p q:OA}{n c m e:Nat}(hx:RN V p n c z.natAbs)(hy:RN V q m e d)(hm:(ai z.natAbs).length<=274877906944)(hn:(ai d).length<=274877906944)(hd:d≠0) :
  aa prog 104 #[.agg #[.bool (decide (z<0)),.slice p n c],.slice q m e] V fun r V'=>RQ V' r (mkRat z d):=by
 refine C5 _ p n c q m e V _ fun V1 y=>(fp (hx.le y) (hy.le y) hm hn).mono ?_;rintro r V2 W ⟨p1,n1,c1,rfl,h⟩;have I:=Qb0 z.natAbs d;have J:=Qk8 z.natAbs d;have K:0<Nat.gcd z.natAbs d:=Wq9 _ (by omega);have i:(ai (Nat.gcd z.natAbs d)).length<=274877906944:=Qx3 (aD (Qs7 (by omega) I)) hn;have L:(mkRat z d).num=z / (Nat.gcd d z.natAbs:Nat):=by rw [Qh4,if_neg hd]
 have a:(mkRat z d).den=d / Nat.gcd d z.natAbs:=by rw [Qp9,if_neg hd]
 rw [Qg4 d] at L a;generalize hG:Nat.gcd z.natAbs d=g at *;generalize mkRat z d=w at *;refine ⟨_,_,_,rfl,fun V3 A=>kb.mono ?_⟩;rintro r V4 B ⟨p2,n2,c2,rfl,h1⟩;refine ⟨_,_,_,rfl,fun V5 j=>(fP (h.le (A.trans (B.trans j))) (h1.le j) (by omega) (by decide)).mono ?_⟩;rintro r V6 M rfl
 replace hx:=hx.le (y.trans (W.trans (A.trans (B.trans (j.trans M)))))
 replace hy:=hy.le (y.trans (W.trans (A.trans (B.trans (j.trans M)))))
 replace h:=h.le (A.trans (B.trans (j.trans M)))
 refine ⟨_,rfl,fun X V7 C=>(dM (hx.le C) (h.le C) hm i K).mono ?_,fun X A8 D=>kb.mono ?_⟩
 ·rintro r V8 Y ⟨p4,n4,c4,p5,n5,c5,rfl,Z,-⟩;have a0:(mkRat z d).num.natAbs=(mkRat z d).num.natAbs:=rfl;obtain ⟨k,N⟩:=J;have O:z.natAbs / g=k:=by rw [N,Nat.mul_div_cancel_left _ K]
  rw [O] at Z
  have hz:z=(g:Int)*(if z<0 then -(k:Int) else k):=by
   split
   ·rw [Qt1,←Qb8,←N];omega
   ·rw [←Qb8,←N];omega
  have b:w.num=(if z<0 then -(k:Int) else k):=by
   rw [L];generalize (if z<0 then -(k:Int) else k)=t at *;rw [hz,Qg2 _ (by omega)]
  refine ⟨_,_,_,_,_,_,rfl,fun V9 P=>(dq _ (Z.le P)).mono ?_⟩
  have R3:(if decide (z<0)=true then -(k:Int) else k)=w.num:=by
   rw [b];simp
  rw [R3];rintro r gm l ⟨p7,n7,c7,rfl,g2⟩;refine ⟨_,_,_,_,rfl,fun fH E=>(dM (hy.le (C.trans (Y.trans (P.trans (l.trans E))))) (h.le (C.trans (Y.trans (P.trans (l.trans E))))) hn i K).mono ?_⟩;rintro r jC cM ⟨p8,n8,c8,p9,n9,c9,rfl,Q,-⟩;rw [←a] at Q;refine ⟨_,_,_,_,_,_,rfl,fun oH F=>kb.mono ?_⟩;rintro r mD G ⟨L4,a1,a2,rfl,R⟩;have a3:(ai w.den).length<=274877906944:=by rw [a];exact Qx3 (aD (Qn3 _ _)) hn
  refine ⟨_,_,_,rfl,fun mE o=>(fP (Q.le (F.trans (G.trans o))) (R.le o) (by omega) (by decide)).mono ?_⟩;rintro r sM S rfl;refine ⟨_,rfl,fun f nF T=>nq rfl rfl (g2.le (E.trans (cM.trans (F.trans (G.trans (o.trans (S.trans T))))))) ?_ rfl,fun f uf s=>nq rfl rfl (g2.le (E.trans (cM.trans (F.trans (G.trans (o.trans (S.trans s))))))) ?_ rfl⟩
  ·have:w.den=1:=ir.1 (by simpa using f);rw [BK.2 this];exact RD.nil
  ·have:w.den≠1:=fun e=>by rw [ir.2 e] at f;simp at f
   unfold sW;rw [if_neg this];exact Q.le (F.trans (G.trans (o.trans (S.trans s))))
 ·have u:g=1:=ir.1 (by simpa using X);have b:w.num=z:=by rw [L,u];simp
  have v:w.den=d:=by rw [a,u];simp
  rintro r Bg H ⟨ZE,a4,a5,rfl,R⟩;refine ⟨_,_,_,rfl,fun Bh x=>(fP (hy.le (D.trans (H.trans x))) (R.le x) (by omega) (by decide)).mono ?_⟩;rintro r Dv U rfl;refine ⟨_,rfl,fun f nF T=>nq b v (hx.le (D.trans (H.trans (x.trans (U.trans T))))) ?_ rfl,fun f uf s=>nq b v (hx.le (D.trans (H.trans (x.trans (U.trans s))))) ?_ rfl⟩
  ·have:d=1:=ir.1 (by simpa using f);unfold sW;rw [if_pos this];exact RD.nil
  ·have:d≠1:=fun e=>by rw [ir.2 e] at f;simp at f
   unfold sW;rw [if_neg this];exact hy.le (D.trans (H.trans (x.trans (U.trans s))))
theorem ka {V:View}(n:Int)(h0:-9223372036854775808<=n)(h1:n<=9223372036854775807:=by omega) :
  aa prog 35 #[.int .i64 n] V fun r V'=>RQ V' r (n:Rat):=by
 refine Ha n V _ fun b e=>(yM n h0 h1).mono ?_;rintro r f h ⟨p,m,c,rfl,g⟩;exact ⟨_,_,_,_,rfl,fun i a=>nq (z:=n) (d:=1) rfl rfl (g.le a) RD.nil rfl⟩
theorem Ki {V:View}(q:Rat){p p':OA}{n c n' c':Nat}(h1:RD V p n c (ai q.num.natAbs)) :
  aa prog 119 #[.agg #[.bool (decide (q.num<0)),.slice p n c,.slice p' n' c']] V fun r V'=>r=.int .i64 q.num.sign:=by
 refine JR _ p n c p' n' c' V _ fun b a=>(DS q.num (h1.le a)).mono ?_;rintro r d e rfl;exact ⟨_,rfl,fun f g=>rfl⟩
theorem kc {V:View}(q:Rat){p p':OA}{n c n' c':Nat}(h1:RD V p n c (ai q.num.natAbs))(h2:RD V p' n' c' (sW q.den)) :
  aa prog 80 #[.agg #[.bool (decide (q.num<0)),.slice p n c,.slice p' n' c']] V fun r V'=>RQ V' r (-q):=by
 refine EX _ p n c p' n' c' V _ fun f a=>(jh q.num (h1.le a)).mono ?_;rintro r h e ⟨i,j,k,rfl,g⟩;exact ⟨_,_,_,_,rfl,fun l b=>nq (q:=-q) (z:=-q.num) (d:=q.den) (by rfl) (by rfl) (g.le b) ((h2.le a).le (e.trans b)) rfl⟩
theorem qH {V:View}{p:OA}{n c x:Nat}(h:RN V p n c x) :
  aa prog 83 #[.bool false,.slice p n c] V fun r V'=>RI V' r (x:Int):=by
 have:=dq false h
 rwa [if_neg (by decide)] at this
theorem cq {x:Rat}{k:Nat}(h:Sz k x):(ai x.num.natAbs).length<=k/\(ai x.den).length<=k/\(ai (x.den:Int).natAbs).length<=k:=⟨ag h.1,ag h.2,ag h.2⟩
theorem fQ {V:View}{v w:Value}{x y:Rat}(hx:RQ V v x)(hy:RQ V w y){k m:Nat}(hk:Sz k x)(hm:Sz m y)(hkm:k+m<274877906944:=by omega) :
  aa prog 74 #[v,w] V fun r V'=>RQ V' r (x+y):=by
 obtain ⟨p,n,c,p',n',c',rfl,f,a⟩:=hx;obtain ⟨q,i,e,q',i',e',rfl,h,b⟩:=hy;have A:=lM a;have zc:=lM b;obtain ⟨b1,b2,b3,b4⟩:=ug hk hm;obtain ⟨d1,d2,d3⟩:=cq hk;obtain ⟨d4,d5,d6⟩:=cq hm;have j:x+y=mkRat (x.num*y.den+y.num*x.den) (x.den*y.den):=Rat.add_def' x y;refine (fun tail=>Da _ p n c p' n' c' _ q i e q' i' e' V _ ⟨fun B=>⟨fun C V1 l=>?_,fun _=>tail⟩,fun _=>tail⟩) ?_
 ·clear tail;have B:x.den=1:=A.1 (by simp at B;omega);have C:y.den=1:=zc.1 (by simp at C;omega);refine (yL x.num y.num (f.le l) (h.le l) (by omega)).mono ?_;rintro r V2 Q ⟨p2,n2,c2,rfl,g⟩
  have e1:x+y=((x.num+y.num:Int):Rat):=by
   rw [j,B,C];simp [Qf2]
  rw [e1];exact ⟨_,_,_,_,rfl,fun V3 t=>nq (z:=x.num+y.num) (d:=1) rfl rfl (g.le t) RD.nil rfl⟩
 ·intro V1 l;refine (cB y _ (b.le l)).mono ?_;rintro r V2 Q ⟨p1,n1,c1,rfl,g1⟩;refine ⟨_,_,_,rfl,fun V3 t=>(qH (g1.le t)).mono ?_⟩;rintro r V4 l4 ⟨p3,n3,c3,rfl,g3⟩;have R:=l.trans (Q.trans (t.trans l4));refine ⟨_,_,_,_,rfl,fun V5 D=>(j_ x.num y.den (f.le (R.trans D)) (g3.le D)).mono ?_⟩;rintro r V6 l6 ⟨p5,n5,c5,rfl,g5⟩;have S:=R.trans (D.trans l6);refine ⟨_,_,_,_,rfl,fun V7 E=>(cB x _ (a.le (S.trans E))).mono ?_⟩;rintro r V8 T ⟨p7,n7,c7,rfl,g7⟩;have MW:=S.trans (E.trans T);refine ⟨_,_,_,rfl,fun V9 F=>(qH (g7.le F)).mono ?_⟩;rintro r gm o ⟨p9,n9,c9,rfl,g9⟩;have U:=MW.trans (F.trans o);refine ⟨_,_,_,_,rfl,fun fH u=>(j_ y.num x.den (h.le (U.trans u)) (g9.le u)).mono ?_⟩;rintro r jC W ⟨Pz,a0,a1,rfl,G⟩;have B_:=U.trans (u.trans W);refine ⟨_,_,_,_,rfl,fun oH H=>(yL _ _ (g5.le (E.trans (T.trans (F.trans (o.trans (u.trans (W.trans H))))))) (G.le H) (Qx3 (ag b1) (by omega)) (Qx3 (ag b2) (by omega))).mono ?_⟩;rintro r mD dP ⟨ZF,a2,a3,rfl,I⟩;have X:=B_.trans (H.trans dP);refine ⟨_,_,_,_,rfl,fun mE J=>(cB x _ (a.le (X.trans J))).mono ?_⟩;rintro r sM Y ⟨ZG,a4,a5,rfl,K⟩;have SB:=X.trans (J.trans Y);refine ⟨_,_,_,rfl,fun nF L=>(cB y _ (b.le (SB.trans L))).mono ?_⟩;rintro r uf Z ⟨ZH,a6,a7,rfl,M⟩;refine ⟨_,_,_,rfl,fun A8 N=>(cp (K.le (L.trans (Z.trans N))) (M.le N)).mono ?_⟩;rintro r Bg mK ⟨ZI,a8,a9,rfl,s⟩;rw [ae,ae] at s;refine ⟨_,_,_,rfl,fun Bh iY=>(iG _ (I.le (J.trans (Y.trans (L.trans (Z.trans (N.trans (mK.trans iY))))))) (s.le iY) (Qx3 (ag b3) (by omega)) (Qx3 (ag b4) (by omega)) (Qj7 x.den_nz y.den_nz)).mono ?_⟩;rw [j];rintro r Dv pD ⟨VT,b0,b5,VU,b6,U6,rfl,O,P⟩;exact ⟨_,_,_,_,_,_,_,rfl,fun Dm lT=>⟨_,_,_,_,_,_,rfl,O.le lT,P.le lT⟩⟩
theorem F_ {V:View}{v w:Value}{x y:Rat}(hx:RQ V v x)(hy:RQ V w y){k m:Nat}(hk:Sz k x)(hm:Sz m y)(hkm:k+m<274877906944) :
  aa prog 121 #[v,w] V fun r V'=>RQ V' r (x-y):=by
 have a:=hx;obtain ⟨p,n,c,l,o,s,rfl,t,u⟩:=hx;obtain ⟨q,i,e,z,A,B,rfl,b,d⟩:=hy;refine EY _ p n c l o s _ q i e z A B V _ fun F f=>(kc y (b.le f) (d.le f)).mono ?_;rintro r G C g;obtain ⟨H,I,J,K,L,M,rfl,N,O⟩:=id g;refine ⟨_,_,_,_,_,_,_,rfl,fun P h=>(fQ (a.le (f.trans (C.trans h))) (g.le h) hk hm.neg hkm).mono ?_⟩;rw [←Qr0];rintro r Q R ⟨S,T,U,W,X,Y,rfl,D,E⟩;exact ⟨_,_,_,_,_,_,_,rfl,fun Z j=>⟨_,_,_,_,_,_,rfl,D.le j,E.le j⟩⟩
theorem zP {V:View}{v w:Value}{x y:Rat}(hx:RQ V v x)(hy:RQ V w y){k m:Nat}(hk:Sz k x)(hm:Sz m y)(hkm:k+m<274877906944:=by omega) :
  aa prog 62 #[v,w] V fun r V'=>r=.int .i64 (cmpQ x y):=by
 have a:=hx;have b:=hy;obtain ⟨p,n,c,f,g,h,rfl,j,l⟩:=hx;obtain ⟨q,i,e,o,s,t,rfl,u,z⟩:=hy;refine JQ _ p n c f g h _ q i e o s t V _ fun C d=>(F_ (a.le d) (b.le d) hk hm hkm).mono ?_;rintro r D E ⟨F,G,H,I,J,K,rfl,A,L⟩;refine ⟨_,_,_,_,_,_,_,rfl,fun M B=>(Ki (x-y) (A.le B)).mono ?_⟩;rintro r N O rfl;exact ⟨_,rfl,fun P Q=>rfl⟩
theorem bS {V:View}{v w:Value}{x y:Rat}(hx:RQ V v x)(hy:RQ V w y){k m:Nat}(hk:Sz k x)(hm:Sz m y)(hkm:k+m<274877906944:=by omega) :
  aa prog 76 #[v,w] V fun r V'=>RQ V' r (x*y):=by
 obtain ⟨p,n,c,K,L,M,rfl,b,f⟩:=hx;obtain ⟨q,i,e,N,O,P,rfl,h,j⟩:=hy;have s:=lM f;have Q:=lM j;obtain ⟨d1,d2,d3⟩:=cq hk;obtain ⟨d4,d5,d6⟩:=cq hm;have l:x*y=mkRat (x.num*y.num) (x.den*y.den):=Wx5 x y;have R:(x.num*y.num).natAbs<2^(k+m):=by rw [Qn4];exact bF hk.1 hm.1
 have S:x.den*y.den<2^(k+m):=bF hk.2 hm.2;refine (fun tail=>AR _ p n c K L M _ q i e N O P V _ ⟨fun t=>⟨fun u T a=>?_,fun _=>tail⟩,fun _=>tail⟩) ?_
 ·clear tail;have t:x.den=1:=s.1 (by simp at t;omega);have u:y.den=1:=Q.1 (by simp at u;omega);refine (j_ x.num y.num (b.le a) (h.le a)).mono ?_;rintro r U A ⟨W,X,Y,rfl,g⟩
  have Z:x*y=((x.num*y.num:Int):Rat):=by
   rw [l,t,u];simp [Qf2]
  rw [Z];exact ⟨_,_,_,_,rfl,fun V3 o=>nq (z:=x.num*y.num) (d:=1) rfl rfl (g.le o) RD.nil rfl⟩
 ·intro T a;refine (j_ x.num y.num (b.le a) (h.le a)).mono ?_;rintro r U A ⟨W,X,Y,rfl,g2⟩;refine ⟨_,_,_,_,rfl,fun V3 o=>(cB x _ (f.le (a.trans (A.trans o)))).mono ?_⟩;rintro r V4 F ⟨p4,n4,c4,rfl,g4⟩;refine ⟨_,_,_,rfl,fun V5 B=>(cB y _ (j.le (a.trans (A.trans (o.trans (F.trans B)))))).mono ?_⟩;rintro r V6 G ⟨p6,n6,c6,rfl,g6⟩;refine ⟨_,_,_,rfl,fun V7 C=>(cp (g4.le (B.trans (G.trans C))) (g6.le C)).mono ?_⟩;rintro r V8 l8 ⟨p8,n8,c8,rfl,H⟩;rw [ae,ae] at H;refine ⟨_,_,_,rfl,fun V9 I=>(iG _ (g2.le (o.trans (F.trans (B.trans (G.trans (C.trans (l8.trans I))))))) (H.le I) (Qx3 (ag R) (by omega)) (Qx3 (ag S) (by omega)) (Qj7 x.den_nz y.den_nz)).mono ?_⟩;rw [l];rintro r Dv pD ⟨VT,a0,a1,VU,a2,U6,rfl,D,E⟩;exact ⟨_,_,_,_,_,_,_,rfl,fun Dm J=>⟨_,_,_,_,_,_,rfl,D.le J,E.le J⟩⟩
end Go.Proofs.Tryz
namespace Go.Eng
open Go.Big
def RP (V:View)(v:Value)(x y:Rat):Prop:=∃p n c p' n' c' q m e q' m' e',v=.agg #[.bool (decide (x.num<0)),.slice p n c,.slice p' n' c',.bool (decide (y.num<0)),.slice q m e,.slice q' m' e'] /\
 RQ V (.agg #[.bool (decide (x.num<0)),.slice p n c,.slice p' n' c']) x/\RQ V (.agg #[.bool (decide (y.num<0)),.slice q m e,.slice q' m' e']) y
theorem RP.le {V V':View}{v:Value}{x y:Rat}(h:RP V v x y)(l:V.Le V'):RP V' v x y:=by
 obtain ⟨p,n,c,a,b,d,q,m,e,f,g,i,rfl,j,k⟩:=h;exact ⟨p,n,c,a,b,d,q,m,e,f,g,i,rfl,j.le l,k.le l⟩
theorem RQ.shape {V:View}{v:Value}{q:Rat}(h:RQ V v q):∃p n c p' n' c',v=.agg #[.bool (decide (q.num<0)),.slice p n c,.slice p' n' c']:=by
 obtain ⟨p,n,c,p',n',c',e,-⟩:=h;exact ⟨_,_,_,_,_,_,e⟩
end Go.Eng
namespace Go.Proofs.Tryz
open Go.Eng Go.Big
theorem rT {V:View}{p:OA}{n c:Nat}{ds:List Nat}(h:RD V p n c ds)(hm:ds.length<=1099511627776:=by omega) :
  aa prog 95 #[.slice p n c] V fun r V'=>∃p1 n1 c1,r=.slice p1 n1 c1/\RD V' p1 n1 c1 ds:=by
 have a:=h.len;refine AV p n c V _ ⟨aG ds,h.sl,by simp [a],by omega,by omega,by simp,by simp [a],?_,?_⟩
 ·intro v e;simp only [aG,Qy0] at e;obtain ⟨d,-,rfl⟩:=e;rfl
 ·intro i J sp j f k l m b g;refine ⟨_,_,_,rfl,?_⟩;simp only [Qy1,Qd8,Qc2,Qm3] at g f ⊢;exact copied h.cV a f g
theorem ji {V:View}{v:Value}{z:Int}(h:RI V v z)(hm:(ai z.natAbs).length<=1099511627776:=by omega) :
  aa prog 44 #[v] V fun r V'=>RI V' r z:=by
 obtain ⟨p,n,c,rfl,h⟩:=h;refine AU _ p n c V _ fun d a=>(rT (h.le a) hm).mono ?_;rintro r e f ⟨i,j,k,rfl,g⟩;exact ⟨_,_,_,rfl,fun l b=>⟨_,_,_,rfl,g.le b⟩⟩
theorem uE {V:View}(x y:Int)(h0:-9223372036854775808<=x)(h1:x<=9223372036854775807)(h2:-9223372036854775808<=y)(h3:y<=9223372036854775807:=by omega) :
  aa prog 47 #[.int .i64 x,.int .i64 y] V fun r V'=>RP V' r (x:Rat) (y:Rat):=by
 refine Dj x y V _ fun h i=>(ka x h0 h1).mono ?_;rintro r j k a;obtain ⟨p,n,c,l,o,s,rfl⟩:=a.shape;refine ⟨_,_,_,_,_,_,_,rfl,fun t f=>(ka y h2 h3).mono ?_⟩;rintro r u g b;obtain ⟨q,m,e,v,w,z,rfl⟩:=b.shape;exact ⟨_,_,_,_,_,_,_,rfl,fun A d=>⟨_,_,_,_,_,_,_,_,_,_,_,_,rfl,a.le (f.trans (g.trans d)),b.le d⟩⟩
theorem jj {V:View}{u v w:Value}{px py c qx qy:Rat}(hp:RP V u px py)(hc:RQ V v c)(hq:RP V w qx qy){k m:Nat}(s1:Sz k px)(s2:Sz k py)(s3:Sz m c)(s4:Sz m qx)(s5:Sz m qy)(hkm:k+(m+m+1)<274877906944:=by omega) :
  aa prog 34 #[u,v,w] V fun r V'=>RP V' r (px+c*qx) (py+c*qy):=by
 obtain ⟨x,y,z,A,B,C,D,E,F,G,H,I,rfl,d,e⟩:=hp;obtain ⟨J,K,L,M,N,O,rfl⟩:=hc.shape;obtain ⟨P,Q,R,S,T,U,W,X,Y,Z,m4,e4,rfl,f,g⟩:=hq;refine AX _ x y z A B C _ D E F G H I _ J K L M N O _ P Q R S T U _ W X Y Z m4 e4 V _ fun V1 a=>(bS (hc.le a) (f.le a) s3 s4).mono ?_;rintro r V2 l n;obtain ⟨a1,a2,a3,a4,a5,a6,rfl⟩:=n.shape;refine ⟨_,_,_,_,_,_,_,rfl,fun V3 h=>(fQ (d.le (a.trans (l.trans h))) (n.le h) s1 (s3.mul s4)).mono ?_⟩;rintro r V4 l4 o;obtain ⟨b1,b2,b3,b4,b5,b6,rfl⟩:=o.shape;have i:=a.trans (l.trans (h.trans l4));refine ⟨_,_,_,_,_,_,_,rfl,fun V5 b=>(bS (hc.le (i.trans b)) (g.le (i.trans b)) s3 s5).mono ?_⟩;rintro r V6 p q;obtain ⟨d1,d2,d3,d4,d5,d6,rfl⟩:=q.shape;refine ⟨_,_,_,_,_,_,_,rfl,fun V7 j=>(fQ (e.le (i.trans (b.trans (p.trans j)))) (q.le j) s2 (s3.mul s5)).mono ?_⟩;rintro r V8 l8 s;obtain ⟨f1,f2,f3,f4,f5,f6,rfl⟩:=s.shape;exact ⟨_,_,_,_,_,_,_,rfl,fun V9 t=>⟨_,_,_,_,_,_,_,_,_,_,_,_,rfl,o.le (b.trans (p.trans (j.trans (l8.trans t)))),s.le t⟩⟩
theorem Lk:Sz 1 ((-1:Int):Rat):=by unfold Sz;decide
theorem BD {V:View}{u w:Value}{px py qx qy:Rat}(hp:RP V u px py)(hq:RP V w qx qy){k m:Nat}(s1:Sz k px)(s2:Sz k py)(s4:Sz m qx)(s5:Sz m qy)(hm:1<=m)(hkm:k+(m+m+1)<274877906944:=by omega) :
  aa prog 79 #[u,w] V fun r V'=>RP V' r (px-qx) (py-qy):=by
 have d:=hp;have e:=hq;obtain ⟨j,l,n,o,p,q,s,t,v,x,y,z,rfl,-,-⟩:=hp;obtain ⟨A,B,c,C,D,E,F,G,H,I,J,K,rfl,-,-⟩:=hq;refine A1 _ j l n o p q _ s t v x y z _ A B c C D E _ F G H I J K V _ fun S L=>(ka (-1) (by omega)).mono ?_;rintro r T M g;obtain ⟨U,W,X,Y,Z,a6,rfl⟩:=g.shape;have h:=L.trans M;refine ⟨_,_,_,_,_,_,_,rfl,fun V3 f=>(jj (d.le (h.trans f)) (g.le f) (e.le (h.trans f)) s1 s2 (Lk.mono hm) s4 s5 hkm).mono ?_⟩
 have c:∀a b:Rat,a+((-1:Int):Rat)*b=a-b:=by
  intro a b;have:((-1:Int):Rat)=-1:=rfl;rw [this,Rat.neg_mul,Rat.one_mul,Qr0]
 rw [c,c];rintro r V4 l4 ⟨b1,b2,b3,b4,b5,b6,b7,b8,b9,N,O,P,rfl,Q,R⟩;exact ⟨_,_,_,_,_,_,_,_,_,_,_,_,_,_,rfl,fun V5 i=>⟨_,_,_,_,_,_,_,_,_,_,_,_,rfl,Q.le i,R.le i⟩⟩
theorem zS {V:View}{u w:Value}{px py qx qy:Rat}(hp:RP V u px py)(hq:RP V w qx qy){k m:Nat}(s1:Sz k px)(s2:Sz k py)(s4:Sz m qx)(s5:Sz m qy)(hkm:k+m<274877906944:=by omega) :
  aa prog 78 #[u,w] V fun r V'=>r=.bool (decide (px=qx/\py=qy)):=by
 obtain ⟨l,n,o,p,q,s,t,v,x,y,z,A,rfl,c,d⟩:=hp;obtain ⟨B,C,D,E,F,G,H,I,J,K,L,M,rfl,f,g⟩:=hq;refine yl _ l n o p q s _ t v x y z A _ B C D E F G _ H I J K L M V _ fun O b=>(zP (c.le b) (f.le b) s1 s4 hkm).mono ?_;rintro r P j rfl;refine ⟨_,rfl,fun a N i=>(zP (d.le (b.trans (j.trans i))) (g.le (b.trans (j.trans i))) s2 s5 hkm).mono ?_,fun a N i=>?_⟩
 ·have a:px=qx:=kK.2 (by simpa using a);rintro r Q R rfl;refine ⟨_,rfl,fun S T=>?_⟩;congr 1;rw [Qx6,decide_eq_true_eq,beq_iff_eq,←kK];exact ⟨fun h=>⟨a,h⟩,fun h=>h.2⟩
 ·have a:¬px=qx:=fun e=>by rw [kK.1 e] at a;simp at a
  rw [decide_eq_false fun h=>a h.1]
end Go.Proofs.Tryz
namespace Go.Eng
open Go.Big
def RL (V:View)(v:Value)(a b c:Int):Prop:=∃p n s p' n' s' q m e,v=.agg #[.bool (decide (a<0)),.slice p n s,.bool (decide (b<0)),.slice p' n' s',.bool (decide (c<0)),.slice q m e] /\
 RD V p n s (ai a.natAbs)/\RD V p' n' s' (ai b.natAbs)/\RD V q m e (ai c.natAbs)
theorem RL.le {V V':View}{v:Value}{a b c:Int}(h:RL V v a b c)(l:V.Le V'):RL V' v a b c:=by
 obtain ⟨p,n,s,d,f,g,q,m,e,rfl,i,j,k⟩:=h;exact ⟨p,n,s,d,f,g,q,m,e,rfl,i.le l,j.le l,k.le l⟩
end Go.Eng
namespace Go.Proofs.Tryz
open Go.Eng Go.Big
theorem f_ {V:View}{p q:OA}{n c m e:Nat}{xs ys:List Nat}(hx:RD V p n c xs)(hy:RD V q m e ys)(hm:xs.length<=1099511627776:=by omega) :
  aa prog 178 #[.slice p n c,.slice q m e] V fun r V'=>r=.bool (decide (xs=ys)):=by
 have g:=hx.len;have s:=hy.len;refine wE p n c q m e V _ ⟨fun b t u=>?_,fun b=>?_⟩
 ·have b:n≠m:=by simp at b;omega
  rw [decide_eq_false fun h=>b (by rw [g,s,h])]
 ·have b:n=m:=by simp at b;omega
  refine ⟨fun z V'=>0<=z/\z<=n/\xs.take z.toNat=ys.take z.toNat,fun z=>n-z.toNat,⟨0,by (try dsimp only);and_intros<;>first|exact True.intro|rfl,by (try dsimp only);omega,by (try dsimp only);omega,rfl⟩,?_⟩;rintro i v o ⟨j,k,d⟩;dsimp only at k d ⊢;obtain ⟨i,rfl⟩:=Qq7 j;simp only [Qq0] at d;refine ⟨by trivial,fun f=>?_,fun f x y=>?_⟩
  ·have f:i<n:=by simpa using f
   refine (hx.le o).rd i rfl (by omega) ((hy.le o).rd i rfl (by omega) ⟨fun a A B=>?_,fun a=>?_⟩)
   ·have a:xs[i]≠ys[i]:=by simp at a;omega
    rw [decide_eq_false fun h=>a (by subst h;rfl)]
   ·have a:xs[i]=ys[i]:=by simp at a;omega
    have w:i64.wrap ((i:Int)+1)=((i+1:Nat):Int):=by rw [ar (by omega)];omega
    simp only [w];refine ⟨((i+1:Nat):Int),?_,by (try dsimp only);and_intros<;>first|exact True.intro|rfl,by (try dsimp only);omega,by (try dsimp only);omega,?_⟩
    ·(try dsimp only);omega
    ·(try dsimp only)
     simp only [Qq0];rw [Qx8 (by omega),Qx8 (l:=ys) (by omega),d,a]
  ·have f:i=n:=by simp at f;omega
   rw [Qc1 (by omega),Qc1 (by omega)] at d;rw [decide_eq_true d]
theorem Jv {z w:Int}:(decide (z<0)==decide (w<0))=true->(decide (ai z.natAbs=ai w.natAbs)=decide (z=w)):=by
 intro h;have b:(z<0↔w<0):=by simpa using h
 rw [Qx6,decide_eq_true_eq,decide_eq_true_eq];constructor
 ·intro a;have:=oX a;omega
 ·intro a;rw [a]
theorem fZ {V:View}{z w:Int}{p q:OA}{n c m e:Nat}(hx:RD V p n c (ai z.natAbs))(hy:RD V q m e (ai w.natAbs))(hm:(ai z.natAbs).length<=1099511627776:=by omega) :
  aa prog 129 #[.agg #[.bool (decide (z<0)),.slice p n c],.agg #[.bool (decide (w<0)),.slice q m e]] V fun r V'=>r=.bool (decide (z=w)):=by
 refine mB _ p n c _ q m e V _ ⟨fun a d b=>(f_ (hx.le b) (hy.le b) hm).mono ?_,fun a d b=>?_⟩
 ·rintro r f g rfl;refine ⟨_,rfl,fun i j=>?_⟩;rw [Jv a]
 ·rw [decide_eq_false fun h=>by subst h;simp at a]
theorem xq {V:View}{v w:Value}{a b c a' b' c':Int}(hx:RL V v a b c)(hy:RL V w a' b' c')(h1:(ai a.natAbs).length<=1099511627776)(h2:(ai b.natAbs).length<=1099511627776)(h3:(ai c.natAbs).length<=1099511627776) :
  aa prog 68 #[v,w] V fun r V'=>r=.bool (decide (a=a'/\b=b'/\c=c')):=by
 obtain ⟨p,n,s,x,y,z,q,m,e,rfl,A,B,C⟩:=hx;obtain ⟨i,j,k,D,E,F,i2,G,H,rfl,I,J,K⟩:=hy;refine wH _ p n s _ x y z _ q m e _ i j k _ D E F _ i2 G H V _ fun L d=>(fZ (A.le d) (I.le d) h1).mono ?_;rintro r M l rfl;refine ⟨_,rfl,fun f N o=>(fZ (B.le (d.trans (l.trans o))) (J.le (d.trans (l.trans o))) h2).mono ?_,fun f O P=>?_⟩
 ·rintro r Q t rfl;rw [decide_eq_true_eq] at f;refine ⟨_,rfl,fun g R u=>(fZ (C.le (d.trans (l.trans (o.trans (t.trans u))))) (K.le (d.trans (l.trans (o.trans (t.trans u))))) h3).mono ?_,fun g S T=>?_⟩
  ·rintro r U W rfl;rw [decide_eq_true_eq] at g;refine ⟨_,rfl,fun X Y=>?_⟩;congr 1;rw [Qx6,decide_eq_true_eq,decide_eq_true_eq];exact ⟨fun h=>⟨f,g,h⟩,fun h=>h.2.2⟩
  ·rw [decide_eq_false_iff_not] at g;rw [decide_eq_false fun h=>g h.2.1]
 ·rw [decide_eq_false_iff_not] at f;rw [decide_eq_false fun h=>f h.1]
theorem BE {V:View}{v:Value}{a b c:Int}(hx:RL V v a b c)(h1:(ai a.natAbs).length<=1099511627776)(h2:(ai b.natAbs).length<=1099511627776)(h3:(ai c.natAbs).length<=1099511627776) :
  aa prog 14 #[v] V fun r V'=>RL V' r a b c:=by
 obtain ⟨p,n,s,l,o,t,q,m,e,rfl,u,w,x⟩:=hx;refine A2 _ p n s _ l o t _ q m e V _ fun B d=>(ji ⟨_,_,_,rfl,u.le d⟩ h1).mono ?_;rintro r C i ⟨D,E,F,rfl,y⟩;refine ⟨_,_,_,_,rfl,fun G f=>(ji ⟨_,_,_,rfl,w.le (d.trans (i.trans f))⟩ h2).mono ?_⟩;rintro r H j ⟨I,J,K,rfl,z⟩;refine ⟨_,_,_,_,rfl,fun L g=>(ji ⟨_,_,_,rfl,x.le (d.trans (i.trans (f.trans (j.trans g))))⟩ h3).mono ?_⟩;rintro r M k ⟨N,O,P,rfl,A⟩;exact ⟨_,_,_,_,rfl,fun Q h=>⟨_,_,_,_,_,_,_,_,_,rfl,y.le (f.trans (j.trans (g.trans (k.trans h)))),z.le (g.trans (k.trans h)),A.le h⟩⟩
theorem uM {z:Int}{g:Nat}(hg:0<g)(hd:g∣z.natAbs):(if decide (z<0)=true then -((z.natAbs / g:Nat):Int) else ((z.natAbs / g:Nat):Int))=z / (g:Int):=by
 obtain ⟨k,a⟩:=hd;have b:z.natAbs / g=k:=by rw [a,Nat.mul_div_cancel_left _ hg]
 rw [b]
 have c:z=(g:Int)*(if decide (z<0)=true then -(k:Int) else k):=by
  split
  ·rename_i h;rw [decide_eq_true_eq] at h;rw [Qt1,←Qb8,←a];omega
  ·rename_i h;rw [decide_eq_true_eq] at h;rw [←Qb8,←a];omega
 generalize (if decide (z<0)=true then -(k:Int) else k)=t at *;rw [c,Qg2 _ (by omega)]
def bC (a b c:Int):Nat:=Nat.gcd (Nat.gcd a.natAbs b.natAbs) c.natAbs
theorem xo {V:View}{u v w:Value}{a b c:Int}(ha:RI V u a)(hb:RI V v b)(hc:RI V w c)(h1:(ai a.natAbs).length<=274877906944)(h2:(ai b.natAbs).length<=274877906944)(h3:(ai c.natAbs).length<=274877906944) :
  aa prog 84 #[u,v,w] V fun r V'=>(a=0/\b=0->∃l,r=.tuple #[l,.bool false]/\RL V' l 0 0 0) /\
   (¬(a=0/\b=0)->∃l,r=.tuple #[l,.bool true]/\RL V' l (a / (bC a b c:Int)) (b / (bC a b c:Int)) (c / (bC a b c:Int))):=by
 obtain ⟨p,n,s,rfl,ha⟩:=ha;obtain ⟨T,U,W,rfl,hb⟩:=hb;obtain ⟨q,m,e,rfl,hc⟩:=hc;refine wF _ p n s _ T U W _ q m e V _ fun V1 j=>(fp (ha.le j) (hb.le j) h1 h2).mono ?_;rintro r V2 L ⟨p1,n1,c1,rfl,M⟩;have hp:=fw M.len;have t:Nat.gcd a.natAbs b.natAbs=0↔a=0/\b=0:=by rw [Qd3];omega
 refine ⟨_,_,_,rfl,fun x V3 l3=>⟨fun _=>⟨_,rfl,_,_,_,_,_,_,_,_,_,rfl,RD.nil,RD.nil,RD.nil⟩,fun h=>?_⟩,fun x V4 y=>?_⟩
 ·exact absurd (t.1 (by simp at x;omega)) h
 have z:¬(a=0/\b=0):=fun h=>by have:=t.2 h;simp at x;omega
 have g:0<Nat.gcd a.natAbs b.natAbs:=by have:=t;omega
 have i:(ai (Nat.gcd a.natAbs b.natAbs)).length<=274877906944:=by
  rcases Qx9 a.natAbs with h|h
  ·rw [h,Qh5];exact h2
  ·exact Qx3 (aD (Qr1 _ h)) h1
 refine (fp (M.le y) (hc.le (j.trans (L.trans y))) i h3).mono ?_;rintro r V5 X ⟨p2,n2,c2,rfl,k⟩;have A:=j.trans (L.trans (y.trans X));have Y:Nat.gcd (Nat.gcd a.natAbs b.natAbs) c.natAbs=bC a b c:=rfl;have d:0<bC a b c:=Nat.gcd_pos_of_pos_left _ g;have B:(ai (bC a b c)).length<=274877906944:=Qx3 (aD (Qr1 _ g)) i;have Z:bC a b c∣a.natAbs:=Qr2 (Qk8 _ _) (Qk8 _ _);have db:bC a b c∣b.natAbs:=Qr2 (Qk8 _ _) (Qb0 _ _);have dc:bC a b c∣c.natAbs:=Qb0 _ _;have sa:=uM d Z;have sb:=uM d db;have sc:=uM d dc;rw [Y] at k;generalize bC a b c=G at *;refine ⟨_,_,_,rfl,fun V6 C=>(dM (ha.le (A.trans C)) (k.le C) h1 B d).mono ?_⟩;rintro r V7 l7 ⟨p3,n3,c3,p4,n4,c4,rfl,g3,-⟩;have D:=C.trans l7;refine ⟨_,_,_,_,_,_,rfl,fun V8 o=>(dM (hb.le (A.trans (D.trans o))) (k.le (D.trans o)) h2 B d).mono ?_⟩;rintro r V9 N ⟨p5,n5,c5,p6,n6,c6,rfl,g5,-⟩;have O:=D.trans (o.trans N);refine ⟨_,_,_,_,_,_,rfl,fun gm f=>(dM (hc.le (A.trans (O.trans f))) (k.le (O.trans f)) h3 B d).mono ?_⟩;rintro r fH P ⟨p7,n7,c7,p8,n8,c8,rfl,g7,-⟩;refine ⟨_,_,_,_,_,_,rfl,fun jC E=>(dq _ (g3.le (o.trans (N.trans (f.trans (P.trans E)))))).mono ?_⟩;rw [sa];rintro r oH Q ⟨p9,n9,c9,rfl,g9⟩;refine ⟨_,_,_,_,rfl,fun mD F=>(dq _ (g5.le (f.trans (P.trans (E.trans (Q.trans F)))))).mono ?_⟩;rw [sb];rintro r mE R ⟨L4,a0,a1,rfl,H⟩;refine ⟨_,_,_,_,rfl,fun sM I=>(dq _ (g7.le (E.trans (Q.trans (F.trans (R.trans I)))))).mono ?_⟩;rw [sc];rintro r nF S ⟨Pz,a2,a3,rfl,J⟩;refine ⟨_,_,_,_,rfl,fun uf K=>⟨fun h=>absurd h z,fun _=>⟨_,rfl,_,_,_,_,_,_,_,_,_,rfl,?_,?_,?_⟩⟩⟩
 ·exact g9.le (F.trans (R.trans (I.trans (S.trans K))))
 ·exact H.le (I.trans (S.trans K))
 ·exact J.le K
end Go.Proofs.Tryz
namespace Go.Eng
open Go.Big
def zB (V:View)(v:Value)(a b c:Rat):Prop:=∃(x1 x2:Int)(p:OA)(y1 y2:Int)(q:OA)(z1 z2:Int)(r:OA),v=.agg #[.int .i64 x1,.int .i64 x2,.pointer p,.int .i64 y1,.int .i64 y2,.pointer q,.int .i64 z1,.int .i64 z2,.pointer r] /\
 RR V (.agg #[.int .i64 x1,.int .i64 x2,.pointer p]) a/\RR V (.agg #[.int .i64 y1,.int .i64 y2,.pointer q]) b/\RR V (.agg #[.int .i64 z1,.int .i64 z2,.pointer r]) c
def NV (v:Value):Prop:=∃(x1 x2:Int)(x3:OA)(y1 y2:Int)(y3:OA)(z1 z2:Int)(z3:OA),v=.agg #[.int .i64 x1,.int .i64 x2,.pointer x3,.int .i64 y1,.int .i64 y2,.pointer y3,.int .i64 z1,.int .i64 z2,.pointer z3]
theorem zB.le {V V':View}{v:Value}{a b c:Rat}(h:zB V v a b c)(l:V.Le V'):zB V' v a b c:=by
 obtain ⟨d,e,p,f,g,q,i,j,r,rfl,k,m,n⟩:=h;exact ⟨d,e,p,f,g,q,i,j,r,rfl,k.le l,m.le l,n.le l⟩
end Go.Eng
namespace Go.Proofs.Tryz
open Go.Eng Go.Big
theorem F7 {V:View}{v:Value}{a b c:Rat}(h:zB V v a b c){k:Nat}(s1:Sz k a)(s2:Sz k b)(s3:Sz k c)(hk:k<=1099511627776) :
  aa prog 164 #[v] V fun r V'=>RL V' r a.num b.num c.num:=by
 obtain ⟨w,x,p,y,z,q,A,B,r,rfl,m,n,o⟩:=h;refine xT _ _ _ _ _ _ _ _ _ V _ fun C d=>(eJ (m.le d) s1 hk).mono ?_;rintro r D i ⟨E,F,G,rfl,s⟩;refine ⟨_,_,_,_,rfl,fun H e=>(eJ (n.le (d.trans (i.trans e))) s2 hk).mono ?_⟩;rintro r I j ⟨J,K,L,rfl,t⟩;refine ⟨_,_,_,_,rfl,fun M f=>(eJ (o.le (d.trans (i.trans (e.trans (j.trans f))))) s3 hk).mono ?_⟩;rintro r N l ⟨O,P,Q,rfl,u⟩;exact ⟨_,_,_,_,rfl,fun R g=>⟨_,_,_,_,_,_,_,_,_,rfl,s.le (e.trans (j.trans (f.trans (l.trans g)))),t.le (f.trans (l.trans g)),u.le g⟩⟩
def lE (b1:Bool)(xs:List Nat)(b2:Bool)(ys:List Nat)(b3:Bool)(zs:List Nat):Bool:=
 fE b1 xs&&fE b2 ys&&fE b3 zs&&!(decide ((aA b1 xs:Rat)=0)&&decide ((aA b2 ys:Rat)=0))&&decide (cY (cY (aA b1 xs) (aA b2 ys)) (aA b3 zs)=((1:Int):Rat))
theorem qX {V:View}{ok:Bool}{A B C:Rat}(h:ok=false):∃v,Value.tuple #[.agg #[.int .i64 0,.int .i64 0,.pointer none,.int .i64 0,.int .i64 0,.pointer none,.int .i64 0,.int .i64 0,.pointer none],.bool false]=.tuple #[v,.bool ok]/\NV v/\(ok=true->zB V v A B C):=by
 subst h;exact ⟨_,rfl,⟨_,_,_,_,_,_,_,_,_,rfl⟩,fun h=>nomatch h⟩
theorem JK:Sz 1 ((1:Int):Rat):=by unfold Sz;decide
theorem DN {V:View}(b1 b2 b3:Bool){p q s:OA}{n c m e i j:Nat}{xs ys zs:List Nat}(hx:RD V p n c xs)(hy:RD V q m e ys)(hz:RD V s i j zs)
  (h1:xs.length<=1099511627776)(h2:ys.length<=1099511627776)(h3:zs.length<=1099511627776){k:Nat}(s1:Sz k (aA b1 xs:Rat))(s2:Sz k (aA b2 ys:Rat))(s3:Sz k (aA b3 zs:Rat))(hk:4*k+4<1099511627776) :
  aa prog 40 #[.agg #[.bool b1,.slice p n c,.bool b2,.slice q m e,.bool b3,.slice s i j]] V fun r V'=>∃v,r=.tuple #[v,.bool (lE b1 xs b2 ys b3 zs)]/\NV v/\(lE b1 xs b2 ys b3 zs=true->zB V' v (aA b1 xs) (aA b2 ys) (aA b3 zs)):=by
 refine CV _ p n c _ q m e _ s i j V _ fun V1 G=>(dL b1 (hx.le G) h1).mono ?_;rintro r V2 J rfl;refine ⟨_,rfl,fun b V3 l3=>qX ?_,fun b V4 K=>(dL b2 (hy.le (G.trans (J.trans K))) h2).mono ?_⟩
 ·have b:fE b1 xs=false:=by simpa using b
  simp [lE,b]
 have b:fE b1 xs=true:=by simpa using b
 rintro r V5 W rfl;refine ⟨_,rfl,fun d V6 l6=>qX ?_,fun d V7 X=>(dL b3 (hz.le (G.trans (J.trans (K.trans (W.trans X))))) h3).mono ?_⟩
 ·have d:fE b2 ys=false:=by simpa using d
  simp [lE,d]
 have d:fE b2 ys=true:=by simpa using d
 rintro r V8 l8 rfl;have Y:=G.trans (J.trans (K.trans (W.trans (X.trans l8))));refine ⟨_,rfl,fun f0 V9 l9=>qX ?_,fun f0 gm w=>(kF b1 (hx.le (Y.trans w)) h1).mono ?_⟩
 ·have f0:fE b3 zs=false:=by simpa using f0
  simp [lE,f0]
 have f0:fE b3 zs=true:=by simpa using f0
 rintro r fH bE f;obtain ⟨x1,x2,x3,rfl⟩:=f.shape;have Z:=Y.trans (w.trans bE);refine ⟨_,_,_,rfl,fun jC L=>(kF b2 (hy.le (Z.trans L)) h2).mono ?_⟩;rintro r oH cN g;obtain ⟨y1,y2,y3,rfl⟩:=g.shape;have SA:=Z.trans (L.trans cN);refine ⟨_,_,_,rfl,fun mD M=>(kF b3 (hz.le (SA.trans M)) h3).mono ?_⟩;rintro r H dj rc;obtain ⟨z1,z2,z3,rfl⟩:=rc.shape
 replace f:=f.le (L.trans (cN.trans (M.trans dj)))
 replace g:=g.le (M.trans dj)
 have x:lE b1 xs b2 ys b3 zs=(!(decide ((aA b1 xs:Rat)=0)&&decide ((aA b2 ys:Rat)=0))&&decide (cY (cY (aA b1 xs) (aA b2 ys)) (aA b3 zs)=((1:Int):Rat))):=by
  simp only [lE,b,d,f0,Qh6]
 rw [x];clear x b d f0 hx hy hz;generalize (aA b1 xs:Rat)=A at *;generalize (aA b2 ys:Rat)=B at *;generalize (aA b3 zs:Rat)=C at *;refine ⟨_,_,_,rfl,fun sM I=>(oQ (f.le I)).mono ?_⟩;rintro r nF N rfl;refine ⟨_,rfl,fun t0 uf fF=>(oQ (g.le (I.trans (N.trans fF)))).mono ?_,fun t0 O P=>?_⟩
 ·rintro r A8 gj rfl;refine ⟨_,rfl,fun Q Bg mK=>qX (by rw [t0,Q];rfl),fun Q O P=>?_⟩;have lb:H.Le O:=I.trans (N.trans (fF.trans (gj.trans P)));have R:(decide (A=0)&&decide (B=0))=false:=by rw [Q,Wy2]
  rw [R];refine (fL (f.le lb) (g.le lb) s1 s2).mono ?_;rintro r Dv y rg;obtain ⟨g1,g2,g3,rfl⟩:=rg.shape;refine ⟨_,_,_,rfl,fun Dm l=>(fL (rg.le l) (rc.le (lb.trans (y.trans l))) (fj s1 s2) s3).mono ?_⟩;rintro r JV S z;obtain ⟨h1,h2,h3,rfl⟩:=z.shape;refine ⟨_,_,_,rfl,fun JW D=>(iC 1 (by omega)).mono ?_⟩;rintro r Ny E F;obtain ⟨i1,i2,i3,rfl⟩:=F.shape;refine ⟨_,_,_,rfl,fun NA o=>(j8 (z.le (D.trans (E.trans o))) (F.le o) (fj (fj s1 s2) s3) JK).mono ?_⟩;rintro r T U rfl;have t:H.Le T:=lb.trans (y.trans (l.trans (S.trans (D.trans (E.trans (o.trans U))))));refine ⟨_,rfl,fun a NZ KH=>qX ?_,fun a Mi u=>?_⟩
  ·rw [Qw7] at a;rw [a];rfl
  ·have a:decide (cY (cY A B) C=((1:Int):Rat))=true:=by
    cases h:decide (cY (cY A B) C=((1:Int):Rat))
    ·rw [h] at a;cases a
    ·rfl
   rw [a];exact ⟨_,rfl,⟨_,_,_,_,_,_,_,_,_,rfl⟩,fun _=>⟨_,_,_,_,_,_,_,_,_,rfl,f.le (t.trans u),g.le (t.trans u),rc.le (t.trans u)⟩⟩
 ·have lb:H.Le O:=I.trans (N.trans P);have R:(decide (A=0)&&decide (B=0))=false:=by rw [t0,Bool.false_and]
  rw [R];refine (fL (f.le lb) (g.le lb) s1 s2).mono ?_;rintro r Dv y rg;obtain ⟨g1,g2,g3,rfl⟩:=rg.shape;refine ⟨_,_,_,rfl,fun Dm l=>(fL (rg.le l) (rc.le (lb.trans (y.trans l))) (fj s1 s2) s3).mono ?_⟩;rintro r JV S z;obtain ⟨h1,h2,h3,rfl⟩:=z.shape;refine ⟨_,_,_,rfl,fun JW D=>(iC 1 (by omega)).mono ?_⟩;rintro r Ny E F;obtain ⟨i1,i2,i3,rfl⟩:=F.shape;refine ⟨_,_,_,rfl,fun NA o=>(j8 (z.le (D.trans (E.trans o))) (F.le o) (fj (fj s1 s2) s3) JK).mono ?_⟩;rintro r T U rfl;have t:H.Le T:=lb.trans (y.trans (l.trans (S.trans (D.trans (E.trans (o.trans U))))));refine ⟨_,rfl,fun a NZ KH=>qX ?_,fun a Mi u=>?_⟩
  ·rw [Qw7] at a;rw [a];rfl
  ·have a:decide (cY (cY A B) C=((1:Int):Rat))=true:=by
    cases h:decide (cY (cY A B) C=((1:Int):Rat))
    ·rw [h] at a;cases a
    ·rfl
   rw [a];exact ⟨_,rfl,⟨_,_,_,_,_,_,_,_,_,rfl⟩,fun _=>⟨_,_,_,_,_,_,_,_,_,rfl,f.le (t.trans u),g.le (t.trans u),rc.le (t.trans u)⟩⟩
def I7:List Int->Int
 | []=>0
 | x::r=>if x=0 then I7 r else x
def MO (l:List Int):List Value:=l.map fun x=>Value.int .i64 x
theorem M9 {l:List Int}:I7 l=0↔∀x∈l,x=0:=by
 induction l with
 | nil=>simp [I7]
 | cons x r ih=>
  simp only [I7,Qq4,forall_eq_or_imp];split
  ·rename_i h;simp [h,ih]
  ·rename_i h;simp [h]
theorem HV {V:View}{p:OA}{n c:Nat}{l:List Int}(hl:n=l.length)(hs:V.sl p (MO l))(hm:l.length<=1099511627776) :
  aa prog 175 #[.slice p n c] V fun r V'=>r=.int .i64 (I7 l):=by
 refine G_ p n c V _ ⟨fun z V'=>0<=z/\z<=n/\I7 l=I7 (l.drop z.toNat),fun z=>n-z.toNat,⟨0,by (try dsimp only);and_intros<;>first|exact True.intro|rfl,by (try dsimp only);omega,by (try dsimp only);omega,rfl⟩,?_⟩;rintro i m j ⟨e,f,he⟩;dsimp only at f he ⊢;obtain ⟨i,rfl⟩:=Qq7 e;simp only [Qq0] at he;refine ⟨by trivial,fun b=>?_,fun b o q=>?_⟩
 ·have b:i<n:=by simpa using b
  have d:i<l.length:=by omega
  obtain ⟨k,h,g⟩:=(j.sl hs) i (.int .i64 l[i]) (by simp [MO,d]);rw [Qw4 d,I7] at he;refine ⟨by rw [h];rfl,⟨by omega,by omega⟩,l[i],⟨k.add i,by rw [h];simp [ah],g⟩,fun a s t=>?_,fun a=>?_⟩
  ·have a:l[i]≠0:=by simpa using a
   rw [if_neg a] at he;rw [he]
  ·have a:l[i]=0:=by simpa using a
   rw [if_pos a] at he;have w:i64.wrap ((i:Int)+1)=((i+1:Nat):Int):=by rw [ar (by omega)];omega
   simp only [w];refine ⟨((i+1:Nat):Int),?_,by (try dsimp only);and_intros<;>first|exact True.intro|rfl,by (try dsimp only);omega,by (try dsimp only);omega,?_⟩
   ·(try dsimp only);omega
   ·exact he
 ·have b:i=n:=by simp at b;omega
  rw [Qx0 (by omega)] at he;rw [he];rfl
theorem yG {V:View}{v w:Value}{a b c a' b' c':Rat}(hx:zB V v a b c)(hy:zB V w a' b' c'){k m:Nat}(s1:Sz k a)(s2:Sz k b)(s3:Sz k c)(t1:Sz m a')(t2:Sz m b')(t3:Sz m c')(hk:k+m<1099511627776:=by omega) :
  aa prog 125 #[v,w] V fun r V'=>r=.int .i64 (I7 [cmpQ a a',cmpQ b b',cmpQ c c']):=by
 obtain ⟨A,B,p,C,D,q,E,F,r,rfl,j,n,o⟩:=hx;obtain ⟨G,H,I,J,K,L,M,N,O,rfl,s,t,u⟩:=hy;refine xU _ _ _ _ _ _ _ _ _ _ _ _ _ _ _ _ _ _ V _ fun P d=>(ia (j.le d) (s.le d) s1 t1 hk).mono ?_;rintro r Q e rfl;refine ⟨_,rfl,fun R f=>(ia (n.le (d.trans (e.trans f))) (t.le (d.trans (e.trans f))) s2 t2 hk).mono ?_⟩;rintro r S x rfl;have g:=d.trans (e.trans (f.trans x));refine ⟨_,rfl,fun T h=>(ia (o.le (g.trans h)) (u.le (g.trans h)) s3 t3 hk).mono ?_⟩;rintro r U W rfl;refine ⟨_,rfl,fun X Y Z y=>(HV (l:=[cmpQ a a',cmpQ b b',cmpQ c c']) rfl (fun i v z=>⟨_,rfl,by rw [add_zero'];exact fJ (xs:=MO [cmpQ a a',cmpQ b b',cmpQ c c']) y z⟩) (by simp)).mono ?_⟩;rintro r V8 l8 rfl;exact ⟨_,rfl,fun _ V9 l9=>rfl⟩
theorem Bx {V:View}{v w:Value}{a b c a' b' c':Rat}(hx:zB V v a b c)(hy:zB V w a' b' c'){k m:Nat}(s1:Sz k a)(s2:Sz k b)(s3:Sz k c)(t1:Sz m a')(t2:Sz m b')(t3:Sz m c')(hk:k+m<1099511627776) :
  aa prog 126 #[v,w] V fun r V'=>r=.bool (decide (a=a'/\b=b'/\c=c')):=by
 have d:=hx;have e:=hy;obtain ⟨g,h,p,i,j,q,l,n,r,rfl,-,-,-⟩:=hx;obtain ⟨o,s,t,u,x,y,z,A,B,rfl,-,-,-⟩:=hy;refine tB _ _ _ _ _ _ _ _ _ _ _ _ _ _ _ _ _ _ V _ fun C f=>(yG (d.le f) (e.le f) s1 s2 s3 t1 t2 t3 hk).mono ?_;rintro r D E rfl;refine ⟨_,rfl,fun F G=>?_⟩;congr 1;rw [Qx6,decide_eq_true_eq,beq_iff_eq,M9];simp [←kK]
def lF (V:View)(v:Value)(x y:Rat):Prop:=∃(x1 x2:Int)(p:OA)(y1 y2:Int)(q:OA),v=.agg #[.int .i64 x1,.int .i64 x2,.pointer p,.int .i64 y1,.int .i64 y2,.pointer q] /\
 RR V (.agg #[.int .i64 x1,.int .i64 x2,.pointer p]) x/\RR V (.agg #[.int .i64 y1,.int .i64 y2,.pointer q]) y
theorem lF.le {V V':View}{v:Value}{x y:Rat}(h:lF V v x y)(l:V.Le V'):lF V' v x y:=by
 obtain ⟨a,b,p,c,d,q,e,f,g⟩:=h;exact ⟨a,b,p,c,d,q,e,f.le l,g.le l⟩
theorem zL {V:View}{p:Value}{fg fh:Rat}{q:Value}{sv sw:Rat}(hp:lF V p fg fh)(hq:lF V q sv sw){k:Nat}(dE:Sz k fg)(dm:Sz k fh)(mU:Sz k sv)(mV:Sz k sw)(hk:2*k+1<274877906944:=by omega) :
  aa prog 219 #[p,q] V fun r V'=>lF V' r ((fg)+(sv)) ((fh)+(sw)):=by
 have i:=hp;obtain ⟨j,l,m,n,o,s,rfl,t,u⟩:=hp;have v:=hq;obtain ⟨w,x,y,z,A,B,rfl,C,D⟩:=hq;refine xX j l m n o s w x y z A B V _ fun F a=>(oO (t.le (a)) (C.le (a)) dE mU).mono ?_;rintro r G e f;have b:=f;obtain ⟨H,I,J,rfl⟩:=f.shape;refine ⟨_,_,_,rfl,fun K c=>(oO (u.le (a.trans (e.trans (c)))) (D.le (a.trans (e.trans (c)))) dm mV).mono ?_⟩;rintro r L E g;have d:=g;obtain ⟨M,N,O,rfl⟩:=g.shape;exact ⟨_,_,_,rfl,fun P h=>⟨_,_,_,_,_,_,rfl,(b.le (c.trans (E.trans (h)))),(d.le (h))⟩⟩
theorem wN {fg fh sv sw:Rat}{k:Nat}(dE:Sz k fg)(dm:Sz k fh)(mU:Sz k sv)(mV:Sz k sw):Sz (2*k+1) ((fg)+(sv)):=by
 have a:=Sz.mono (m:=2*k+1) (Sz.add dE mU);exact Sz.mono a
theorem wO {fg fh sv sw:Rat}{k:Nat}(dE:Sz k fg)(dm:Sz k fh)(mU:Sz k sv)(mV:Sz k sw):Sz (2*k+1) ((fh)+(sw)):=by
 have a:=Sz.mono (m:=2*k+1) (Sz.add dm mV);exact Sz.mono a
theorem zM {V:View}{p:Value}{fg fh:Rat}{q:Value}{sv sw:Rat}(hp:lF V p fg fh)(hq:lF V q sv sw){k:Nat}(dE:Sz k fg)(dm:Sz k fh)(mU:Sz k sv)(mV:Sz k sw)(hk:2*k+1<274877906944:=by omega) :
  aa prog 216 #[p,q] V fun r V'=>lF V' r ((fg)-(sv)) ((fh)-(sw)):=by
 have i:=hp;obtain ⟨j,l,m,n,o,s,rfl,t,u⟩:=hp;have v:=hq;obtain ⟨w,x,y,z,A,B,rfl,C,D⟩:=hq;refine xZ j l m n o s w x y z A B V _ fun F a=>(zK (t.le (a)) (C.le (a)) dE mU).mono ?_;rintro r G e f;have b:=f;obtain ⟨H,I,J,rfl⟩:=f.shape;refine ⟨_,_,_,rfl,fun K c=>(zK (u.le (a.trans (e.trans (c)))) (D.le (a.trans (e.trans (c)))) dm mV).mono ?_⟩;rintro r L E g;have d:=g;obtain ⟨M,N,O,rfl⟩:=g.shape;exact ⟨_,_,_,rfl,fun P h=>⟨_,_,_,_,_,_,rfl,(b.le (c.trans (E.trans (h)))),(d.le (h))⟩⟩
theorem lH {V:View}{p:Value}{fg fh:Rat}{c:Value}{JX:Rat}(hp:lF V p fg fh)(hc:RR V c JX){k:Nat}(dE:Sz k fg)(dm:Sz k fh)(G1:Sz k JX)(hk:2*k+1<274877906944:=by omega) :
  aa prog 200 #[p,c] V fun r V'=>lF V' r ((fg)*(JX)) ((fh)*(JX)):=by
 have l:=hp;obtain ⟨m,n,o,q,s,t,rfl,u,v⟩:=hp;have a:=hc;obtain ⟨w,x,y,rfl⟩:=hc.shape;refine tF m n o q s t w x y V _ fun A b=>(jf (u.le (b)) (a.le (b)) dE G1).mono ?_;rintro r B g h;have d:=h;obtain ⟨C,D,E,rfl⟩:=h.shape;refine ⟨_,_,_,rfl,fun F e=>(jf (v.le (b.trans (g.trans (e)))) (a.le (b.trans (g.trans (e)))) dm G1).mono ?_⟩;rintro r G z i;have f:=i;obtain ⟨H,I,J,rfl⟩:=i.shape;exact ⟨_,_,_,rfl,fun K j=>⟨_,_,_,_,_,_,rfl,(d.le (e.trans (z.trans (j)))),(f.le (j))⟩⟩
theorem dV {fg fh JX:Rat}{k:Nat}(dE:Sz k fg)(dm:Sz k fh)(G1:Sz k JX):Sz (2*k+1) ((fg)*(JX)):=by
 have a:=Sz.mono (m:=2*k+1) (Sz.mul dE G1);exact Sz.mono a
theorem dW {fg fh JX:Rat}{k:Nat}(dE:Sz k fg)(dm:Sz k fh)(G1:Sz k JX):Sz (2*k+1) ((fh)*(JX)):=by
 have a:=Sz.mono (m:=2*k+1) (Sz.mul dm G1);exact Sz.mono a
theorem xj {V:View}{p:Value}{fg fh:Rat}(hp:lF V p fg fh){k:Nat}(dE:Sz k fg)(dm:Sz k fh)(hk:1*k+1<274877906944:=by omega) :
  aa prog 217 #[p] V fun r V'=>lF V' r (-(fh)) (fg):=by
 have e:=hp;obtain ⟨f,g,h,i,j,l,rfl,m,n⟩:=hp;refine wh f g h i j l V _ fun q b=>(oP (n.le (b)) dm).mono ?_;rintro r s o c;have a:=c;obtain ⟨t,u,v,rfl⟩:=c.shape;exact ⟨_,_,_,rfl,fun w d=>⟨_,_,_,_,_,_,rfl,(a.le (d)),(m.le (b.trans (o.trans (d))))⟩⟩
theorem fo {V:View}{p:Value}{fg fh:Rat}{q:Value}{sv sw:Rat}(hp:lF V p fg fh)(hq:lF V q sv sw){k:Nat}(dE:Sz k fg)(dm:Sz k fh)(mU:Sz k sv)(mV:Sz k sw)(hk:4*k+3<274877906944:=by omega) :
  aa prog 156 #[p,q] V fun r V'=>RR V' r (((fg)*(sv))+((fh)*(sw))):=by
 have j:=hp;obtain ⟨l,n,o,s,t,u,rfl,v,w⟩:=hp;have x:=hq;obtain ⟨y,z,A,B,C,D,rfl,E,F⟩:=hq;refine xY l n o s t u y z A B C D V _ fun L a=>(jf (v.le (a)) (E.le (a)) dE mU).mono ?_;rintro r M e f;have b:=f;obtain ⟨N,O,P,rfl⟩:=f.shape;have G:=Sz.mono (m:=2*k+1) (Sz.mul dE mU);refine ⟨_,_,_,rfl,fun Q c=>(jf (w.le (a.trans (e.trans (c)))) (F.le (a.trans (e.trans (c)))) dm mV).mono ?_⟩;rintro r R H g;have d:=g;obtain ⟨S,T,U,rfl⟩:=g.shape;have I:=Sz.mono (m:=2*k+1) (Sz.mul dm mV);refine ⟨_,_,_,rfl,fun W h=>(oO (b.le (c.trans (H.trans (h)))) (d.le (h)) G I).mono ?_⟩;rintro r X Y i;have J:=i;obtain ⟨Z,Nr,Ns,rfl⟩:=i.shape;exact ⟨_,_,_,rfl,fun V7 K=>(J.le (K))⟩
theorem bH {fg fh sv sw:Rat}{k:Nat}(dE:Sz k fg)(dm:Sz k fh)(mU:Sz k sv)(mV:Sz k sw):Sz (4*k+3) (((fg)*(sv))+((fh)*(sw))):=by
 have a:=Sz.mono (m:=2*k+1) (Sz.mul dE mU);have b:=Sz.mono (m:=2*k+1) (Sz.mul dm mV);have c:=Sz.mono (m:=4*k+3) (Sz.add a b);exact Sz.mono c
theorem oS {V:View}{l:Value}{bD l_1 c_:Rat}(hl:zB V l bD l_1 c_){k:Nat}(bh:Sz k bD)(bo:Sz k l_1)(bf:Sz k c_)(hk:1*k+1<274877906944:=by omega) :
  aa prog 157 #[l] V fun r V'=>lF V' r (l_1) (-(bD)):=by
 have f:=hl;obtain ⟨g,a,c,b,h,i,j,m,n,rfl,o,p,q⟩:=hl;refine xV g a c b h i j m n V _ fun s a=>(oP (o.le (a)) bh).mono ?_;rintro r t c e;have d:=e;obtain ⟨u,v,w,rfl⟩:=e.shape;exact ⟨_,_,_,rfl,fun x b=>⟨_,_,_,_,_,_,rfl,(p.le (a.trans (c.trans (b)))),(d.le (b))⟩⟩
theorem dF {bD l_1 c_:Rat}{k:Nat}(bh:Sz k bD)(bo:Sz k l_1)(bf:Sz k c_):Sz (1*k+0) (l_1):=by
 exact Sz.mono bo
theorem dG {bD l_1 c_:Rat}{k:Nat}(bh:Sz k bD)(bo:Sz k l_1)(bf:Sz k c_):Sz (1*k+0) (-(bD)):=by
 have a:=Sz.mono (m:=1*k+0) (Sz.neg bh);exact Sz.mono a
theorem lu {V:View}{l:Value}{bD l_1 c_:Rat}(hl:zB V l bD l_1 c_){k:Nat}(bh:Sz k bD)(bo:Sz k l_1)(bf:Sz k c_)(hk:1*k+1<274877906944:=by omega) :
  aa prog 155 #[l] V fun r V'=>lF V' r (bD) (l_1):=by
 have b:=hl;obtain ⟨c,a,d,e,f,g,h,i,j,rfl,m,n,o⟩:=hl;exact rA c a d e f g h i j V _ fun p a=>⟨_,_,_,_,_,_,rfl,(m.le (a)),(n.le (a))⟩
theorem cG {bD l_1 c_:Rat}{k:Nat}(bh:Sz k bD)(bo:Sz k l_1)(bf:Sz k c_):Sz (1*k+0) (bD):=by
 exact Sz.mono bh
theorem cH {bD l_1 c_:Rat}{k:Nat}(bh:Sz k bD)(bo:Sz k l_1)(bf:Sz k c_):Sz (1*k+0) (l_1):=by
 exact Sz.mono bo
theorem uy {V:View}{l:Value}{bD l_1 c_:Rat}{p:Value}{fg fh:Rat}(hl:zB V l bD l_1 c_)(hp:lF V p fg fh){k:Nat}(bh:Sz k bD)(bo:Sz k l_1)(bf:Sz k c_)(dE:Sz k fg)(dm:Sz k fh)(hk:5*k+4<274877906944:=by omega) :
  aa prog 158 #[l,p] V fun r V'=>RR V' r ((((bD)*(fg))+((l_1)*(fh)))+(c_)):=by
 have e:=hl;obtain ⟨v,a,c,b,f,d,n,g,w,rfl,G,H,x⟩:=hl;have h:=hp;obtain ⟨y,z,A,B,C,D,rfl,I,J⟩:=hp;refine tD v a c b f d n g w y z A B C D V _ fun K a=>(lu (e.le (a)) (Sz.mono bh:Sz (1*k+0) _) (Sz.mono bo:Sz (1*k+0) _) (Sz.mono bf:Sz (1*k+0) _)).mono ?_;rintro r L c o;have i:=o;obtain ⟨M,N,O,P,Q,R,rfl,S,T⟩:=o;have q:=Sz.mono (m:=1*k+0) ((cG (Sz.mono bh:Sz (1*k+0) _) (Sz.mono bo:Sz (1*k+0) _) (Sz.mono bf:Sz (1*k+0) _)));have s:=Sz.mono (m:=1*k+0) ((cH (Sz.mono bh:Sz (1*k+0) _) (Sz.mono bo:Sz (1*k+0) _) (Sz.mono bf:Sz (1*k+0) _)));refine ⟨_,_,_,_,_,_,rfl,fun U b=>(fo (i.le (b)) (h.le (a.trans (c.trans (b)))) (Sz.mono q:Sz (1*k+0) _) (Sz.mono s:Sz (1*k+0) _) (Sz.mono dE:Sz (1*k+0) _) (Sz.mono dm:Sz (1*k+0) _)).mono ?_⟩;rintro r W f t;have j:=t;obtain ⟨X,Y,Z,rfl⟩:=t.shape;have E:=Sz.mono (m:=4*k+3) ((bH (Sz.mono q:Sz (1*k+0) _) (Sz.mono s:Sz (1*k+0) _) (Sz.mono dE:Sz (1*k+0) _) (Sz.mono dm:Sz (1*k+0) _)));refine ⟨_,_,_,rfl,fun V5 d=>(oO (j.le (d)) (x.le (a.trans (c.trans (b.trans (f.trans (d)))))) E bf).mono ?_⟩;rintro r V6 n u;have F:=u;obtain ⟨Nq,Nr,Ns,rfl⟩:=u.shape;exact ⟨_,_,_,rfl,fun V7 g=>(F.le (g))⟩
theorem rM {bD l_1 c_ fg fh:Rat}{k:Nat}(bh:Sz k bD)(bo:Sz k l_1)(bf:Sz k c_)(dE:Sz k fg)(dm:Sz k fh):Sz (5*k+4) ((((bD)*(fg))+((l_1)*(fh)))+(c_)):=by
 have a:=Sz.mono (m:=1*k+0) ((cG (Sz.mono bh:Sz (1*k+0) _) (Sz.mono bo:Sz (1*k+0) _) (Sz.mono bf:Sz (1*k+0) _)));have b:=Sz.mono (m:=1*k+0) ((cH (Sz.mono bh:Sz (1*k+0) _) (Sz.mono bo:Sz (1*k+0) _) (Sz.mono bf:Sz (1*k+0) _)));have c:=Sz.mono (m:=4*k+3) ((bH (Sz.mono a:Sz (1*k+0) _) (Sz.mono b:Sz (1*k+0) _) (Sz.mono dE:Sz (1*k+0) _) (Sz.mono dm:Sz (1*k+0) _)));have d:=Sz.mono (m:=5*k+4) (Sz.add c bf);exact Sz.mono d
theorem xh {V:View}{l:Value}{bD l_1 c_:Rat}(hl:zB V l bD l_1 c_){k:Nat}(bh:Sz k bD)(bo:Sz k l_1)(bf:Sz k c_)(hk:10*k+9<274877906944:=by omega) :
  aa prog 159 #[l] V fun r V'=>lF V' r ((bD)*(((-(c_))*(((bD)*(bD))+((l_1)*(l_1)))⁻¹))) ((l_1)*(((-(c_))*(((bD)*(bD))+((l_1)*(l_1)))⁻¹))):=by
 have j:=hl;obtain ⟨A,h,n,b,d,c,i,e,o,rfl,I,J,B⟩:=hl;refine we A h n b d c i e o V _ fun K h=>(lu (j.le (h)) (Sz.mono bh:Sz (1*k+0) _) (Sz.mono bo:Sz (1*k+0) _) (Sz.mono bf:Sz (1*k+0) _)).mono ?_;rintro r L n q;have a:=q;obtain ⟨M,N,O,P,Q,R,rfl,S,T⟩:=q;have f:=Sz.mono (m:=1*k+0) ((cG (Sz.mono bh:Sz (1*k+0) _) (Sz.mono bo:Sz (1*k+0) _) (Sz.mono bf:Sz (1*k+0) _)));have g:=Sz.mono (m:=1*k+0) ((cH (Sz.mono bh:Sz (1*k+0) _) (Sz.mono bo:Sz (1*k+0) _) (Sz.mono bf:Sz (1*k+0) _)));refine ⟨_,_,_,_,_,_,rfl,fun U b=>(oP (B.le (h.trans (n.trans (b)))) bf).mono ?_⟩;rintro r W d s;have p:=s;obtain ⟨X,Y,Z,rfl⟩:=s.shape;have t:=Sz.mono (m:=1*k+0) (Sz.neg bf);refine ⟨_,_,_,rfl,fun V5 c=>(fo (a.le (b.trans (d.trans (c)))) (a.le (b.trans (d.trans (c)))) (Sz.mono f:Sz (1*k+0) _) (Sz.mono g:Sz (1*k+0) _) (Sz.mono f:Sz (1*k+0) _) (Sz.mono g:Sz (1*k+0) _)).mono ?_⟩;rintro r V6 i u;have C:=u;obtain ⟨Nq,Nr,Ns,rfl⟩:=u.shape;have v:=Sz.mono (m:=4*k+3) ((bH (Sz.mono f:Sz (1*k+0) _) (Sz.mono g:Sz (1*k+0) _) (Sz.mono f:Sz (1*k+0) _) (Sz.mono g:Sz (1*k+0) _)));refine ⟨_,_,_,rfl,fun V7 e=>(Fc (p.le (c.trans (i.trans (e)))) (C.le (e)) t v).mono ?_⟩;rintro r V8 o w;have D:=w;obtain ⟨T0,T1,T2,rfl⟩:=w.shape;have E:=Sz.mono (m:=5*k+4) (Sz.mul t (jN v));refine ⟨_,_,_,rfl,fun V9 x=>(lH (a.le (b.trans (d.trans (c.trans (i.trans (e.trans (o.trans (x)))))))) (D.le (x)) (Sz.mono f:Sz (5*k+4) _) (Sz.mono g:Sz (5*k+4) _) (Sz.mono E:Sz (5*k+4) _)).mono ?_⟩;rintro r gm F y;have D1:=y;obtain ⟨Y5,Y6,Y7,Y8,Y9,Y_,rfl,G,H⟩:=y;exact ⟨_,_,_,_,_,_,rfl,fun fH z=>⟨_,_,_,_,_,_,rfl,(G.le (z)),(H.le (z))⟩⟩
theorem gY {bD l_1 c_:Rat}{k:Nat}(bh:Sz k bD)(bo:Sz k l_1)(bf:Sz k c_):Sz (10*k+9) ((bD)*(((-(c_))*(((bD)*(bD))+((l_1)*(l_1)))⁻¹))):=by
 have a:=Sz.mono (m:=1*k+0) ((cG (Sz.mono bh:Sz (1*k+0) _) (Sz.mono bo:Sz (1*k+0) _) (Sz.mono bf:Sz (1*k+0) _)));have b:=Sz.mono (m:=1*k+0) ((cH (Sz.mono bh:Sz (1*k+0) _) (Sz.mono bo:Sz (1*k+0) _) (Sz.mono bf:Sz (1*k+0) _)));have c:=Sz.mono (m:=1*k+0) (Sz.neg bf);have d:=Sz.mono (m:=4*k+3) ((bH (Sz.mono a:Sz (1*k+0) _) (Sz.mono b:Sz (1*k+0) _) (Sz.mono a:Sz (1*k+0) _) (Sz.mono b:Sz (1*k+0) _)));have e:=Sz.mono (m:=5*k+4) (Sz.mul c (jN d));have f:=Sz.mono (m:=10*k+9) ((dV (Sz.mono a:Sz (5*k+4) _) (Sz.mono b:Sz (5*k+4) _) (Sz.mono e:Sz (5*k+4) _)));exact Sz.mono f
theorem gZ {bD l_1 c_:Rat}{k:Nat}(bh:Sz k bD)(bo:Sz k l_1)(bf:Sz k c_):Sz (10*k+9) ((l_1)*(((-(c_))*(((bD)*(bD))+((l_1)*(l_1)))⁻¹))):=by
 have a:=Sz.mono (m:=1*k+0) ((cG (Sz.mono bh:Sz (1*k+0) _) (Sz.mono bo:Sz (1*k+0) _) (Sz.mono bf:Sz (1*k+0) _)));have b:=Sz.mono (m:=1*k+0) ((cH (Sz.mono bh:Sz (1*k+0) _) (Sz.mono bo:Sz (1*k+0) _) (Sz.mono bf:Sz (1*k+0) _)));have c:=Sz.mono (m:=1*k+0) (Sz.neg bf);have d:=Sz.mono (m:=4*k+3) ((bH (Sz.mono a:Sz (1*k+0) _) (Sz.mono b:Sz (1*k+0) _) (Sz.mono a:Sz (1*k+0) _) (Sz.mono b:Sz (1*k+0) _)));have e:=Sz.mono (m:=5*k+4) (Sz.mul c (jN d));have f:=Sz.mono (m:=10*k+9) ((dW (Sz.mono a:Sz (5*k+4) _) (Sz.mono b:Sz (5*k+4) _) (Sz.mono e:Sz (5*k+4) _)));exact Sz.mono f
theorem Bz {V:View}{l:Value}{bD l_1 c_:Rat}{t:Value}{ED:Rat}(hl:zB V l bD l_1 c_)(ht:RR V t ED){k:Nat}(bh:Sz k bD)(bo:Sz k l_1)(bf:Sz k c_)(vQ:Sz k ED)(hk:20*k+19<274877906944) :
  aa prog 172 #[l,t] V fun r V'=>lF V' r ((((bD)*(((-(c_))*(((bD)*(bD))+((l_1)*(l_1)))⁻¹))))+(((l_1)*(ED)))) ((((l_1)*(((-(c_))*(((bD)*(bD))+((l_1)*(l_1)))⁻¹))))+((((-(bD)))*(ED)))):=by
 have a:=hl;obtain ⟨y,b,e,c,f,d,h,g,q,rfl,G,H,I⟩:=hl;have i:=ht;obtain ⟨t0,t1,t2,rfl⟩:=ht.shape;refine AL y b e c f d h g q t0 t1 t2 V _ fun J b=>(xh (a.le (b)) (Sz.mono bh:Sz (1*k+0) _) (Sz.mono bo:Sz (1*k+0) _) (Sz.mono bf:Sz (1*k+0) _)).mono ?_;rintro r K e s;have j:=s;obtain ⟨L,M,N,O,P,Q,rfl,R,S⟩:=s;have z:=Sz.mono (m:=10*k+9) ((gY (Sz.mono bh:Sz (1*k+0) _) (Sz.mono bo:Sz (1*k+0) _) (Sz.mono bf:Sz (1*k+0) _)));have A:=Sz.mono (m:=10*k+9) ((gZ (Sz.mono bh:Sz (1*k+0) _) (Sz.mono bo:Sz (1*k+0) _) (Sz.mono bf:Sz (1*k+0) _)));refine ⟨_,_,_,_,_,_,rfl,fun T c=>(oS (a.le (b.trans (e.trans (c)))) (Sz.mono bh:Sz (1*k+0) _) (Sz.mono bo:Sz (1*k+0) _) (Sz.mono bf:Sz (1*k+0) _)).mono ?_⟩;rintro r U f u;have n:=u;obtain ⟨W,X,Y,Z,TM,TN,rfl,RB,RG⟩:=u;have o:=Sz.mono (m:=1*k+0) ((dF (Sz.mono bh:Sz (1*k+0) _) (Sz.mono bo:Sz (1*k+0) _) (Sz.mono bf:Sz (1*k+0) _)));have p:=Sz.mono (m:=1*k+0) ((dG (Sz.mono bh:Sz (1*k+0) _) (Sz.mono bo:Sz (1*k+0) _) (Sz.mono bf:Sz (1*k+0) _)));refine ⟨_,_,_,_,_,_,rfl,fun V5 d=>(lH (n.le (d)) (i.le (b.trans (e.trans (c.trans (f.trans (d)))))) (Sz.mono o:Sz (1*k+0) _) (Sz.mono p:Sz (1*k+0) _) (Sz.mono vQ:Sz (1*k+0) _)).mono ?_⟩;rintro r V6 h v;have B:=v;obtain ⟨TR,TS,TT,TU,TV,TW,rfl,Ow,Ox⟩:=v;have C:=Sz.mono (m:=2*k+1) ((dV (Sz.mono o:Sz (1*k+0) _) (Sz.mono p:Sz (1*k+0) _) (Sz.mono vQ:Sz (1*k+0) _)));have D:=Sz.mono (m:=2*k+1) ((dW (Sz.mono o:Sz (1*k+0) _) (Sz.mono p:Sz (1*k+0) _) (Sz.mono vQ:Sz (1*k+0) _)));refine ⟨_,_,_,_,_,_,rfl,fun V7 g=>(zL (j.le (c.trans (f.trans (d.trans (h.trans (g)))))) (B.le (g)) (Sz.mono z:Sz (10*k+9) _) (Sz.mono A:Sz (10*k+9) _) (Sz.mono C:Sz (10*k+9) _) (Sz.mono D:Sz (10*k+9) _)).mono ?_⟩;rintro r V8 q w;have J0:=w;obtain ⟨YW,YX,YY,YZ,Y0,Y1,rfl,E,F⟩:=w;exact ⟨_,_,_,_,_,_,rfl,fun V9 x=>⟨_,_,_,_,_,_,rfl,(E.le (x)),(F.le (x))⟩⟩
theorem yp {bD l_1 c_ ED:Rat}{k:Nat}(bh:Sz k bD)(bo:Sz k l_1)(bf:Sz k c_)(vQ:Sz k ED):Sz (20*k+19) ((((bD)*(((-(c_))*(((bD)*(bD))+((l_1)*(l_1)))⁻¹))))+(((l_1)*(ED)))):=by
 have c:=Sz.mono (m:=10*k+9) ((gY (Sz.mono bh:Sz (1*k+0) _) (Sz.mono bo:Sz (1*k+0) _) (Sz.mono bf:Sz (1*k+0) _)));have d:=Sz.mono (m:=10*k+9) ((gZ (Sz.mono bh:Sz (1*k+0) _) (Sz.mono bo:Sz (1*k+0) _) (Sz.mono bf:Sz (1*k+0) _)));have a:=Sz.mono (m:=1*k+0) ((dF (Sz.mono bh:Sz (1*k+0) _) (Sz.mono bo:Sz (1*k+0) _) (Sz.mono bf:Sz (1*k+0) _)));have b:=Sz.mono (m:=1*k+0) ((dG (Sz.mono bh:Sz (1*k+0) _) (Sz.mono bo:Sz (1*k+0) _) (Sz.mono bf:Sz (1*k+0) _)));have e:=Sz.mono (m:=2*k+1) ((dV (Sz.mono a:Sz (1*k+0) _) (Sz.mono b:Sz (1*k+0) _) (Sz.mono vQ:Sz (1*k+0) _)));have f:=Sz.mono (m:=2*k+1) ((dW (Sz.mono a:Sz (1*k+0) _) (Sz.mono b:Sz (1*k+0) _) (Sz.mono vQ:Sz (1*k+0) _)));have g:=Sz.mono (m:=20*k+19) ((wN (Sz.mono c:Sz (10*k+9) _) (Sz.mono d:Sz (10*k+9) _) (Sz.mono e:Sz (10*k+9) _) (Sz.mono f:Sz (10*k+9) _)));exact Sz.mono g
theorem yq {bD l_1 c_ ED:Rat}{k:Nat}(bh:Sz k bD)(bo:Sz k l_1)(bf:Sz k c_)(vQ:Sz k ED):Sz (20*k+19) ((((l_1)*(((-(c_))*(((bD)*(bD))+((l_1)*(l_1)))⁻¹))))+((((-(bD)))*(ED)))):=by
 have c:=Sz.mono (m:=10*k+9) ((gY (Sz.mono bh:Sz (1*k+0) _) (Sz.mono bo:Sz (1*k+0) _) (Sz.mono bf:Sz (1*k+0) _)));have d:=Sz.mono (m:=10*k+9) ((gZ (Sz.mono bh:Sz (1*k+0) _) (Sz.mono bo:Sz (1*k+0) _) (Sz.mono bf:Sz (1*k+0) _)));have a:=Sz.mono (m:=1*k+0) ((dF (Sz.mono bh:Sz (1*k+0) _) (Sz.mono bo:Sz (1*k+0) _) (Sz.mono bf:Sz (1*k+0) _)));have b:=Sz.mono (m:=1*k+0) ((dG (Sz.mono bh:Sz (1*k+0) _) (Sz.mono bo:Sz (1*k+0) _) (Sz.mono bf:Sz (1*k+0) _)));have e:=Sz.mono (m:=2*k+1) ((dV (Sz.mono a:Sz (1*k+0) _) (Sz.mono b:Sz (1*k+0) _) (Sz.mono vQ:Sz (1*k+0) _)));have f:=Sz.mono (m:=2*k+1) ((dW (Sz.mono a:Sz (1*k+0) _) (Sz.mono b:Sz (1*k+0) _) (Sz.mono vQ:Sz (1*k+0) _)));have g:=Sz.mono (m:=20*k+19) ((wO (Sz.mono c:Sz (10*k+9) _) (Sz.mono d:Sz (10*k+9) _) (Sz.mono e:Sz (10*k+9) _) (Sz.mono f:Sz (10*k+9) _)));exact Sz.mono g
theorem ux {V:View}{l:Value}{bD l_1 c_:Rat}{p:Value}{fg fh:Rat}(hl:zB V l bD l_1 c_)(hp:lF V p fg fh){k:Nat}(bh:Sz k bD)(bo:Sz k l_1)(bf:Sz k c_)(dE:Sz k fg)(dm:Sz k fh)(hk:8*k+7<274877906944) :
  aa prog 107 #[l,p] V fun r V'=>RR V' r ((((l_1)*(fg))+(((-(bD)))*(fh)))*(((l_1)*(l_1))+(((-(bD)))*((-(bD)))))⁻¹):=by
 have i:=hl;obtain ⟨x,f,j,b,g,e,n,h,s,rfl,J,K,L⟩:=hl;have o:=hp;obtain ⟨y,z,A,B,C,D,rfl,M,N⟩:=hp;refine tC x f j b g e n h s y z A B C D V _ fun O f=>(oS (i.le (f)) (Sz.mono bh:Sz (1*k+0) _) (Sz.mono bo:Sz (1*k+0) _) (Sz.mono bf:Sz (1*k+0) _)).mono ?_;rintro r P j t;have a:=t;obtain ⟨Q,R,S,T,U,W,rfl,X,Y⟩:=t;have c:=Sz.mono (m:=1*k+0) ((dF (Sz.mono bh:Sz (1*k+0) _) (Sz.mono bo:Sz (1*k+0) _) (Sz.mono bf:Sz (1*k+0) _)));have d:=Sz.mono (m:=1*k+0) ((dG (Sz.mono bh:Sz (1*k+0) _) (Sz.mono bo:Sz (1*k+0) _) (Sz.mono bf:Sz (1*k+0) _)));refine ⟨_,_,_,_,_,_,rfl,fun Z b=>(fo (a.le (b)) (o.le (f.trans (j.trans (b)))) (Sz.mono c:Sz (1*k+0) _) (Sz.mono d:Sz (1*k+0) _) (Sz.mono dE:Sz (1*k+0) _) (Sz.mono dm:Sz (1*k+0) _)).mono ?_⟩;rintro r V4 g u;have q:=u;obtain ⟨J2,J3,J4,rfl⟩:=u.shape;have E:=Sz.mono (m:=4*k+3) ((bH (Sz.mono c:Sz (1*k+0) _) (Sz.mono d:Sz (1*k+0) _) (Sz.mono dE:Sz (1*k+0) _) (Sz.mono dm:Sz (1*k+0) _)));refine ⟨_,_,_,rfl,fun V5 e=>(fo (a.le (b.trans (g.trans (e)))) (a.le (b.trans (g.trans (e)))) (Sz.mono c:Sz (1*k+0) _) (Sz.mono d:Sz (1*k+0) _) (Sz.mono c:Sz (1*k+0) _) (Sz.mono d:Sz (1*k+0) _)).mono ?_⟩;rintro r V6 n v;have F:=v;obtain ⟨Nq,Nr,Ns,rfl⟩:=v.shape;have G:=Sz.mono (m:=4*k+3) ((bH (Sz.mono c:Sz (1*k+0) _) (Sz.mono d:Sz (1*k+0) _) (Sz.mono c:Sz (1*k+0) _) (Sz.mono d:Sz (1*k+0) _)));refine ⟨_,_,_,rfl,fun V7 h=>(Fc (q.le (e.trans (n.trans (h)))) (F.le (h)) E G).mono ?_⟩;rintro r V8 s w;have H:=w;obtain ⟨T0,T1,T2,rfl⟩:=w.shape;exact ⟨_,_,_,rfl,fun V9 I=>(H.le (I))⟩
theorem rL {bD l_1 c_ fg fh:Rat}{k:Nat}(bh:Sz k bD)(bo:Sz k l_1)(bf:Sz k c_)(dE:Sz k fg)(dm:Sz k fh):Sz (8*k+7) ((((l_1)*(fg))+(((-(bD)))*(fh)))*(((l_1)*(l_1))+(((-(bD)))*((-(bD)))))⁻¹):=by
 have a:=Sz.mono (m:=1*k+0) ((dF (Sz.mono bh:Sz (1*k+0) _) (Sz.mono bo:Sz (1*k+0) _) (Sz.mono bf:Sz (1*k+0) _)));have b:=Sz.mono (m:=1*k+0) ((dG (Sz.mono bh:Sz (1*k+0) _) (Sz.mono bo:Sz (1*k+0) _) (Sz.mono bf:Sz (1*k+0) _)));have c:=Sz.mono (m:=4*k+3) ((bH (Sz.mono a:Sz (1*k+0) _) (Sz.mono b:Sz (1*k+0) _) (Sz.mono dE:Sz (1*k+0) _) (Sz.mono dm:Sz (1*k+0) _)));have d:=Sz.mono (m:=4*k+3) ((bH (Sz.mono a:Sz (1*k+0) _) (Sz.mono b:Sz (1*k+0) _) (Sz.mono a:Sz (1*k+0) _) (Sz.mono b:Sz (1*k+0) _)));have e:=Sz.mono (m:=8*k+7) (Sz.mul c (jN d));exact Sz.mono e
theorem uC {V:View}{v w:Value}{x y:Rat}(hx:RQ V v x)(hy:RQ V w y)(hy0:y.num≠0){k m:Nat}(hk:Sz k x)(hm:Sz m y)(hkm:k+m<274877906944:=by omega) :
  aa prog 101 #[v,w] V fun r V'=>RQ V' r (x*y⁻¹):=by
 obtain ⟨p,n,c,K,L,M,rfl,b,d⟩:=hx;obtain ⟨q,i,e,N,O,P,rfl,f,g⟩:=hy;have j:=jN hm;have q1:=ag hk.1;have q2:=ag hk.2;have q3:=ag hm.1;have q4:=ag j.1
 have D:(y⁻¹).num=(if decide (y.num<0)=true then -((y.den:Nat):Int) else ((y.den:Nat):Int))/\(y⁻¹).den=y.num.natAbs:=by
  rcases Int.lt_or_gt_of_ne hy0 with h|h
  ·rw [if_pos (decide_eq_true h)];exact inv_neg h
  ·rw [if_neg (fun Q=>by have:=of_decide_eq_true Q;omega)];exact inv_pos h
 have l:x*y⁻¹=mkRat (x.num*(y⁻¹).num) (x.den*(y⁻¹).den):=Wx5 x y⁻¹;have R:(x.num*(y⁻¹).num).natAbs<2^(k+m):=by rw [Qn4];exact bF hk.1 j.1
 have S:x.den*(y⁻¹).den<2^(k+m):=bF hk.2 j.2;refine C9 _ p n c K L M _ q i e N O P V _ fun V1 o=>(cB y _ (g.le o)).mono ?_;rintro r V2 E ⟨p1,n1,c1,rfl,T⟩;refine ⟨_,_,_,rfl,fun V3 s=>(dq _ (T.le s)).mono ?_⟩;rw [←D.1];rintro r V4 F ⟨p4,n4,c4,rfl,U⟩;refine ⟨_,_,_,_,rfl,fun V5 t=>(j_ x.num (y⁻¹).num (b.le (o.trans (E.trans (s.trans (F.trans t))))) (U.le t)).mono ?_⟩;rintro r V6 W ⟨p6,n6,c6,rfl,X⟩;have G:=o.trans (E.trans (s.trans (F.trans (t.trans W))));refine ⟨_,_,_,_,rfl,fun V7 u=>(cB x _ (d.le (G.trans u))).mono ?_⟩;rintro r V8 H ⟨p8,n8,c8,rfl,Y⟩;refine ⟨_,_,_,rfl,fun V9 z=>(cp (Y.le z) (f.le (G.trans (u.trans (H.trans z))))).mono ?_⟩;rintro r gm A ⟨L4,Z,a0,rfl,a⟩;rw [ae,ae,←D.2] at a;refine ⟨_,_,_,rfl,fun fH I=>(iG _ (X.le (u.trans (H.trans (z.trans (A.trans I))))) (a.le I) (Qx3 (ag R) (by omega)) (Qx3 (ag S) (by omega)) (Qj7 x.den_nz (y⁻¹).den_nz)).mono ?_⟩;rw [l];rintro r Dv pD ⟨VT,a1,a2,VU,a3,U6,rfl,B,C⟩;exact ⟨_,_,_,_,_,_,_,rfl,fun Dm J=>⟨_,_,_,_,_,_,rfl,B.le J,C.le J⟩⟩
theorem Gc {V:View}(z:Int){p:OA}{n c:Nat}(h:RD V p n c (ai z.natAbs)) :
  aa prog 102 #[.agg #[.bool (decide (z<0)),.slice p n c]] V fun r V'=>RQ V' r (z:Rat):=
 E3 _ p n c V _ fun b a=>nq (z:=z) (d:=1) rfl rfl (h.le a) RD.nil rfl
theorem RQ.ofNat {V:View}{p:OA}{n c x:Nat}(h:RN V p n c x){b:Bool}(hb:b=decide ((x:Int)<0)):RQ V (.agg #[.bool b,.slice p n c,.slice none 0 0]) ((x:Int):Rat):=
 nq (z:=(x:Int)) (d:=1) rfl rfl h RD.nil hb
theorem RQ.int {V:View}{q:Rat}{b:Bool}{p:OA}{n c:Nat}{p':OA}{n' c':Nat}(h:RQ V (.agg #[.bool b,.slice p n c,.slice p' n' c']) q):RI V (.agg #[.bool b,.slice p n c]) q.num:=by
 obtain ⟨d,f,g,i,j,k,e,a,l⟩:=h;cases e;exact ⟨_,_,_,rfl,a⟩
theorem RQ.den {V:View}{q:Rat}{b:Bool}{p:OA}{n c:Nat}{p':OA}{n' c':Nat}(h:RQ V (.agg #[.bool b,.slice p n c,.slice p' n' c']) q):RD V p' n' c' (sW q.den):=by
 obtain ⟨d,f,g,i,j,k,e,l,a⟩:=h;cases e;exact a
def mo (px py qx qy:Rat):Rat×Rat×Rat:=
 let a:=-(qy-py);let b:=qx-px;let c:=-(a*px+b*py)
 let f:Rat:=(((a.den*b.den*c.den:Nat):Int):Rat)
 (a*f,b*f,c*f)
theorem Nl {n k:Nat}(h:n<2^k)(hk:0<k:=by omega):Sz k (((n:Nat):Int):Rat):=by
 refine ⟨?_,?_⟩
 ·show ((n:Nat):Int).natAbs<_;simpa using h
 ·show 1<2^k;exact Qf1 (by omega)
theorem lx {V:View}{u w:Value}{px py qx qy:Rat}(hp:RP V u px py)(hq:RP V w qx qy){k:Nat}(s1:Sz k px)(s2:Sz k py)(s3:Sz k qx)(s4:Sz k qy)(hk1:1<=k)(hk:64*k+64<274877906944:=by omega) :
  aa prog 37 #[u,w] V fun r V'=>((mo px py qx qy).1.num=0/\(mo px py qx qy).2.1.num=0->∃l,r=.tuple #[l,.bool false]/\RL V' l 0 0 0) /\
   (¬((mo px py qx qy).1.num=0/\(mo px py qx qy).2.1.num=0)->∃l,r=.tuple #[l,.bool true] /\
    RL V' l ((mo px py qx qy).1.num / (bC (mo px py qx qy).1.num (mo px py qx qy).2.1.num (mo px py qx qy).2.2.num:Int)) ((mo px py qx qy).2.1.num / (bC (mo px py qx qy).1.num (mo px py qx qy).2.1.num (mo px py qx qy).2.2.num:Int)) ((mo px py qx qy).2.2.num / (bC (mo px py qx qy).1.num (mo px py qx qy).2.1.num (mo px py qx qy).2.2.num:Int))):=by
 have J:=hp;have K:=hq;obtain ⟨p1,n1,c1,p2,n2,c2,p3,n3,c3,p4,n4,c4,rfl,c,d⟩:=hp;obtain ⟨q1,m1,e1,q2,m2,e2,q3,m3,e3,q4,m4,e4,rfl,-,-⟩:=hq;refine rG _ p1 n1 c1 p2 n2 c2 _ p3 n3 c3 p4 n4 c4 _ q1 m1 e1 q2 m2 e2 _ q3 m3 e3 q4 m4 e4 V _ fun V1 L=>(BD (K.le L) (J.le L) s3 s4 s1 s2 hk1).mono ?_;rintro r V2 l2 ⟨a1,a2,a3,a4,a5,a6,a7,a8,a9,U4,U5,b7,rfl,f,hd⟩;have g:Sz (k+k+1) (qx-px):=s3.sub s1;have td:Sz (k+k+1) (qy-py):=s4.sub s2;have GD:=L.trans l2;refine ⟨_,_,_,_,_,_,_,_,_,_,_,_,_,_,rfl,fun V3 q=>(kc (qy-py) (by obtain ⟨_,_,_,_,_,_,e,N,h2⟩:=hd.le q;cases e;exact N) (RQ.den (hd.le q))).mono ?_⟩;rintro r V4 O n;obtain ⟨b1,b2,b3,b4,b5,b6,rfl⟩:=n.shape;have i:=td.neg;have Sk:mo px py qx qy=(-(qy-py)*(((((-(qy-py)).den*(qx-px).den*(-(-(qy-py)*px+(qx-px)*py)).den:Nat):Int):Rat)),(qx-px)*(((((-(qy-py)).den*(qx-px).den*(-(-(qy-py)*px+(qx-px)*py)).den:Nat):Int):Rat)),(-(-(qy-py)*px+(qx-px)*py))*(((((-(qy-py)).den*(qx-px).den*(-(-(qy-py)*px+(qx-px)*py)).den:Nat):Int):Rat))):=rfl;rw [Sk];generalize -(qy-py)=A at *;generalize qx-px=B at *
 replace f:=f.le (q.trans O)
 replace c:=c.le (GD.trans (q.trans O))
 replace d:=d.le (GD.trans (q.trans O))
 refine ⟨_,_,_,_,_,_,_,rfl,fun V5 s=>(bS (n.le s) (c.le s) i s1).mono ?_⟩;rintro r V6 P g6;obtain ⟨d1,d2,d3,d4,d5,d6,rfl⟩:=g6.shape;refine ⟨_,_,_,_,_,_,_,rfl,fun V7 y=>(bS (f.le (s.trans (P.trans y))) (d.le (s.trans (P.trans y))) g s2).mono ?_⟩;rintro r V8 l8 g8;obtain ⟨f1,f2,f3,f4,f5,f6,rfl⟩:=g8.shape;refine ⟨_,_,_,_,_,_,_,rfl,fun V9 Q=>(fQ (g6.le (y.trans (l8.trans Q))) (g8.le Q) (i.mul s1) (g.mul s2)).mono ?_⟩;rintro r gm R j;have z:=((i.mul s1).add (g.mul s2)).neg;obtain ⟨i1,i2,i3,i4,i5,i6,rfl⟩:=j.shape;refine ⟨_,_,_,_,_,_,_,rfl,fun fH S=>(kc (A*px+B*py) (by obtain ⟨_,_,_,_,_,_,e,N,h2⟩:=j.le S;cases e;exact N) (RQ.den (j.le S))).mono ?_⟩;rintro r jC cM T;generalize -(A*px+B*py)=C at *;obtain ⟨j1,j2,j3,j4,j5,j6,rfl⟩:=T.shape;have B_:=s.trans (P.trans (y.trans (l8.trans (Q.trans (R.trans (S.trans cM))))))
 replace n:=n.le B_
 replace f:=f.le B_
 refine ⟨_,_,_,_,_,_,_,rfl,fun oH D=>(cB A _ (RQ.den (n.le D))).mono ?_⟩;rintro r mD U ⟨k1,k2,k3,rfl,W⟩;refine ⟨_,_,_,rfl,fun mE E=>(cB B _ (RQ.den (f.le (D.trans (U.trans E))))).mono ?_⟩;rintro r sM X ⟨k4,k5,k6,rfl,Y⟩;obtain ⟨-,da,-⟩:=cq i;obtain ⟨-,db,-⟩:=cq g;obtain ⟨-,dc,-⟩:=cq z;refine ⟨_,_,_,rfl,fun nF F=>(cp (W.le (E.trans (X.trans F))) (Y.le F)).mono ?_⟩;rintro r uf fF ⟨k7,k8,k9,rfl,t⟩;rw [ae,ae] at t;refine ⟨_,_,_,rfl,fun A8 Z=>(cB C _ (RQ.den (T.le (D.trans (U.trans (E.trans (X.trans (F.trans (fF.trans Z))))))))).mono ?_⟩;rintro r Bg mK ⟨b8,b9,c0,rfl,a0⟩;have Zg:=ic (a:=A.den) (b:=B.den);refine ⟨_,_,_,rfl,fun Bh iY=>(cp (t.le (Z.trans (mK.trans iY))) (a0.le iY)).mono ?_⟩;rintro r Dv pD ⟨c5,c6,c7,rfl,v⟩;rw [ae,ae] at v;have o:Sz (k+k+1+(k+k+1)+(k+k+1+k+1+(k+k+1+k+1)+1)) (((A.den*B.den*C.den:Nat):Int):Rat):=Nl (bF (bF i.2 g.2) z.2);generalize A.den*B.den*C.den=M at *;refine ⟨_,_,_,rfl,fun Dm lT=>(qH (v.le lT)).mono ?_⟩;rintro r JV Fp ⟨c8,c9,d0,rfl,b0⟩;have hf:=RQ.ofNat b0 rfl;have MU:=D.trans (U.trans (E.trans (X.trans (F.trans (fF.trans (Z.trans (mK.trans (iY.trans (pD.trans (lT.trans Fp))))))))));refine ⟨_,_,_,_,rfl,fun JW p=>(bS (n.le (MU.trans p)) (hf.le p) i o).mono ?_⟩;rintro r Ny G Vk;obtain ⟨o1,o2,o3,o4,o5,o6,rfl⟩:=Vk.shape;refine ⟨_,_,_,_,_,_,_,rfl,fun NA x=>(bS (f.le (MU.trans (p.trans (G.trans x)))) (hf.le (p.trans (G.trans x))) g o).mono ?_⟩;rintro r Lq Hr Vl;obtain ⟨o7,o8,o9,ZA,ZB,ZC,rfl⟩:=Vl.shape;refine ⟨_,_,_,_,_,_,_,rfl,fun NZ H=>(bS (T.le (MU.trans (p.trans (G.trans (x.trans (Hr.trans H)))))) (hf.le (p.trans (G.trans (x.trans (Hr.trans H))))) z o).mono ?_⟩;rintro r Mi A_ qQ;obtain ⟨t1,t2,t3,t4,t5,t6,rfl⟩:=qQ.shape;refine ⟨_,_,_,_,_,_,_,rfl,fun QV KI=>(xo (RQ.int (Vk.le (x.trans (Hr.trans (H.trans (A_.trans KI)))))) (RQ.int (Vl.le (H.trans (A_.trans KI)))) (RQ.int (qQ.le KI)) (Qx3 (cq (i.mul o)).1 (by omega)) (Qx3 (cq (g.mul o)).1 (by omega)) (Qx3 (cq (z.mul o)).1 (by omega))).mono ?_⟩;rintro r Uz QA ⟨z1,z2⟩;by_cases I:(A*((M:Int):Rat)).num=0/\(B*((M:Int):Rat)).num=0
 ·obtain ⟨l,rfl,y1,y2,y3,y4,y5,y6,y7,y8,y9,rfl,w1,w2,w3⟩:=z1 I;exact ⟨_,_,_,_,_,_,_,_,_,_,_,_,_,rfl,fun QW m=>⟨fun _=>⟨_,rfl,_,_,_,_,_,_,_,_,_,rfl,w1.le m,w2.le m,w3.le m⟩,fun h=>absurd I h⟩⟩
 ·obtain ⟨l,rfl,y1,y2,y3,y4,y5,y6,y7,y8,y9,rfl,w1,w2,w3⟩:=z2 I;exact ⟨_,_,_,_,_,_,_,_,_,_,_,_,_,rfl,fun QW m=>⟨fun h=>absurd h I,fun _=>⟨_,rfl,_,_,_,_,_,_,_,_,_,rfl,w1.le m,w2.le m,w3.le m⟩⟩⟩
end Go.Proofs.Tryz
