import Derived.Test.YtapnijmlbakblaaGreatDoorZJ13
import Derived.Test.YtapnijmlbakblaaGreatDoorZJ8
import Derived.Test.YtapnijmlbakblaaGreatDoorZJ12
set_option linter.unusedVariables false
open Go.IntKind (i64 u64 u32)
namespace Go.Proofs.Tryz
open Go.Eng Go.Big
theorem kE {V:View}{p q:OA}{n c m e:Nat}{x y:Nat}(hx:RN V p n c x)(hy:RN V q m e y)(hm:(ai x).length<=274877906944)(hm':(ai y).length<=274877906944) :
  aa prog 134 #[.slice p n c,.slice q m e] V fun r V'=>∃p1 n1 c1,r=.slice p1 n1 c1/\RN V' p1 n1 c1 (Nat.gcd x y):=by
 have L:=hx.len;have yY:=hy.len;refine xU p n c q m e V _ fun M t=>(kH (hx.le t)).mono ?_;rintro r V2 B rfl;rw [af];refine ⟨_,_,rfl,fun z V'=>True,⟨fun w=>?_,fun w=>⟨(),by (try dsimp only);and_intros<;>first|exact True.intro|rfl,trivial⟩⟩,?_⟩
 ·have w:n<=2:=by simpa using w
  refine fun V3 N=>(kH (hy.le (t.trans (B.trans N)))).mono ?_;rintro r V4 l4 rfl;rw [af];refine ⟨_,_,rfl,fun j=>?_,fun j=>⟨(),by (try dsimp only);and_intros<;>first|exact True.intro|rfl,trivial⟩⟩;have j:m<=2:=by simpa using j
  have C:=pP (x:=x);have O:=pP (x:=y);rw [if_pos w,if_pos j]
  refine ⟨fun z V'=>∃a b:Nat,z=((a:Int),(b:Int))/\a<18446744073709551616/\b<18446744073709551616/\Nat.gcd a b=Nat.gcd x y,fun z=>z.2.toNat,
   ⟨((x:Int),(y:Int)),by (try dsimp only);and_intros<;>first|exact True.intro|rfl,x,y,rfl,C,O,rfl⟩,?_⟩
  rintro _ V5 l5 ⟨a,b,rfl,s,g,l⟩;dsimp only;refine ⟨by trivial,fun f=>?_,fun f=>?_⟩
  ·have f:0<b:=by simpa using f
   have P:(a:Int).tmod (b:Int)=((a%b:Nat):Int):=by rw [Qz7 (by omega)];omega
   have A:a%b<b:=Qb2 _ f;refine ⟨by omega,((b:Int),((a%b:Nat):Int)),?_,by (try dsimp only);and_intros<;>first|exact True.intro|rfl|exact P,b,a%b,rfl,g,by omega,?_⟩
   ·(try dsimp only);simp only [Qq0];exact A
   ·rw [←l,Qh2 a b,Nat.gcd_rec b a,Qh2]
  ·have f:b=0:=by simp at f;omega
   subst f;rw [Qf5] at l;refine fun V6 l6=>(cP a s).mono ?_;rintro r V7 l7 ⟨p1,n1,c1,rfl,D⟩;rw [l] at D;exact ⟨_,_,_,rfl,fun V8 Q=>⟨_,_,_,rfl,D.le Q⟩⟩
 rintro _ V9 I _
 replace hx:=hx.le (t.trans (B.trans I))
 replace hy:=hy.le (t.trans (B.trans I))
 refine ⟨by trivial,fun z k V'=>∃a b:Nat,RN V' z.1 z.2.1 z.2.2.1 a/\RN V' z.2.2.2.1 z.2.2.2.2.1 z.2.2.2.2.2 b/\b=k/\(ai a).length<=274877906944/\(ai b).length<=274877906944/\Nat.gcd a b=Nat.gcd x y,
  ⟨(p,n,c,q,m,e),y,by (try dsimp only);and_intros<;>first|exact True.intro|rfl,x,y,hx,hy,rfl,hm,hm',rfl⟩,?_⟩
 rintro ⟨ap,an,ac,R,E,S⟩ _ fK T ⟨a,b,s,g,rfl,F,u,l⟩;dsimp only at s g ⊢;have o:=s.len;have G:=g.len;refine ⟨by trivial,fun f=>?_,fun f=>?_⟩
 ·have f:0<E:=by simpa using f
  have i:0<b:=by
   rcases Qx8 b with h|h
   ·subst h;simp at G;omega
   ·exact h
  refine fun eO H=>(dF (s.le H) (g.le H) F u i).mono ?_;rintro r gW U ⟨p1,n1,c1,W,X,Y,rfl,D,Z⟩;have A:a%b<b:=Qb2 _ i;have a0:=aF (Qh8 A);refine ⟨_,_,_,_,_,_,rfl,(R,E,S,W,X,Y),a%b,A,by (try dsimp only);and_intros<;>first|exact True.intro|rfl,b,a%b,g.le (H.trans U),Z,rfl,u,by omega,?_⟩;rw [←l,Qh2 a b,Nat.gcd_rec b a,Qh2]
 ·have f:E=0:=by simp at f;omega
  have i:b=0:=bz.1 (Qw4.1 (by omega));subst i;rw [Qf5] at l;rw [←l];refine ⟨aE (ai a),s.sl,by simp [o],by omega,by omega,by simp,by simp [o],?_,?_⟩
  ·intro v K;simp only [aE,Qy5] at K;obtain ⟨d,-,rfl⟩:=K;rfl
  ·intro bk J sp c' j h2 M t b g;refine ⟨_,_,_,rfl,?_⟩;simp only [Qy2,Qd0,Qc7,Qn3] at g j ⊢;exact copied (aD a) o j g
theorem eG {V:View}(b:Bool){p:OA}{n c x:Nat}(h:RN V p n c x) :
  aa prog 83 #[.bool b,.slice p n c] V fun r V'=>RI V' r (if b then -(x:Int) else x):=by
 have f:=fw h.len;refine C8 b p n c V _ ⟨fun a e d=>?_,fun a e d=>?_⟩
 ·rw [if_pos a];refine RI.mk ?_ ?_
  ·rw [Qz3,decide_eq_true_eq,decide_eq_true_eq];omega
  ·rw [Qd6,Qx4];exact h.le d
 ·rw [a,if_neg (by decide)];refine RI.mk ?_ ?_
  ·symm;rw [decide_eq_false_iff_not];omega
  ·rw [Qx4];exact h.le d
theorem iK {V:View}{b:Bool}{p:OA}{n c x:Nat}{z:Int}(h:RN V p n c x)(hz:(if b then -(x:Int) else x)=z) :
  aa prog 83 #[.bool b,.slice p n c] V fun r V'=>∃(Hm:Bool)(IM:OA)(Iq Ht:Nat),r=.agg #[.bool Hm,.slice IM Iq Ht]/\∀V3:View,V'.Le V3->RI V3 (.agg #[.bool Hm,.slice IM Iq Ht]) z:=by
 refine (eG b h).mono ?_;rintro r d e ⟨f,i,j,rfl,g⟩;rw [hz] at g ⊢;exact ⟨_,_,_,_,rfl,fun V3 a=>⟨_,_,_,rfl,g.le a⟩⟩
theorem yE {V:View}(n:Int)(h0:-9223372036854775808<=n)(h1:n<=9223372036854775807:=by omega) :
  aa prog 77 #[.int .i64 n] V fun r V'=>RI V' r n:=by
 refine EI n V _ ⟨fun a d f=>?_,fun a d f=>?_⟩
 ·have a:n<0:=by simpa using a
  have e:u64.wrap (0-u64.wrap n)=((-n).toNat:Int):=by rw [qR,qR];omega
  rw [e];refine (cP _).mono ?_;rintro r g h ⟨i,j,k,rfl,b⟩;exact ⟨_,_,_,rfl,fun l c=>iK (b.le c) (by simp;omega)⟩
 ·have a:0<=n:=by simpa using a
  have e:u64.wrap n=(n.toNat:Int):=by rw [aM (by omega)];omega
  rw [e];refine (cP _).mono ?_;rintro r g h ⟨i,j,k,rfl,b⟩;exact ⟨_,_,_,rfl,fun l c=>iK (b.le c) (by simp;omega)⟩
theorem uh {V:View}(z:Int){p:OA}{n c:Nat}(h:RN V p n c z.natAbs) :
  aa prog 173 #[.agg #[.bool (decide (z<0)),.slice p n c]] V fun r V'=>r=.int .i64 z.sign:=by
 have f:=fw h.len;refine Db _ p n c V _ ⟨fun b d e=>?_,fun b=>⟨fun a d e=>?_,fun a d e=>?_⟩⟩
 ·have:z=0:=by simp at b;omega
  rw [this];rfl
 ·rw [decide_eq_true_eq] at a;rw [Qf0 a]
 ·rw [decide_eq_false_iff_not] at a;have:0<z:=by simp at b;omega
  rw [Qd9 this]
theorem gi {V:View}(z:Int){p:OA}{n c:Nat}(h:RN V p n c z.natAbs) :
  aa prog 38 #[.agg #[.bool (decide (z<0)),.slice p n c]] V fun r V'=>RI V' r (-z):=by
 refine AR _ p n c V _ fun d a=>iK (h.le a) ?_;by_cases b:z<0<;>simp [b]<;>omega
theorem jW {V:View}(z w:Int){p q:OA}{n c m e:Nat}(ha:RN V p n c z.natAbs)(hb:RN V q m e w.natAbs)(hm:(ai z.natAbs).length+(ai w.natAbs).length<=1099511627776:=by omega) :
  aa prog 141 #[.agg #[.bool (decide (z<0)),.slice p n c],.agg #[.bool (decide (w<0)),.slice q m e]] V fun r V'=>RI V' r (z*w):=by
 refine EK _ p n c _ q m e V _ fun h a=>(ch (ha.le a) (hb.le a) hm).mono ?_;rintro r i j ⟨k,l,o,rfl,b⟩;rw [af,af] at b;refine ⟨_,_,_,rfl,fun s d=>iK (b.le d) ?_⟩;have f:z=bo (decide (z<0)) (ai z.natAbs):=(aO z).symm;have g:w=bo (decide (w<0)) (ai w.natAbs):=(aO w).symm
 conv=>rhs;rw [f,g]
 unfold bo;rw [af,af];cases decide (z<0)<;>cases decide (w<0)<;>simp [Qt9,Wq0]
theorem qk {V:View}(z w:Int){p q:OA}{n c m e:Nat}(ha:RN V p n c z.natAbs)(hb:RN V q m e w.natAbs)(hm:(ai z.natAbs).length<=1099511627776)(hn:(ai w.natAbs).length<=1099511627776:=by omega) :
  aa prog 140 #[.agg #[.bool (decide (z<0)),.slice p n c],.agg #[.bool (decide (w<0)),.slice q m e]] V fun r V'=>RI V' r (z+w):=by
 refine EF _ p n c _ q m e V _ ⟨fun i t a=>(F7 (ha.le a) (hb.le a) hm hn).mono ?_,fun i t a=>(ig (ha.le a) (hb.le a) hm hn).mono ?_⟩
 ·rintro r u g ⟨k,l,o,rfl,b⟩;rw [af,af] at b;refine ⟨_,_,_,rfl,fun s d=>iK (b.le d) ?_⟩;by_cases h:z<0<;>by_cases hw:w<0<;>simp [h,hw] at i⊢<;> omega
 ·rintro r u g rfl;refine ⟨_,rfl,fun f s d=>?_,fun f s d=>?_⟩
  ·have f:z.natAbs<w.natAbs:=by simpa [fo] using f
   refine (nE (hb.le (a.trans (g.trans d))) (ha.le (a.trans (g.trans d))) hn (aF (Qh8 f)) (by rw [af,af];omega)).mono ?_;rintro r v x ⟨k,l,o,rfl,b⟩;rw [af,af] at b;refine ⟨_,_,_,rfl,fun y j=>iK (b.le j) ?_⟩;by_cases h:z<0<;>by_cases hw:w<0<;>simp [h,hw] at i⊢<;> omega
  ·have f:w.natAbs<=z.natAbs:=by simpa [←Wy8,fo] using f
   refine (nE (ha.le (a.trans (g.trans d))) (hb.le (a.trans (g.trans d))) hm (aF f) (by rw [af,af];omega)).mono ?_;rintro r v x ⟨k,l,o,rfl,b⟩;rw [af,af] at b;refine ⟨_,_,_,rfl,fun y j=>iK (b.le j) ?_⟩;by_cases h:z<0<;>by_cases hw:w<0<;>simp [h,hw] at i⊢<;> omega
end Go.Proofs.Tryz
namespace Go.Eng
open Go.Big
def sH (d:Nat):List Nat:=if d=1 then [] else ai d
def RQ (V:View)(v:Value)(q:Rat):Prop:=∃p n c p' n' c',v=.agg #[.bool (decide (q.num<0)),.slice p n c,.slice p' n' c'] /\
 RD V p n c (ai q.num.natAbs)/\RD V p' n' c' (sH q.den)
theorem RQ.le {V V':View}{v:Value}{q:Rat}(h:RQ V v q)(l:V.Le V'):RQ V' v q:=by
 obtain ⟨p,n,c,a,b,d,e,f,g⟩:=h;exact ⟨p,n,c,a,b,d,e,f.le l,g.le l⟩
theorem BJ {q:Rat}:sH q.den=[]↔q.den=1:=by
 unfold sH;split
 ·rename_i h;simp [h]
 ·rename_i h;rw [bz];have:=q.den_nz;omega
end Go.Eng
namespace Go.Proofs.Tryz
open Go.Eng Go.Big
theorem lH {V:View}{q:Rat}{p:OA}{n c:Nat}(h:RD V p n c (sH q.den)):n=0↔q.den=1:=by
 rw [←BJ,h.len,Qw4]
theorem cz {V:View}(q:Rat){p p':OA}{n c n' c':Nat}(b:Bool)(h2:RD V p' n' c' (sH q.den)) :
  aa prog 82 #[.agg #[.bool b,.slice p n c,.slice p' n' c']] V fun r V'=>∃p1 n1 c1,r=.slice p1 n1 c1/\RN V' p1 n1 c1 q.den:=by
 have d:=lH h2;refine EH b p n c p' n' c' V _ ⟨fun a h f=>mz.mono ?_,fun a h f=>⟨_,_,_,rfl,?_⟩⟩
 ·rintro r j k ⟨p1,n1,c1,rfl,g⟩;have:q.den=1:=d.1 (by simp at a;omega);rw [this];exact ⟨_,_,_,rfl,fun l i=>⟨_,_,_,rfl,g.le i⟩⟩
 ·have:q.den≠1:=fun e=>by have:=d.2 e;simp at a;omega
  unfold sH at h2;rw [if_neg this] at h2;exact h2.le f
theorem ni {V:View}{q:Rat}{z:Int}{d:Nat}{p p':OA}{n c n' c':Nat}(hn:q.num=z)(hd:q.den=d)(h1:RD V p n c (ai z.natAbs))(h2:RD V p' n' c' (sH d)){b:Bool}(hb:b=decide (z<0)) :
  RQ V (.agg #[.bool b,.slice p n c,.slice p' n' c']) q:=by
 subst hn hd hb;exact ⟨_,_,_,_,_,_,rfl,h1,h2⟩
theorem kF {V:View}(z:Int){d:Nat}{p q:OA}{n c m e:Nat}(hx:RN V p n c z.natAbs)(hy:RN V q m e d)(hm:(ai z.natAbs).length<=274877906944)(hn:(ai d).length<=274877906944)(hd:d≠0) :
  aa prog 104 #[.agg #[.bool (decide (z<0)),.slice p n c],.slice q m e] V fun r V'=>RQ V' r (mkRat z d):=by
 refine C4 _ p n c q m e V _ fun V1 y=>(kE (hx.le y) (hy.le y) hm hn).mono ?_;rintro r V2 W ⟨p1,n1,c1,rfl,h⟩;have I:=Qb4 z.natAbs d;have J:=Qj6 z.natAbs d;have K:0<Nat.gcd z.natAbs d:=Ww6 _ (by omega);have i:(ai (Nat.gcd z.natAbs d)).length<=274877906944:=Qx6 (aF (Qt5 (by omega) I)) hn;have L:(mkRat z d).num=z / (Nat.gcd d z.natAbs:Nat):=by rw [Qr4,if_neg hd]
 have a:(mkRat z d).den=d / Nat.gcd d z.natAbs:=by rw [Qt4,if_neg hd]
 rw [Qh2 d] at L a;generalize hG:Nat.gcd z.natAbs d=g at *;generalize mkRat z d=w at *;refine ⟨_,_,_,rfl,fun V3 A=>mz.mono ?_⟩;rintro r V4 B ⟨p2,n2,c2,rfl,h1⟩;refine ⟨_,_,_,rfl,fun V5 j=>(ig (h.le (A.trans (B.trans j))) (h1.le j) (by omega) (by decide)).mono ?_⟩;rintro r V6 M rfl
 replace hx:=hx.le (y.trans (W.trans (A.trans (B.trans (j.trans M)))))
 replace hy:=hy.le (y.trans (W.trans (A.trans (B.trans (j.trans M)))))
 replace h:=h.le (A.trans (B.trans (j.trans M)))
 refine ⟨_,rfl,fun X V7 C=>(dF (hx.le C) (h.le C) hm i K).mono ?_,fun X Dk D=>mz.mono ?_⟩
 ·rintro r V8 Y ⟨p4,n4,c4,p5,n5,c5,rfl,Z,-⟩;have a0:(mkRat z d).num.natAbs=(mkRat z d).num.natAbs:=rfl;obtain ⟨k,N⟩:=J;have O:z.natAbs / g=k:=by rw [N,Nat.mul_div_cancel_left _ K]
  rw [O] at Z
  have hz:z=(g:Int)*(if z<0 then -(k:Int) else k):=by
   split
   ·rw [Wq0,←Qn5,←N];omega
   ·rw [←Qn5,←N];omega
  have b:w.num=(if z<0 then -(k:Int) else k):=by
   rw [L];generalize (if z<0 then -(k:Int) else k)=t at *;rw [hz,Qg8 _ (by omega)]
  refine ⟨_,_,_,_,_,_,rfl,fun V9 P=>(eG _ (Z.le P)).mono ?_⟩
  have RB:(if decide (z<0)=true then -(k:Int) else k)=w.num:=by
   rw [b];simp
  rw [RB];rintro r fK l ⟨p7,n7,c7,rfl,g2⟩;refine ⟨_,_,_,_,rfl,fun eO E=>(dF (hy.le (C.trans (Y.trans (P.trans (l.trans E))))) (h.le (C.trans (Y.trans (P.trans (l.trans E))))) hn i K).mono ?_⟩;rintro r gW cu ⟨p8,n8,c8,p9,n9,c9,rfl,Q,-⟩;rw [←a] at Q;refine ⟨_,_,_,_,_,_,rfl,fun lx F=>mz.mono ?_⟩;rintro r mr G ⟨LI,a1,a2,rfl,R⟩;have a3:(ai w.den).length<=274877906944:=by rw [a];exact Qx6 (aF (Qc1 _ _)) hn
  refine ⟨_,_,_,rfl,fun mV o=>(ig (Q.le (F.trans (G.trans o))) (R.le o) (by omega) (by decide)).mono ?_⟩;rintro r rz S rfl;refine ⟨_,rfl,fun f pR T=>ni rfl rfl (g2.le (E.trans (cu.trans (F.trans (G.trans (o.trans (S.trans T))))))) ?_ rfl,fun f wS s=>ni rfl rfl (g2.le (E.trans (cu.trans (F.trans (G.trans (o.trans (S.trans s))))))) ?_ rfl⟩
  ·have:w.den=1:=j7.1 (by simpa using f);rw [BJ.2 this];exact RD.nil
  ·have:w.den≠1:=fun e=>by rw [j7.2 e] at f;simp at f
   unfold sH;rw [if_neg this];exact Q.le (F.trans (G.trans (o.trans (S.trans s))))
 ·have u:g=1:=j7.1 (by simpa using X);have b:w.num=z:=by rw [L,u];simp
  have v:w.den=d:=by rw [a,u];simp
  rintro r FQ H ⟨U7,a4,a5,rfl,R⟩;refine ⟨_,_,_,rfl,fun ET x=>(ig (hy.le (D.trans (H.trans x))) (R.le x) (by omega) (by decide)).mono ?_⟩;rintro r FR U rfl;refine ⟨_,rfl,fun f pR T=>ni b v (hx.le (D.trans (H.trans (x.trans (U.trans T))))) ?_ rfl,fun f wS s=>ni b v (hx.le (D.trans (H.trans (x.trans (U.trans s))))) ?_ rfl⟩
  ·have:d=1:=j7.1 (by simpa using f);unfold sH;rw [if_pos this];exact RD.nil
  ·have:d≠1:=fun e=>by rw [j7.2 e] at f;simp at f
   unfold sH;rw [if_neg this];exact hy.le (D.trans (H.trans (x.trans (U.trans s))))
theorem fl {V:View}(n:Int)(h0:-9223372036854775808<=n)(h1:n<=9223372036854775807:=by omega) :
  aa prog 35 #[.int .i64 n] V fun r V'=>RQ V' r (n:Rat):=by
 refine G0 n V _ fun b e=>(yE n h0 h1).mono ?_;rintro r f h ⟨p,m,c,rfl,g⟩;exact ⟨_,_,_,_,rfl,fun i a=>ni (z:=n) (d:=1) rfl rfl (g.le a) RD.nil rfl⟩
theorem JV {V:View}(q:Rat){p p':OA}{n c n' c':Nat}(h1:RD V p n c (ai q.num.natAbs)) :
  aa prog 119 #[.agg #[.bool (decide (q.num<0)),.slice p n c,.slice p' n' c']] V fun r V'=>r=.int .i64 q.num.sign:=by
 refine Jv _ p n c p' n' c' V _ fun b a=>(uh q.num (h1.le a)).mono ?_;rintro r d e rfl;exact ⟨_,rfl,fun f g=>rfl⟩
theorem jX {V:View}(q:Rat){p p':OA}{n c n' c':Nat}(h1:RD V p n c (ai q.num.natAbs))(h2:RD V p' n' c' (sH q.den)) :
  aa prog 80 #[.agg #[.bool (decide (q.num<0)),.slice p n c,.slice p' n' c']] V fun r V'=>RQ V' r (-q):=by
 refine EM _ p n c p' n' c' V _ fun f a=>(gi q.num (h1.le a)).mono ?_;rintro r h e ⟨i,j,k,rfl,g⟩;exact ⟨_,_,_,_,rfl,fun l b=>ni (q:=-q) (z:=-q.num) (d:=q.den) (by rfl) (by rfl) (g.le b) ((h2.le a).le (e.trans b)) rfl⟩
theorem qm {V:View}{p:OA}{n c x:Nat}(h:RN V p n c x) :
  aa prog 83 #[.bool false,.slice p n c] V fun r V'=>RI V' r (x:Int):=by
 have:=eG false h
 rwa [if_neg (by decide)] at this
theorem cj {x:Rat}{k:Nat}(h:Sz k x):(ai x.num.natAbs).length<=k/\(ai x.den).length<=k/\(ai (x.den:Int).natAbs).length<=k:=⟨ag h.1,ag h.2,ag h.2⟩
theorem dk {V:View}{v w:Value}{x y:Rat}(hx:RQ V v x)(hy:RQ V w y){k m:Nat}(hk:Sz k x)(hm:Sz m y)(hkm:k+m<274877906944:=by omega) :
  aa prog 74 #[v,w] V fun r V'=>RQ V' r (x+y):=by
 obtain ⟨p,n,c,p',n',c',rfl,f,a⟩:=hx;obtain ⟨q,i,e,q',i',e',rfl,h,b⟩:=hy;have A:=lH a;have yY:=lH b;obtain ⟨b1,b2,b3,b4⟩:=tP hk hm;obtain ⟨d1,d2,d3⟩:=cj hk;obtain ⟨d4,d5,d6⟩:=cj hm;have j:x+y=mkRat (x.num*y.den+y.num*x.den) (x.den*y.den):=Rat.add_def' x y;refine (fun tail=>Da _ p n c p' n' c' _ q i e q' i' e' V _ ⟨fun B=>⟨fun C V1 l=>?_,fun _=>tail⟩,fun _=>tail⟩) ?_
 ·clear tail;have B:x.den=1:=A.1 (by simp at B;omega);have C:y.den=1:=yY.1 (by simp at C;omega);refine (qk x.num y.num (f.le l) (h.le l) (by omega)).mono ?_;rintro r V2 Q ⟨p2,n2,c2,rfl,g⟩
  have e1:x+y=((x.num+y.num:Int):Rat):=by
   rw [j,B,C];simp [Qf7]
  rw [e1];exact ⟨_,_,_,_,rfl,fun V3 t=>ni (z:=x.num+y.num) (d:=1) rfl rfl (g.le t) RD.nil rfl⟩
 ·intro V1 l;refine (cz y _ (b.le l)).mono ?_;rintro r V2 Q ⟨p1,n1,c1,rfl,g1⟩;refine ⟨_,_,_,rfl,fun V3 t=>(qm (g1.le t)).mono ?_⟩;rintro r V4 l4 ⟨p3,n3,c3,rfl,g3⟩;have R:=l.trans (Q.trans (t.trans l4));refine ⟨_,_,_,_,rfl,fun V5 D=>(jW x.num y.den (f.le (R.trans D)) (g3.le D)).mono ?_⟩;rintro r V6 l6 ⟨p5,n5,c5,rfl,g5⟩;have S:=R.trans (D.trans l6);refine ⟨_,_,_,_,rfl,fun V7 E=>(cz x _ (a.le (S.trans E))).mono ?_⟩;rintro r V8 T ⟨p7,n7,c7,rfl,g7⟩;have MO:=S.trans (E.trans T);refine ⟨_,_,_,rfl,fun V9 F=>(qm (g7.le F)).mono ?_⟩;rintro r fK o ⟨p9,n9,c9,rfl,g9⟩;have U:=MO.trans (F.trans o);refine ⟨_,_,_,_,rfl,fun eO u=>(jW y.num x.den (h.le (U.trans u)) (g9.le u)).mono ?_⟩;rintro r gW W ⟨PB,a0,a1,rfl,G⟩;have B6:=U.trans (u.trans W);refine ⟨_,_,_,_,rfl,fun lx H=>(qk _ _ (g5.le (E.trans (T.trans (F.trans (o.trans (u.trans (W.trans H))))))) (G.le H) (Qx6 (ag b1) (by omega)) (Qx6 (ag b2) (by omega))).mono ?_⟩;rintro r mr eB ⟨Zq,a2,a3,rfl,I⟩;have X:=B6.trans (H.trans eB);refine ⟨_,_,_,_,rfl,fun mV J=>(cz x _ (a.le (X.trans J))).mono ?_⟩;rintro r rz Y ⟨Zr,a4,a5,rfl,K⟩;have Sj:=X.trans (J.trans Y);refine ⟨_,_,_,rfl,fun pR L=>(cz y _ (b.le (Sj.trans L))).mono ?_⟩;rintro r wS Z ⟨Zs,a6,a7,rfl,M⟩;refine ⟨_,_,_,rfl,fun Dk N=>(ch (K.le (L.trans (Z.trans N))) (M.le N)).mono ?_⟩;rintro r FQ pS ⟨Zt,a8,a9,rfl,s⟩;rw [af,af] at s;refine ⟨_,_,_,rfl,fun ET kq=>(kF _ (I.le (J.trans (Y.trans (L.trans (Z.trans (N.trans (pS.trans kq))))))) (s.le kq) (Qx6 (ag b3) (by omega)) (Qx6 (ag b4) (by omega)) (Qv4 x.den_nz y.den_nz)).mono ?_⟩;rw [j];rintro r FR uU ⟨U8,b0,b5,U9,b6,Un,rfl,O,P⟩;exact ⟨_,_,_,_,_,_,_,rfl,fun G3 mO=>⟨_,_,_,_,_,_,rfl,O.le mO,P.le mO⟩⟩
theorem yF {V:View}{v w:Value}{x y:Rat}(hx:RQ V v x)(hy:RQ V w y){k m:Nat}(hk:Sz k x)(hm:Sz m y)(hkm:k+m<274877906944:=by omega) :
  aa prog 121 #[v,w] V fun r V'=>RQ V' r (x-y):=by
 have a:=hx;obtain ⟨p,n,c,l,o,s,rfl,t,u⟩:=hx;obtain ⟨q,i,e,z,A,B,rfl,b,d⟩:=hy;refine EN _ p n c l o s _ q i e z A B V _ fun F f=>(jX y (b.le f) (d.le f)).mono ?_;rintro r G C g;obtain ⟨H,I,J,K,L,M,rfl,N,O⟩:=id g;refine ⟨_,_,_,_,_,_,_,rfl,fun P h=>(dk (a.le (f.trans (C.trans h))) (g.le h) hk hm.neg hkm).mono ?_⟩;rw [←Qr5];rintro r Q R ⟨S,T,U,W,X,Y,rfl,D,E⟩;exact ⟨_,_,_,_,_,_,_,rfl,fun Z j=>⟨_,_,_,_,_,_,rfl,D.le j,E.le j⟩⟩
theorem my {V:View}{v w:Value}{x y:Rat}(hx:RQ V v x)(hy:RQ V w y){k m:Nat}(hk:Sz k x)(hm:Sz m y)(hkm:k+m<274877906944:=by omega) :
  aa prog 62 #[v,w] V fun r V'=>r=.int .i64 (cmpQ x y):=by
 have a:=hx;have b:=hy;obtain ⟨p,n,c,f,g,h,rfl,j,l⟩:=hx;obtain ⟨q,i,e,o,s,t,rfl,u,z⟩:=hy;refine Ju _ p n c f g h _ q i e o s t V _ fun C d=>(yF (a.le d) (b.le d) hk hm hkm).mono ?_;rintro r D E ⟨F,G,H,I,J,K,rfl,A,L⟩;refine ⟨_,_,_,_,_,_,_,rfl,fun M B=>(JV (x-y) (A.le B)).mono ?_⟩;rintro r N O rfl;exact ⟨_,rfl,fun P Q=>rfl⟩
theorem cB {V:View}{v w:Value}{x y:Rat}(hx:RQ V v x)(hy:RQ V w y){k m:Nat}(hk:Sz k x)(hm:Sz m y)(hkm:k+m<274877906944:=by omega) :
  aa prog 76 #[v,w] V fun r V'=>RQ V' r (x*y):=by
 obtain ⟨p,n,c,K,L,M,rfl,b,f⟩:=hx;obtain ⟨q,i,e,N,O,P,rfl,h,j⟩:=hy;have s:=lH f;have Q:=lH j;obtain ⟨d1,d2,d3⟩:=cj hk;obtain ⟨d4,d5,d6⟩:=cj hm;have l:x*y=mkRat (x.num*y.num) (x.den*y.den):=Wy3 x y;have R:(x.num*y.num).natAbs<2^(k+m):=by rw [Qm1];exact bG hk.1 hm.1
 have S:x.den*y.den<2^(k+m):=bG hk.2 hm.2;refine (fun tail=>AV _ p n c K L M _ q i e N O P V _ ⟨fun t=>⟨fun u T a=>?_,fun _=>tail⟩,fun _=>tail⟩) ?_
 ·clear tail;have t:x.den=1:=s.1 (by simp at t;omega);have u:y.den=1:=Q.1 (by simp at u;omega);refine (jW x.num y.num (b.le a) (h.le a)).mono ?_;rintro r U A ⟨W,X,Y,rfl,g⟩
  have Z:x*y=((x.num*y.num:Int):Rat):=by
   rw [l,t,u];simp [Qf7]
  rw [Z];exact ⟨_,_,_,_,rfl,fun V3 o=>ni (z:=x.num*y.num) (d:=1) rfl rfl (g.le o) RD.nil rfl⟩
 ·intro T a;refine (jW x.num y.num (b.le a) (h.le a)).mono ?_;rintro r U A ⟨W,X,Y,rfl,g2⟩;refine ⟨_,_,_,_,rfl,fun V3 o=>(cz x _ (f.le (a.trans (A.trans o)))).mono ?_⟩;rintro r V4 F ⟨p4,n4,c4,rfl,g4⟩;refine ⟨_,_,_,rfl,fun V5 B=>(cz y _ (j.le (a.trans (A.trans (o.trans (F.trans B)))))).mono ?_⟩;rintro r V6 G ⟨p6,n6,c6,rfl,g6⟩;refine ⟨_,_,_,rfl,fun V7 C=>(ch (g4.le (B.trans (G.trans C))) (g6.le C)).mono ?_⟩;rintro r V8 l8 ⟨p8,n8,c8,rfl,H⟩;rw [af,af] at H;refine ⟨_,_,_,rfl,fun V9 I=>(kF _ (g2.le (o.trans (F.trans (B.trans (G.trans (C.trans (l8.trans I))))))) (H.le I) (Qx6 (ag R) (by omega)) (Qx6 (ag S) (by omega)) (Qv4 x.den_nz y.den_nz)).mono ?_⟩;rw [l];rintro r FR uU ⟨U8,a0,a1,U9,a2,Un,rfl,D,E⟩;exact ⟨_,_,_,_,_,_,_,rfl,fun G3 J=>⟨_,_,_,_,_,_,rfl,D.le J,E.le J⟩⟩
end Go.Proofs.Tryz
namespace Go.Eng
open Go.Big
def RP (V:View)(v:Value)(x y:Rat):Prop:=∃p n c p' n' c' q m e q' m' e',v=.agg #[.bool (decide (x.num<0)),.slice p n c,.slice p' n' c',.bool (decide (y.num<0)),.slice q m e,.slice q' m' e'] /\
 RQ V (.agg #[.bool (decide (x.num<0)),.slice p n c,.slice p' n' c']) x/\RQ V (.agg #[.bool (decide (y.num<0)),.slice q m e,.slice q' m' e']) y
theorem RP.le {V V':View}{v:Value}{x y:Rat}(h:RP V v x y)(l:V.Le V'):RP V' v x y:=by
 obtain ⟨p,n,c,a,b,d,q,m,e,f,g,i,rfl,j,k⟩:=h;exact ⟨p,n,c,a,b,d,q,m,e,f,g,i,rfl,j.le l,k.le l⟩
theorem RQ.shape {V:View}{v:Value}{q:Rat}(h:RQ V v q):∃p n c p' n' c',v=.agg #[.bool (decide (q.num<0)),.slice p n c,.slice p' n' c']:=by
 obtain ⟨p,n,c,p',n',c',e,-⟩:=h;exact ⟨_,_,_,_,_,_,e⟩
end Go.Eng
namespace Go.Proofs.Tryz
open Go.Eng Go.Big
theorem rE {V:View}{p:OA}{n c:Nat}{ds:List Nat}(h:RD V p n c ds)(hm:ds.length<=1099511627776:=by omega) :
  aa prog 95 #[.slice p n c] V fun r V'=>∃p1 n1 c1,r=.slice p1 n1 c1/\RD V' p1 n1 c1 ds:=by
 have a:=h.len;refine AX p n c V _ ⟨aE ds,h.sl,by simp [a],by omega,by omega,by simp,by simp [a],?_,?_⟩
 ·intro v e;simp only [aE,Qy5] at e;obtain ⟨d,-,rfl⟩:=e;rfl
 ·intro i J sp j f k l m b g;refine ⟨_,_,_,rfl,?_⟩;simp only [Qy2,Qd0,Qc7,Qn3] at g f ⊢;exact copied h.ew a f g
theorem jf {V:View}{v:Value}{z:Int}(h:RI V v z)(hm:(ai z.natAbs).length<=1099511627776:=by omega) :
  aa prog 44 #[v] V fun r V'=>RI V' r z:=by
 obtain ⟨p,n,c,rfl,h⟩:=h;refine AW _ p n c V _ fun d a=>(rE (h.le a) hm).mono ?_;rintro r e f ⟨i,j,k,rfl,g⟩;exact ⟨_,_,_,rfl,fun l b=>⟨_,_,_,rfl,g.le b⟩⟩
theorem uj {V:View}(x y:Int)(h0:-9223372036854775808<=x)(h1:x<=9223372036854775807)(h2:-9223372036854775808<=y)(h3:y<=9223372036854775807:=by omega) :
  aa prog 47 #[.int .i64 x,.int .i64 y] V fun r V'=>RP V' r (x:Rat) (y:Rat):=by
 refine Dh x y V _ fun h i=>(fl x h0 h1).mono ?_;rintro r j k a;obtain ⟨p,n,c,l,o,s,rfl⟩:=a.shape;refine ⟨_,_,_,_,_,_,_,rfl,fun t f=>(fl y h2 h3).mono ?_⟩;rintro r u g b;obtain ⟨q,m,e,v,w,z,rfl⟩:=b.shape;exact ⟨_,_,_,_,_,_,_,rfl,fun A d=>⟨_,_,_,_,_,_,_,_,_,_,_,_,rfl,a.le (f.trans (g.trans d)),b.le d⟩⟩
theorem lE {V:View}{u v w:Value}{px py c qx qy:Rat}(hp:RP V u px py)(hc:RQ V v c)(hq:RP V w qx qy){k m:Nat}(s1:Sz k px)(s2:Sz k py)(s3:Sz m c)(s4:Sz m qx)(s5:Sz m qy)(hkm:k+(m+m+1)<274877906944:=by omega) :
  aa prog 34 #[u,v,w] V fun r V'=>RP V' r (px+c*qx) (py+c*qy):=by
 obtain ⟨x,y,z,A,B,C,D,E,F,G,H,I,rfl,d,e⟩:=hp;obtain ⟨J,K,L,M,N,O,rfl⟩:=hc.shape;obtain ⟨P,Q,R,S,T,U,W,X,Y,Z,m4,e4,rfl,f,g⟩:=hq;refine AZ _ x y z A B C _ D E F G H I _ J K L M N O _ P Q R S T U _ W X Y Z m4 e4 V _ fun V1 a=>(cB (hc.le a) (f.le a) s3 s4).mono ?_;rintro r V2 l n;obtain ⟨a1,a2,a3,a4,a5,a6,rfl⟩:=n.shape;refine ⟨_,_,_,_,_,_,_,rfl,fun V3 h=>(dk (d.le (a.trans (l.trans h))) (n.le h) s1 (s3.mul s4)).mono ?_⟩;rintro r V4 l4 o;obtain ⟨b1,b2,b3,b4,b5,b6,rfl⟩:=o.shape;have i:=a.trans (l.trans (h.trans l4));refine ⟨_,_,_,_,_,_,_,rfl,fun V5 b=>(cB (hc.le (i.trans b)) (g.le (i.trans b)) s3 s5).mono ?_⟩;rintro r V6 p q;obtain ⟨d1,d2,d3,d4,d5,d6,rfl⟩:=q.shape;refine ⟨_,_,_,_,_,_,_,rfl,fun V7 j=>(dk (e.le (i.trans (b.trans (p.trans j)))) (q.le j) s2 (s3.mul s5)).mono ?_⟩;rintro r V8 l8 s;obtain ⟨f1,f2,f3,f4,f5,f6,rfl⟩:=s.shape;exact ⟨_,_,_,_,_,_,_,rfl,fun V9 t=>⟨_,_,_,_,_,_,_,_,_,_,_,_,rfl,o.le (b.trans (p.trans (j.trans (l8.trans t)))),s.le t⟩⟩
theorem K0:Sz 1 ((-1:Int):Rat):=by unfold Sz;decide
theorem BC {V:View}{u w:Value}{px py qx qy:Rat}(hp:RP V u px py)(hq:RP V w qx qy){k m:Nat}(s1:Sz k px)(s2:Sz k py)(s4:Sz m qx)(s5:Sz m qy)(hm:1<=m)(hkm:k+(m+m+1)<274877906944:=by omega) :
  aa prog 79 #[u,w] V fun r V'=>RP V' r (px-qx) (py-qy):=by
 have d:=hp;have e:=hq;obtain ⟨j,l,n,o,p,q,s,t,v,x,y,z,rfl,-,-⟩:=hp;obtain ⟨A,B,c,C,D,E,F,G,H,I,J,K,rfl,-,-⟩:=hq;refine A4 _ j l n o p q _ s t v x y z _ A B c C D E _ F G H I J K V _ fun S L=>(fl (-1) (by omega)).mono ?_;rintro r T M g;obtain ⟨U,W,X,Y,Z,a6,rfl⟩:=g.shape;have h:=L.trans M;refine ⟨_,_,_,_,_,_,_,rfl,fun V3 f=>(lE (d.le (h.trans f)) (g.le f) (e.le (h.trans f)) s1 s2 (K0.mono hm) s4 s5 hkm).mono ?_⟩
 have c:∀a b:Rat,a+((-1:Int):Rat)*b=a-b:=by
  intro a b;have:((-1:Int):Rat)=-1:=rfl;rw [this,Rat.neg_mul,Rat.one_mul,Qr5]
 rw [c,c];rintro r V4 l4 ⟨b1,b2,b3,b4,b5,b6,b7,b8,b9,N,O,P,rfl,Q,R⟩;exact ⟨_,_,_,_,_,_,_,_,_,_,_,_,_,_,rfl,fun V5 i=>⟨_,_,_,_,_,_,_,_,_,_,_,_,rfl,Q.le i,R.le i⟩⟩
theorem zR {V:View}{u w:Value}{px py qx qy:Rat}(hp:RP V u px py)(hq:RP V w qx qy){k m:Nat}(s1:Sz k px)(s2:Sz k py)(s4:Sz m qx)(s5:Sz m qy)(hkm:k+m<274877906944:=by omega) :
  aa prog 78 #[u,w] V fun r V'=>r=.bool (decide (px=qx/\py=qy)):=by
 obtain ⟨l,n,o,p,q,s,t,v,x,y,z,A,rfl,c,d⟩:=hp;obtain ⟨B,C,D,E,F,G,H,I,J,K,L,M,rfl,f,g⟩:=hq;refine xX _ l n o p q s _ t v x y z A _ B C D E F G _ H I J K L M V _ fun O b=>(my (c.le b) (f.le b) s1 s4 hkm).mono ?_;rintro r P j rfl;refine ⟨_,rfl,fun a N i=>(my (d.le (b.trans (j.trans i))) (g.le (b.trans (j.trans i))) s2 s5 hkm).mono ?_,fun a N i=>?_⟩
 ·have a:px=qx:=jj.2 (by simpa using a);rintro r Q R rfl;refine ⟨_,rfl,fun S T=>?_⟩;congr 1;rw [Qz3,decide_eq_true_eq,beq_iff_eq,←jj];exact ⟨fun h=>⟨a,h⟩,fun h=>h.2⟩
 ·have a:¬px=qx:=fun e=>by rw [jj.1 e] at a;simp at a
  rw [decide_eq_false fun h=>a h.1]
end Go.Proofs.Tryz
namespace Go.Eng
open Go.Big
def RL (V:View)(v:Value)(a b c:Int):Prop:=∃p n s p' n' s' q m e,v=.agg #[.bool (decide (a<0)),.slice p n s,.bool (decide (b<0)),.slice p' n' s',.bool (decide (c<0)),.slice q m e] /\
 RD V p n s (ai a.natAbs)/\RD V p' n' s' (ai b.natAbs)/\RD V q m e (ai c.natAbs)
theorem RL.le {V V':View}{v:Value}{a b c:Int}(h:RL V v a b c)(l:V.Le V'):RL V' v a b c:=by
 obtain ⟨p,n,s,d,f,g,q,m,e,rfl,i,j,k⟩:=h;exact ⟨p,n,s,d,f,g,q,m,e,rfl,i.le l,j.le l,k.le l⟩
end Go.Eng
namespace Go.Proofs.Tryz
open Go.Eng Go.Big
theorem mZ {V:View}{p q:OA}{n c m e:Nat}{xs ys:List Nat}(hx:RD V p n c xs)(hy:RD V q m e ys)(hm:xs.length<=1099511627776:=by omega) :
  aa prog 178 #[.slice p n c,.slice q m e] V fun r V'=>r=.bool (decide (xs=ys)):=by
 have g:=hx.len;have s:=hy.len;refine wu p n c q m e V _ ⟨fun b t u=>?_,fun b=>?_⟩
 ·have b:n≠m:=by simp at b;omega
  rw [decide_eq_false fun h=>b (by rw [g,s,h])]
 ·have b:n=m:=by simp at b;omega
  refine ⟨fun z V'=>0<=z/\z<=n/\xs.take z.toNat=ys.take z.toNat,fun z=>n-z.toNat,⟨0,by (try dsimp only);and_intros<;>first|exact True.intro|rfl,by (try dsimp only);omega,by (try dsimp only);omega,rfl⟩,?_⟩;rintro i v o ⟨j,k,d⟩;dsimp only at k d ⊢;obtain ⟨i,rfl⟩:=Qw0 j;simp only [Qq0] at d;refine ⟨by trivial,fun f=>?_,fun f x y=>?_⟩
  ·have f:i<n:=by simpa using f
   refine (hx.le o).rd i rfl (by omega) ((hy.le o).rd i rfl (by omega) ⟨fun a A B=>?_,fun a=>?_⟩)
   ·have a:xs[i]≠ys[i]:=by simp at a;omega
    rw [decide_eq_false fun h=>a (by subst h;rfl)]
   ·have a:xs[i]=ys[i]:=by simp at a;omega
    have w:i64.wrap ((i:Int)+1)=((i+1:Nat):Int):=by rw [ar (by omega)];omega
    simp only [w];refine ⟨((i+1:Nat):Int),?_,by (try dsimp only);and_intros<;>first|exact True.intro|rfl,by (try dsimp only);omega,by (try dsimp only);omega,?_⟩
    ·(try dsimp only);omega
    ·(try dsimp only)
     simp only [Qq0];rw [Qy1 (by omega),Qy1 (l:=ys) (by omega),d,a]
  ·have f:i=n:=by simp at f;omega
   rw [Qb8 (by omega),Qb8 (by omega)] at d;rw [decide_eq_true d]
theorem Jb {z w:Int}:(decide (z<0)==decide (w<0))=true->(decide (ai z.natAbs=ai w.natAbs)=decide (z=w)):=by
 intro h;have b:(z<0↔w<0):=by simpa using h
 rw [Qz3,decide_eq_true_eq,decide_eq_true_eq];constructor
 ·intro a;have:=oQ a;omega
 ·intro a;rw [a]
theorem fY {V:View}{z w:Int}{p q:OA}{n c m e:Nat}(hx:RD V p n c (ai z.natAbs))(hy:RD V q m e (ai w.natAbs))(hm:(ai z.natAbs).length<=1099511627776:=by omega) :
  aa prog 129 #[.agg #[.bool (decide (z<0)),.slice p n c],.agg #[.bool (decide (w<0)),.slice q m e]] V fun r V'=>r=.bool (decide (z=w)):=by
 refine wk _ p n c _ q m e V _ ⟨fun a d b=>(mZ (hx.le b) (hy.le b) hm).mono ?_,fun a d b=>?_⟩
 ·rintro r f g rfl;refine ⟨_,rfl,fun i j=>?_⟩;rw [Jb a]
 ·rw [decide_eq_false fun h=>by subst h;simp at a]
theorem xi {V:View}{v w:Value}{a b c a' b' c':Int}(hx:RL V v a b c)(hy:RL V w a' b' c')(h1:(ai a.natAbs).length<=1099511627776)(h2:(ai b.natAbs).length<=1099511627776)(h3:(ai c.natAbs).length<=1099511627776) :
  aa prog 68 #[v,w] V fun r V'=>r=.bool (decide (a=a'/\b=b'/\c=c')):=by
 obtain ⟨p,n,s,x,y,z,q,m,e,rfl,A,B,C⟩:=hx;obtain ⟨i,j,k,D,E,F,i2,G,H,rfl,I,J,K⟩:=hy;refine wC _ p n s _ x y z _ q m e _ i j k _ D E F _ i2 G H V _ fun L d=>(fY (A.le d) (I.le d) h1).mono ?_;rintro r M l rfl;refine ⟨_,rfl,fun f N o=>(fY (B.le (d.trans (l.trans o))) (J.le (d.trans (l.trans o))) h2).mono ?_,fun f O P=>?_⟩
 ·rintro r Q t rfl;rw [decide_eq_true_eq] at f;refine ⟨_,rfl,fun g R u=>(fY (C.le (d.trans (l.trans (o.trans (t.trans u))))) (K.le (d.trans (l.trans (o.trans (t.trans u))))) h3).mono ?_,fun g S T=>?_⟩
  ·rintro r U W rfl;rw [decide_eq_true_eq] at g;refine ⟨_,rfl,fun X Y=>?_⟩;congr 1;rw [Qz3,decide_eq_true_eq,decide_eq_true_eq];exact ⟨fun h=>⟨f,g,h⟩,fun h=>h.2.2⟩
  ·rw [decide_eq_false_iff_not] at g;rw [decide_eq_false fun h=>g h.2.1]
 ·rw [decide_eq_false_iff_not] at f;rw [decide_eq_false fun h=>f h.1]
theorem BD {V:View}{v:Value}{a b c:Int}(hx:RL V v a b c)(h1:(ai a.natAbs).length<=1099511627776)(h2:(ai b.natAbs).length<=1099511627776)(h3:(ai c.natAbs).length<=1099511627776) :
  aa prog 14 #[v] V fun r V'=>RL V' r a b c:=by
 obtain ⟨p,n,s,l,o,t,q,m,e,rfl,u,w,x⟩:=hx;refine A5 _ p n s _ l o t _ q m e V _ fun B d=>(jf ⟨_,_,_,rfl,u.le d⟩ h1).mono ?_;rintro r C i ⟨D,E,F,rfl,y⟩;refine ⟨_,_,_,_,rfl,fun G f=>(jf ⟨_,_,_,rfl,w.le (d.trans (i.trans f))⟩ h2).mono ?_⟩;rintro r H j ⟨I,J,K,rfl,z⟩;refine ⟨_,_,_,_,rfl,fun L g=>(jf ⟨_,_,_,rfl,x.le (d.trans (i.trans (f.trans (j.trans g))))⟩ h3).mono ?_⟩;rintro r M k ⟨N,O,P,rfl,A⟩;exact ⟨_,_,_,_,rfl,fun Q h=>⟨_,_,_,_,_,_,_,_,_,rfl,y.le (f.trans (j.trans (g.trans (k.trans h)))),z.le (g.trans (k.trans h)),A.le h⟩⟩
theorem uA {z:Int}{g:Nat}(hg:0<g)(hd:g∣z.natAbs):(if decide (z<0)=true then -((z.natAbs / g:Nat):Int) else ((z.natAbs / g:Nat):Int))=z / (g:Int):=by
 obtain ⟨k,a⟩:=hd;have b:z.natAbs / g=k:=by rw [a,Nat.mul_div_cancel_left _ hg]
 rw [b]
 have c:z=(g:Int)*(if decide (z<0)=true then -(k:Int) else k):=by
  split
  ·rename_i h;rw [decide_eq_true_eq] at h;rw [Wq0,←Qn5,←a];omega
  ·rename_i h;rw [decide_eq_true_eq] at h;rw [←Qn5,←a];omega
 generalize (if decide (z<0)=true then -(k:Int) else k)=t at *;rw [c,Qg8 _ (by omega)]
def bF (a b c:Int):Nat:=Nat.gcd (Nat.gcd a.natAbs b.natAbs) c.natAbs
theorem xg {V:View}{u v w:Value}{a b c:Int}(ha:RI V u a)(hb:RI V v b)(hc:RI V w c)(h1:(ai a.natAbs).length<=274877906944)(h2:(ai b.natAbs).length<=274877906944)(h3:(ai c.natAbs).length<=274877906944) :
  aa prog 84 #[u,v,w] V fun r V'=>(a=0/\b=0->∃l,r=.tuple #[l,.bool false]/\RL V' l 0 0 0) /\
   (¬(a=0/\b=0)->∃l,r=.tuple #[l,.bool true]/\RL V' l (a / (bF a b c:Int)) (b / (bF a b c:Int)) (c / (bF a b c:Int))):=by
 obtain ⟨p,n,s,rfl,ha⟩:=ha;obtain ⟨T,U,W,rfl,hb⟩:=hb;obtain ⟨q,m,e,rfl,hc⟩:=hc;refine wA _ p n s _ T U W _ q m e V _ fun V1 j=>(kE (ha.le j) (hb.le j) h1 h2).mono ?_;rintro r V2 L ⟨p1,n1,c1,rfl,M⟩;have hp:=fw M.len;have t:Nat.gcd a.natAbs b.natAbs=0↔a=0/\b=0:=by rw [Qh3];omega
 refine ⟨_,_,_,rfl,fun x V3 l3=>⟨fun _=>⟨_,rfl,_,_,_,_,_,_,_,_,_,rfl,RD.nil,RD.nil,RD.nil⟩,fun h=>?_⟩,fun x V4 y=>?_⟩
 ·exact absurd (t.1 (by simp at x;omega)) h
 have z:¬(a=0/\b=0):=fun h=>by have:=t.2 h;simp at x;omega
 have g:0<Nat.gcd a.natAbs b.natAbs:=by have:=t;omega
 have i:(ai (Nat.gcd a.natAbs b.natAbs)).length<=274877906944:=by
  rcases Qx8 a.natAbs with h|h
  ·rw [h,Qs6];exact h2
  ·exact Qx6 (aF (Wy5 _ h)) h1
 refine (kE (M.le y) (hc.le (j.trans (L.trans y))) i h3).mono ?_;rintro r V5 X ⟨p2,n2,c2,rfl,k⟩;have A:=j.trans (L.trans (y.trans X));have Y:Nat.gcd (Nat.gcd a.natAbs b.natAbs) c.natAbs=bF a b c:=rfl;have d:0<bF a b c:=Nat.gcd_pos_of_pos_left _ g;have B:(ai (bF a b c)).length<=274877906944:=Qx6 (aF (Wy5 _ g)) i;have Z:bF a b c∣a.natAbs:=Qr6 (Qj6 _ _) (Qj6 _ _);have db:bF a b c∣b.natAbs:=Qr6 (Qj6 _ _) (Qb4 _ _);have dc:bF a b c∣c.natAbs:=Qb4 _ _;have sa:=uA d Z;have sb:=uA d db;have sc:=uA d dc;rw [Y] at k;generalize bF a b c=G at *;refine ⟨_,_,_,rfl,fun V6 C=>(dF (ha.le (A.trans C)) (k.le C) h1 B d).mono ?_⟩;rintro r V7 l7 ⟨p3,n3,c3,p4,n4,c4,rfl,g3,-⟩;have D:=C.trans l7;refine ⟨_,_,_,_,_,_,rfl,fun V8 o=>(dF (hb.le (A.trans (D.trans o))) (k.le (D.trans o)) h2 B d).mono ?_⟩;rintro r V9 N ⟨p5,n5,c5,p6,n6,c6,rfl,g5,-⟩;have O:=D.trans (o.trans N);refine ⟨_,_,_,_,_,_,rfl,fun fK f=>(dF (hc.le (A.trans (O.trans f))) (k.le (O.trans f)) h3 B d).mono ?_⟩;rintro r eO P ⟨p7,n7,c7,p8,n8,c8,rfl,g7,-⟩;refine ⟨_,_,_,_,_,_,rfl,fun gW E=>(eG _ (g3.le (o.trans (N.trans (f.trans (P.trans E)))))).mono ?_⟩;rw [sa];rintro r lx Q ⟨p9,n9,c9,rfl,g9⟩;refine ⟨_,_,_,_,rfl,fun mr F=>(eG _ (g5.le (f.trans (P.trans (E.trans (Q.trans F)))))).mono ?_⟩;rw [sb];rintro r mV R ⟨LI,a0,a1,rfl,H⟩;refine ⟨_,_,_,_,rfl,fun rz I=>(eG _ (g7.le (E.trans (Q.trans (F.trans (R.trans I)))))).mono ?_⟩;rw [sc];rintro r pR S ⟨PB,a2,a3,rfl,J⟩;refine ⟨_,_,_,_,rfl,fun wS K=>⟨fun h=>absurd h z,fun _=>⟨_,rfl,_,_,_,_,_,_,_,_,_,rfl,?_,?_,?_⟩⟩⟩
 ·exact g9.le (F.trans (R.trans (I.trans (S.trans K))))
 ·exact H.le (I.trans (S.trans K))
 ·exact J.le K
end Go.Proofs.Tryz
namespace Go.Eng
open Go.Big
def Bg (V:View)(v:Value)(a b c:Rat):Prop:=∃(x1 x2:Int)(p:OA)(y1 y2:Int)(q:OA)(z1 z2:Int)(r:OA),v=.agg #[.int .i64 x1,.int .i64 x2,.pointer p,.int .i64 y1,.int .i64 y2,.pointer q,.int .i64 z1,.int .i64 z2,.pointer r] /\
 RR V (.agg #[.int .i64 x1,.int .i64 x2,.pointer p]) a/\RR V (.agg #[.int .i64 y1,.int .i64 y2,.pointer q]) b/\RR V (.agg #[.int .i64 z1,.int .i64 z2,.pointer r]) c
def NV (v:Value):Prop:=∃(x1 x2:Int)(x3:OA)(y1 y2:Int)(y3:OA)(z1 z2:Int)(z3:OA),v=.agg #[.int .i64 x1,.int .i64 x2,.pointer x3,.int .i64 y1,.int .i64 y2,.pointer y3,.int .i64 z1,.int .i64 z2,.pointer z3]
theorem Bg.le {V V':View}{v:Value}{a b c:Rat}(h:Bg V v a b c)(l:V.Le V'):Bg V' v a b c:=by
 obtain ⟨d,e,p,f,g,q,i,j,r,rfl,k,m,n⟩:=h;exact ⟨d,e,p,f,g,q,i,j,r,rfl,k.le l,m.le l,n.le l⟩
end Go.Eng
namespace Go.Proofs.Tryz
open Go.Eng Go.Big
theorem F3 {V:View}{v:Value}{a b c:Rat}(h:Bg V v a b c){k:Nat}(s1:Sz k a)(s2:Sz k b)(s3:Sz k c)(hk:k<=1099511627776) :
  aa prog 164 #[v] V fun r V'=>RL V' r a.num b.num c.num:=by
 obtain ⟨w,x,p,y,z,q,A,B,r,rfl,m,n,o⟩:=h;refine xJ _ _ _ _ _ _ _ _ _ V _ fun C d=>(eu (m.le d) s1 hk).mono ?_;rintro r D i ⟨E,F,G,rfl,s⟩;refine ⟨_,_,_,_,rfl,fun H e=>(eu (n.le (d.trans (i.trans e))) s2 hk).mono ?_⟩;rintro r I j ⟨J,K,L,rfl,t⟩;refine ⟨_,_,_,_,rfl,fun M f=>(eu (o.le (d.trans (i.trans (e.trans (j.trans f))))) s3 hk).mono ?_⟩;rintro r N l ⟨O,P,Q,rfl,u⟩;exact ⟨_,_,_,_,rfl,fun R g=>⟨_,_,_,_,_,_,_,_,_,rfl,s.le (e.trans (j.trans (f.trans (l.trans g)))),t.le (f.trans (l.trans g)),u.le g⟩⟩
def An (b1:Bool)(xs:List Nat)(b2:Bool)(ys:List Nat)(b3:Bool)(zs:List Nat):Bool:=
 lq b1 xs&&lq b2 ys&&lq b3 zs&&!(decide ((bo b1 xs:Rat)=0)&&decide ((bo b2 ys:Rat)=0))&&decide (cT (cT (bo b1 xs) (bo b2 ys)) (bo b3 zs)=((1:Int):Rat))
theorem qG {V:View}{ok:Bool}{A B C:Rat}(h:ok=false):∃v,Value.tuple #[.agg #[.int .i64 0,.int .i64 0,.pointer none,.int .i64 0,.int .i64 0,.pointer none,.int .i64 0,.int .i64 0,.pointer none],.bool false]=.tuple #[v,.bool ok]/\NV v/\(ok=true->Bg V v A B C):=by
 subst h;exact ⟨_,rfl,⟨_,_,_,_,_,_,_,_,_,rfl⟩,fun h=>nomatch h⟩
theorem Jo:Sz 1 ((1:Int):Rat):=by unfold Sz;decide
theorem DE {V:View}(b1 b2 b3:Bool){p q s:OA}{n c m e i j:Nat}{xs ys zs:List Nat}(hx:RD V p n c xs)(hy:RD V q m e ys)(hz:RD V s i j zs)
  (h1:xs.length<=1099511627776)(h2:ys.length<=1099511627776)(h3:zs.length<=1099511627776){k:Nat}(s1:Sz k (bo b1 xs:Rat))(s2:Sz k (bo b2 ys:Rat))(s3:Sz k (bo b3 zs:Rat))(hk:4*k+4<1099511627776) :
  aa prog 40 #[.agg #[.bool b1,.slice p n c,.bool b2,.slice q m e,.bool b3,.slice s i j]] V fun r V'=>∃v,r=.tuple #[v,.bool (An b1 xs b2 ys b3 zs)]/\NV v/\(An b1 xs b2 ys b3 zs=true->Bg V' v (bo b1 xs) (bo b2 ys) (bo b3 zs)):=by
 refine CV _ p n c _ q m e _ s i j V _ fun V1 G=>(dE b1 (hx.le G) h1).mono ?_;rintro r V2 J rfl;refine ⟨_,rfl,fun b V3 l3=>qG ?_,fun b V4 K=>(dE b2 (hy.le (G.trans (J.trans K))) h2).mono ?_⟩
 ·have b:lq b1 xs=false:=by simpa using b
  simp [An,b]
 have b:lq b1 xs=true:=by simpa using b
 rintro r V5 W rfl;refine ⟨_,rfl,fun d V6 l6=>qG ?_,fun d V7 X=>(dE b3 (hz.le (G.trans (J.trans (K.trans (W.trans X))))) h3).mono ?_⟩
 ·have d:lq b2 ys=false:=by simpa using d
  simp [An,d]
 have d:lq b2 ys=true:=by simpa using d
 rintro r V8 l8 rfl;have Y:=G.trans (J.trans (K.trans (W.trans (X.trans l8))));refine ⟨_,rfl,fun f0 V9 l9=>qG ?_,fun f0 fK w=>(kx b1 (hx.le (Y.trans w)) h1).mono ?_⟩
 ·have f0:lq b3 zs=false:=by simpa using f0
  simp [An,f0]
 have f0:lq b3 zs=true:=by simpa using f0
 rintro r eO bA f;obtain ⟨x1,x2,x3,rfl⟩:=f.shape;have Z:=Y.trans (w.trans bA);refine ⟨_,_,_,rfl,fun gW L=>(kx b2 (hy.le (Z.trans L)) h2).mono ?_⟩;rintro r lx cD g;obtain ⟨y1,y2,y3,rfl⟩:=g.shape;have Si:=Z.trans (L.trans cD);refine ⟨_,_,_,rfl,fun mr M=>(kx b3 (hz.le (Si.trans M)) h3).mono ?_⟩;rintro r H dw rc;obtain ⟨z1,z2,z3,rfl⟩:=rc.shape
 replace f:=f.le (L.trans (cD.trans (M.trans dw)))
 replace g:=g.le (M.trans dw)
 have x:An b1 xs b2 ys b3 zs=(!(decide ((bo b1 xs:Rat)=0)&&decide ((bo b2 ys:Rat)=0))&&decide (cT (cT (bo b1 xs) (bo b2 ys)) (bo b3 zs)=((1:Int):Rat))):=by
  simp only [An,b,d,f0,Bool.true_and]
 rw [x];clear x b d f0 hx hy hz;generalize (bo b1 xs:Rat)=A at *;generalize (bo b2 ys:Rat)=B at *;generalize (bo b3 zs:Rat)=C at *;refine ⟨_,_,_,rfl,fun rz I=>(oJ (f.le I)).mono ?_⟩;rintro r pR N rfl;refine ⟨_,rfl,fun t0 wS hJ=>(oJ (g.le (I.trans (N.trans hJ)))).mono ?_,fun t0 O P=>?_⟩
 ·rintro r Dk iW rfl;refine ⟨_,rfl,fun Q FQ pS=>qG (by rw [t0,Q];rfl),fun Q O P=>?_⟩;have lb:H.Le O:=I.trans (N.trans (hJ.trans (iW.trans P)));have R:(decide (A=0)&&decide (B=0))=false:=by rw [Q,Wz1]
  rw [R];refine (fM (f.le lb) (g.le lb) s1 s2).mono ?_;rintro r FR y rg;obtain ⟨g1,g2,g3,rfl⟩:=rg.shape;refine ⟨_,_,_,rfl,fun G3 l=>(fM (rg.le l) (rc.le (lb.trans (y.trans l))) (fg s1 s2) s3).mono ?_⟩;rintro r Nv S z;obtain ⟨h1,h2,h3,rfl⟩:=z.shape;refine ⟨_,_,_,rfl,fun Nw D=>(iu 1 (by omega)).mono ?_⟩;rintro r NY E F;obtain ⟨i1,i2,i3,rfl⟩:=F.shape;refine ⟨_,_,_,rfl,fun QT o=>(jU (z.le (D.trans (E.trans o))) (F.le o) (fg (fg s1 s2) s3) Jo).mono ?_⟩;rintro r T U rfl;have t:H.Le T:=lb.trans (y.trans (l.trans (S.trans (D.trans (E.trans (o.trans U))))));refine ⟨_,rfl,fun a QU MT=>qG ?_,fun a Ny u=>?_⟩
  ·rw [Qy7] at a;rw [a];rfl
  ·have a:decide (cT (cT A B) C=((1:Int):Rat))=true:=by
    cases h:decide (cT (cT A B) C=((1:Int):Rat))
    ·rw [h] at a;cases a
    ·rfl
   rw [a];exact ⟨_,rfl,⟨_,_,_,_,_,_,_,_,_,rfl⟩,fun _=>⟨_,_,_,_,_,_,_,_,_,rfl,f.le (t.trans u),g.le (t.trans u),rc.le (t.trans u)⟩⟩
 ·have lb:H.Le O:=I.trans (N.trans P);have R:(decide (A=0)&&decide (B=0))=false:=by rw [t0,Bool.false_and]
  rw [R];refine (fM (f.le lb) (g.le lb) s1 s2).mono ?_;rintro r FR y rg;obtain ⟨g1,g2,g3,rfl⟩:=rg.shape;refine ⟨_,_,_,rfl,fun G3 l=>(fM (rg.le l) (rc.le (lb.trans (y.trans l))) (fg s1 s2) s3).mono ?_⟩;rintro r Nv S z;obtain ⟨h1,h2,h3,rfl⟩:=z.shape;refine ⟨_,_,_,rfl,fun Nw D=>(iu 1 (by omega)).mono ?_⟩;rintro r NY E F;obtain ⟨i1,i2,i3,rfl⟩:=F.shape;refine ⟨_,_,_,rfl,fun QT o=>(jU (z.le (D.trans (E.trans o))) (F.le o) (fg (fg s1 s2) s3) Jo).mono ?_⟩;rintro r T U rfl;have t:H.Le T:=lb.trans (y.trans (l.trans (S.trans (D.trans (E.trans (o.trans U))))));refine ⟨_,rfl,fun a QU MT=>qG ?_,fun a Ny u=>?_⟩
  ·rw [Qy7] at a;rw [a];rfl
  ·have a:decide (cT (cT A B) C=((1:Int):Rat))=true:=by
    cases h:decide (cT (cT A B) C=((1:Int):Rat))
    ·rw [h] at a;cases a
    ·rfl
   rw [a];exact ⟨_,rfl,⟨_,_,_,_,_,_,_,_,_,rfl⟩,fun _=>⟨_,_,_,_,_,_,_,_,_,rfl,f.le (t.trans u),g.le (t.trans u),rc.le (t.trans u)⟩⟩
def II:List Int->Int
 | []=>0
 | x::r=>if x=0 then II r else x
def MJ (l:List Int):List Value:=l.map fun x=>Value.int .i64 x
theorem M0 {l:List Int}:II l=0↔∀x∈l,x=0:=by
 induction l with
 | nil=>simp [II]
 | cons x r ih=>
  simp only [II,Qq6,forall_eq_or_imp];split
  ·rename_i h;simp [h,ih]
  ·rename_i h;simp [h]
theorem HC {V:View}{p:OA}{n c:Nat}{l:List Int}(hl:n=l.length)(hs:V.sl p (MJ l))(hm:l.length<=1099511627776) :
  aa prog 175 #[.slice p n c] V fun r V'=>r=.int .i64 (II l):=by
 refine GZ p n c V _ ⟨fun z V'=>0<=z/\z<=n/\II l=II (l.drop z.toNat),fun z=>n-z.toNat,⟨0,by (try dsimp only);and_intros<;>first|exact True.intro|rfl,by (try dsimp only);omega,by (try dsimp only);omega,rfl⟩,?_⟩;rintro i m j ⟨e,f,he⟩;dsimp only at f he ⊢;obtain ⟨i,rfl⟩:=Qw0 e;simp only [Qq0] at he;refine ⟨by trivial,fun b=>?_,fun b o q=>?_⟩
 ·have b:i<n:=by simpa using b
  have d:i<l.length:=by omega
  obtain ⟨k,h,g⟩:=(j.sl hs) i (.int .i64 l[i]) (by simp [MJ,d]);rw [Qw1 d,II] at he;refine ⟨by rw [h];rfl,⟨by omega,by omega⟩,l[i],⟨k.add i,by rw [h];simp [ah],g⟩,fun a s t=>?_,fun a=>?_⟩
  ·have a:l[i]≠0:=by simpa using a
   rw [if_neg a] at he;rw [he]
  ·have a:l[i]=0:=by simpa using a
   rw [if_pos a] at he;have w:i64.wrap ((i:Int)+1)=((i+1:Nat):Int):=by rw [ar (by omega)];omega
   simp only [w];refine ⟨((i+1:Nat):Int),?_,by (try dsimp only);and_intros<;>first|exact True.intro|rfl,by (try dsimp only);omega,by (try dsimp only);omega,?_⟩
   ·(try dsimp only);omega
   ·exact he
 ·have b:i=n:=by simp at b;omega
  rw [Qx1 (by omega)] at he;rw [he];rfl
theorem yz {V:View}{v w:Value}{a b c a' b' c':Rat}(hx:Bg V v a b c)(hy:Bg V w a' b' c'){k m:Nat}(s1:Sz k a)(s2:Sz k b)(s3:Sz k c)(t1:Sz m a')(t2:Sz m b')(t3:Sz m c')(hk:k+m<1099511627776:=by omega) :
  aa prog 125 #[v,w] V fun r V'=>r=.int .i64 (II [cmpQ a a',cmpQ b b',cmpQ c c']):=by
 obtain ⟨A,B,p,C,D,q,E,F,r,rfl,j,n,o⟩:=hx;obtain ⟨G,H,I,J,K,L,M,N,O,rfl,s,t,u⟩:=hy;refine xK _ _ _ _ _ _ _ _ _ _ _ _ _ _ _ _ _ _ V _ fun P d=>(mw (j.le d) (s.le d) s1 t1 hk).mono ?_;rintro r Q e rfl;refine ⟨_,rfl,fun R f=>(mw (n.le (d.trans (e.trans f))) (t.le (d.trans (e.trans f))) s2 t2 hk).mono ?_⟩;rintro r S x rfl;have g:=d.trans (e.trans (f.trans x));refine ⟨_,rfl,fun T h=>(mw (o.le (g.trans h)) (u.le (g.trans h)) s3 t3 hk).mono ?_⟩;rintro r U W rfl;refine ⟨_,rfl,fun X Y Z y=>(HC (l:=[cmpQ a a',cmpQ b b',cmpQ c c']) rfl (fun i v z=>⟨_,rfl,by rw [add_zero'];exact fj (xs:=MJ [cmpQ a a',cmpQ b b',cmpQ c c']) y z⟩) (by simp)).mono ?_⟩;rintro r V8 l8 rfl;exact ⟨_,rfl,fun _ V9 l9=>rfl⟩
theorem Bv {V:View}{v w:Value}{a b c a' b' c':Rat}(hx:Bg V v a b c)(hy:Bg V w a' b' c'){k m:Nat}(s1:Sz k a)(s2:Sz k b)(s3:Sz k c)(t1:Sz m a')(t2:Sz m b')(t3:Sz m c')(hk:k+m<1099511627776) :
  aa prog 126 #[v,w] V fun r V'=>r=.bool (decide (a=a'/\b=b'/\c=c')):=by
 have d:=hx;have e:=hy;obtain ⟨g,h,p,i,j,q,l,n,r,rfl,-,-,-⟩:=hx;obtain ⟨o,s,t,u,x,y,z,A,B,rfl,-,-,-⟩:=hy;refine sS _ _ _ _ _ _ _ _ _ _ _ _ _ _ _ _ _ _ V _ fun C f=>(yz (d.le f) (e.le f) s1 s2 s3 t1 t2 t3 hk).mono ?_;rintro r D E rfl;refine ⟨_,rfl,fun F G=>?_⟩;congr 1;rw [Qz3,decide_eq_true_eq,beq_iff_eq,M0];simp [←jj]
def mU (V:View)(v:Value)(x y:Rat):Prop:=∃(x1 x2:Int)(p:OA)(y1 y2:Int)(q:OA),v=.agg #[.int .i64 x1,.int .i64 x2,.pointer p,.int .i64 y1,.int .i64 y2,.pointer q] /\
 RR V (.agg #[.int .i64 x1,.int .i64 x2,.pointer p]) x/\RR V (.agg #[.int .i64 y1,.int .i64 y2,.pointer q]) y
theorem mU.le {V V':View}{v:Value}{x y:Rat}(h:mU V v x y)(l:V.Le V'):mU V' v x y:=by
 obtain ⟨a,b,p,c,d,q,e,f,g⟩:=h;exact ⟨a,b,p,c,d,q,e,f.le l,g.le l⟩
theorem zM {V:View}{p:Value}{gS gT:Rat}{q:Value}{rQ rR:Rat}(hp:mU V p gS gT)(hq:mU V q rQ rR){k:Nat}(eZ:Sz k gS)(eM:Sz k gT)(mR:Sz k rQ)(mS:Sz k rR)(hk:2*k+1<274877906944:=by omega) :
  aa prog 219 #[p,q] V fun r V'=>mU V' r ((gS)+(rQ)) ((gT)+(rR)):=by
 have i:=hp;obtain ⟨j,l,m,n,o,s,rfl,t,u⟩:=hp;have v:=hq;obtain ⟨w,x,y,z,A,B,rfl,C,D⟩:=hq;refine xN j l m n o s w x y z A B V _ fun F a=>(tC (t.le (a)) (C.le (a)) eZ mR).mono ?_;rintro r G e f;have b:=f;obtain ⟨H,I,J,rfl⟩:=f.shape;refine ⟨_,_,_,rfl,fun K c=>(tC (u.le (a.trans (e.trans (c)))) (D.le (a.trans (e.trans (c)))) eM mS).mono ?_⟩;rintro r L E g;have d:=g;obtain ⟨M,N,O,rfl⟩:=g.shape;exact ⟨_,_,_,rfl,fun P h=>⟨_,_,_,_,_,_,rfl,(b.le (c.trans (E.trans (h)))),(d.le (h))⟩⟩
theorem wG {gS gT rQ rR:Rat}{k:Nat}(eZ:Sz k gS)(eM:Sz k gT)(mR:Sz k rQ)(mS:Sz k rR):Sz (2*k+1) ((gS)+(rQ)):=by
 have a:=Sz.mono (m:=2*k+1) (Sz.add eZ mR);exact Sz.mono a
theorem wH {gS gT rQ rR:Rat}{k:Nat}(eZ:Sz k gS)(eM:Sz k gT)(mR:Sz k rQ)(mS:Sz k rR):Sz (2*k+1) ((gT)+(rR)):=by
 have a:=Sz.mono (m:=2*k+1) (Sz.add eM mS);exact Sz.mono a
theorem zN {V:View}{p:Value}{gS gT:Rat}{q:Value}{rQ rR:Rat}(hp:mU V p gS gT)(hq:mU V q rQ rR){k:Nat}(eZ:Sz k gS)(eM:Sz k gT)(mR:Sz k rQ)(mS:Sz k rR)(hk:2*k+1<274877906944:=by omega) :
  aa prog 216 #[p,q] V fun r V'=>mU V' r ((gS)-(rQ)) ((gT)-(rR)):=by
 have i:=hp;obtain ⟨j,l,m,n,o,s,rfl,t,u⟩:=hp;have v:=hq;obtain ⟨w,x,y,z,A,B,rfl,C,D⟩:=hq;refine xP j l m n o s w x y z A B V _ fun F a=>(zL (t.le (a)) (C.le (a)) eZ mR).mono ?_;rintro r G e f;have b:=f;obtain ⟨H,I,J,rfl⟩:=f.shape;refine ⟨_,_,_,rfl,fun K c=>(zL (u.le (a.trans (e.trans (c)))) (D.le (a.trans (e.trans (c)))) eM mS).mono ?_⟩;rintro r L E g;have d:=g;obtain ⟨M,N,O,rfl⟩:=g.shape;exact ⟨_,_,_,rfl,fun P h=>⟨_,_,_,_,_,_,rfl,(b.le (c.trans (E.trans (h)))),(d.le (h))⟩⟩
theorem lB {V:View}{p:Value}{gS gT:Rat}{c:Value}{JB:Rat}(hp:mU V p gS gT)(hc:RR V c JB){k:Nat}(eZ:Sz k gS)(eM:Sz k gT)(GP:Sz k JB)(hk:2*k+1<274877906944:=by omega) :
  aa prog 200 #[p,c] V fun r V'=>mU V' r ((gS)*(JB)) ((gT)*(JB)):=by
 have l:=hp;obtain ⟨m,n,o,q,s,t,rfl,u,v⟩:=hp;have a:=hc;obtain ⟨w,x,y,rfl⟩:=hc.shape;refine sW m n o q s t w x y V _ fun A b=>(jd (u.le (b)) (a.le (b)) eZ GP).mono ?_;rintro r B g h;have d:=h;obtain ⟨C,D,E,rfl⟩:=h.shape;refine ⟨_,_,_,rfl,fun F e=>(jd (v.le (b.trans (g.trans (e)))) (a.le (b.trans (g.trans (e)))) eM GP).mono ?_⟩;rintro r G z i;have f:=i;obtain ⟨H,I,J,rfl⟩:=i.shape;exact ⟨_,_,_,rfl,fun K j=>⟨_,_,_,_,_,_,rfl,(d.le (e.trans (z.trans (j)))),(f.le (j))⟩⟩
theorem dO {gS gT JB:Rat}{k:Nat}(eZ:Sz k gS)(eM:Sz k gT)(GP:Sz k JB):Sz (2*k+1) ((gS)*(JB)):=by
 have a:=Sz.mono (m:=2*k+1) (Sz.mul eZ GP);exact Sz.mono a
theorem dP {gS gT JB:Rat}{k:Nat}(eZ:Sz k gS)(eM:Sz k gT)(GP:Sz k JB):Sz (2*k+1) ((gT)*(JB)):=by
 have a:=Sz.mono (m:=2*k+1) (Sz.mul eM GP);exact Sz.mono a
theorem wX {V:View}{p:Value}{gS gT:Rat}(hp:mU V p gS gT){k:Nat}(eZ:Sz k gS)(eM:Sz k gT)(hk:1*k+1<274877906944:=by omega) :
  aa prog 217 #[p] V fun r V'=>mU V' r (-(gT)) (gS):=by
 have e:=hp;obtain ⟨f,g,h,i,j,l,rfl,m,n⟩:=hp;refine vV f g h i j l V _ fun q b=>(oI (n.le (b)) eM).mono ?_;rintro r s o c;have a:=c;obtain ⟨t,u,v,rfl⟩:=c.shape;exact ⟨_,_,_,rfl,fun w d=>⟨_,_,_,_,_,_,rfl,(a.le (d)),(m.le (b.trans (o.trans (d))))⟩⟩
theorem gX {V:View}{p:Value}{gS gT:Rat}{q:Value}{rQ rR:Rat}(hp:mU V p gS gT)(hq:mU V q rQ rR){k:Nat}(eZ:Sz k gS)(eM:Sz k gT)(mR:Sz k rQ)(mS:Sz k rR)(hk:4*k+3<274877906944:=by omega) :
  aa prog 156 #[p,q] V fun r V'=>RR V' r (((gS)*(rQ))+((gT)*(rR))):=by
 have j:=hp;obtain ⟨l,n,o,s,t,u,rfl,v,w⟩:=hp;have x:=hq;obtain ⟨y,z,A,B,C,D,rfl,E,F⟩:=hq;refine xO l n o s t u y z A B C D V _ fun L a=>(jd (v.le (a)) (E.le (a)) eZ mR).mono ?_;rintro r M e f;have b:=f;obtain ⟨N,O,P,rfl⟩:=f.shape;have G:=Sz.mono (m:=2*k+1) (Sz.mul eZ mR);refine ⟨_,_,_,rfl,fun Q c=>(jd (w.le (a.trans (e.trans (c)))) (F.le (a.trans (e.trans (c)))) eM mS).mono ?_⟩;rintro r R H g;have d:=g;obtain ⟨S,T,U,rfl⟩:=g.shape;have I:=Sz.mono (m:=2*k+1) (Sz.mul eM mS);refine ⟨_,_,_,rfl,fun W h=>(tC (b.le (c.trans (H.trans (h)))) (d.le (h)) G I).mono ?_⟩;rintro r X Y i;have J:=i;obtain ⟨Z,P5,P6,rfl⟩:=i.shape;exact ⟨_,_,_,rfl,fun V7 K=>(J.le (K))⟩
theorem ct {gS gT rQ rR:Rat}{k:Nat}(eZ:Sz k gS)(eM:Sz k gT)(mR:Sz k rQ)(mS:Sz k rR):Sz (4*k+3) (((gS)*(rQ))+((gT)*(rR))):=by
 have a:=Sz.mono (m:=2*k+1) (Sz.mul eZ mR);have b:=Sz.mono (m:=2*k+1) (Sz.mul eM mS);have c:=Sz.mono (m:=4*k+3) (Sz.add a b);exact Sz.mono c
theorem oL {V:View}{l:Value}{cL l_1 gQ:Rat}(hl:Bg V l cL l_1 gQ){k:Nat}(bT:Sz k cL)(b_:Sz k l_1)(ca:Sz k gQ)(hk:1*k+1<274877906944:=by omega) :
  aa prog 157 #[l] V fun r V'=>mU V' r (l_1) (-(cL)):=by
 have f:=hl;obtain ⟨g,a,c,b,h,i,j,m,n,rfl,o,p,q⟩:=hl;refine xL g a c b h i j m n V _ fun s a=>(oI (o.le (a)) bT).mono ?_;rintro r t c e;have d:=e;obtain ⟨u,v,w,rfl⟩:=e.shape;exact ⟨_,_,_,rfl,fun x b=>⟨_,_,_,_,_,_,rfl,(p.le (a.trans (c.trans (b)))),(d.le (b))⟩⟩
theorem dq {cL l_1 gQ:Rat}{k:Nat}(bT:Sz k cL)(b_:Sz k l_1)(ca:Sz k gQ):Sz (1*k+0) (l_1):=by
 exact Sz.mono b_
theorem dt {cL l_1 gQ:Rat}{k:Nat}(bT:Sz k cL)(b_:Sz k l_1)(ca:Sz k gQ):Sz (1*k+0) (-(cL)):=by
 have a:=Sz.mono (m:=1*k+0) (Sz.neg bT);exact Sz.mono a
theorem sw {V:View}{l:Value}{cL l_1 gQ:Rat}(hl:Bg V l cL l_1 gQ){k:Nat}(bT:Sz k cL)(b_:Sz k l_1)(ca:Sz k gQ)(hk:1*k+1<274877906944:=by omega) :
  aa prog 155 #[l] V fun r V'=>mU V' r (cL) (l_1):=by
 have b:=hl;obtain ⟨c,a,d,e,f,g,h,i,j,rfl,m,n,o⟩:=hl;exact qU c a d e f g h i j V _ fun p a=>⟨_,_,_,_,_,_,rfl,(m.le (a)),(n.le (a))⟩
theorem fG {cL l_1 gQ:Rat}{k:Nat}(bT:Sz k cL)(b_:Sz k l_1)(ca:Sz k gQ):Sz (1*k+0) (cL):=by
 exact Sz.mono bT
theorem fH {cL l_1 gQ:Rat}{k:Nat}(bT:Sz k cL)(b_:Sz k l_1)(ca:Sz k gQ):Sz (1*k+0) (l_1):=by
 exact Sz.mono b_
theorem wW {V:View}{l:Value}{cL l_1 gQ:Rat}(hl:Bg V l cL l_1 gQ){k:Nat}(bT:Sz k cL)(b_:Sz k l_1)(ca:Sz k gQ)(hk:10*k+9<274877906944:=by omega) :
  aa prog 159 #[l] V fun r V'=>mU V' r ((cL)*(((-(gQ))*(((cL)*(cL))+((l_1)*(l_1)))⁻¹))) ((l_1)*(((-(gQ))*(((cL)*(cL))+((l_1)*(l_1)))⁻¹))):=by
 have j:=hl;obtain ⟨A,h,n,b,d,c,i,e,o,rfl,I,J,B⟩:=hl;refine vU A h n b d c i e o V _ fun K h=>(sw (j.le (h)) (Sz.mono bT:Sz (1*k+0) _) (Sz.mono b_:Sz (1*k+0) _) (Sz.mono ca:Sz (1*k+0) _)).mono ?_;rintro r L n q;have a:=q;obtain ⟨M,N,O,P,Q,R,rfl,S,T⟩:=q;have f:=Sz.mono (m:=1*k+0) ((fG (Sz.mono bT:Sz (1*k+0) _) (Sz.mono b_:Sz (1*k+0) _) (Sz.mono ca:Sz (1*k+0) _)));have g:=Sz.mono (m:=1*k+0) ((fH (Sz.mono bT:Sz (1*k+0) _) (Sz.mono b_:Sz (1*k+0) _) (Sz.mono ca:Sz (1*k+0) _)));refine ⟨_,_,_,_,_,_,rfl,fun U b=>(oI (B.le (h.trans (n.trans (b)))) ca).mono ?_⟩;rintro r W d s;have p:=s;obtain ⟨X,Y,Z,rfl⟩:=s.shape;have t:=Sz.mono (m:=1*k+0) (Sz.neg ca);refine ⟨_,_,_,rfl,fun V5 c=>(gX (a.le (b.trans (d.trans (c)))) (a.le (b.trans (d.trans (c)))) (Sz.mono f:Sz (1*k+0) _) (Sz.mono g:Sz (1*k+0) _) (Sz.mono f:Sz (1*k+0) _) (Sz.mono g:Sz (1*k+0) _)).mono ?_⟩;rintro r V6 i u;have C:=u;obtain ⟨P4,P5,P6,rfl⟩:=u.shape;have v:=Sz.mono (m:=4*k+3) ((ct (Sz.mono f:Sz (1*k+0) _) (Sz.mono g:Sz (1*k+0) _) (Sz.mono f:Sz (1*k+0) _) (Sz.mono g:Sz (1*k+0) _)));refine ⟨_,_,_,rfl,fun V7 e=>(E0 (p.le (c.trans (i.trans (e)))) (C.le (e)) t v).mono ?_⟩;rintro r V8 o w;have D:=w;obtain ⟨Vs,Vt,Vu,rfl⟩:=w.shape;have E:=Sz.mono (m:=5*k+4) (Sz.mul t (nU v));refine ⟨_,_,_,rfl,fun V9 x=>(lB (a.le (b.trans (d.trans (c.trans (i.trans (e.trans (o.trans (x)))))))) (D.le (x)) (Sz.mono f:Sz (5*k+4) _) (Sz.mono g:Sz (5*k+4) _) (Sz.mono E:Sz (5*k+4) _)).mono ?_⟩;rintro r fK F y;have G5:=y;obtain ⟨YI,YJ,YK,YL,YM,YN,rfl,G,H⟩:=y;exact ⟨_,_,_,_,_,_,rfl,fun eO z=>⟨_,_,_,_,_,_,rfl,(G.le (z)),(H.le (z))⟩⟩
theorem gL {cL l_1 gQ:Rat}{k:Nat}(bT:Sz k cL)(b_:Sz k l_1)(ca:Sz k gQ):Sz (10*k+9) ((cL)*(((-(gQ))*(((cL)*(cL))+((l_1)*(l_1)))⁻¹))):=by
 have a:=Sz.mono (m:=1*k+0) ((fG (Sz.mono bT:Sz (1*k+0) _) (Sz.mono b_:Sz (1*k+0) _) (Sz.mono ca:Sz (1*k+0) _)));have b:=Sz.mono (m:=1*k+0) ((fH (Sz.mono bT:Sz (1*k+0) _) (Sz.mono b_:Sz (1*k+0) _) (Sz.mono ca:Sz (1*k+0) _)));have c:=Sz.mono (m:=1*k+0) (Sz.neg ca);have d:=Sz.mono (m:=4*k+3) ((ct (Sz.mono a:Sz (1*k+0) _) (Sz.mono b:Sz (1*k+0) _) (Sz.mono a:Sz (1*k+0) _) (Sz.mono b:Sz (1*k+0) _)));have e:=Sz.mono (m:=5*k+4) (Sz.mul c (nU d));have f:=Sz.mono (m:=10*k+9) ((dO (Sz.mono a:Sz (5*k+4) _) (Sz.mono b:Sz (5*k+4) _) (Sz.mono e:Sz (5*k+4) _)));exact Sz.mono f
theorem gM {cL l_1 gQ:Rat}{k:Nat}(bT:Sz k cL)(b_:Sz k l_1)(ca:Sz k gQ):Sz (10*k+9) ((l_1)*(((-(gQ))*(((cL)*(cL))+((l_1)*(l_1)))⁻¹))):=by
 have a:=Sz.mono (m:=1*k+0) ((fG (Sz.mono bT:Sz (1*k+0) _) (Sz.mono b_:Sz (1*k+0) _) (Sz.mono ca:Sz (1*k+0) _)));have b:=Sz.mono (m:=1*k+0) ((fH (Sz.mono bT:Sz (1*k+0) _) (Sz.mono b_:Sz (1*k+0) _) (Sz.mono ca:Sz (1*k+0) _)));have c:=Sz.mono (m:=1*k+0) (Sz.neg ca);have d:=Sz.mono (m:=4*k+3) ((ct (Sz.mono a:Sz (1*k+0) _) (Sz.mono b:Sz (1*k+0) _) (Sz.mono a:Sz (1*k+0) _) (Sz.mono b:Sz (1*k+0) _)));have e:=Sz.mono (m:=5*k+4) (Sz.mul c (nU d));have f:=Sz.mono (m:=10*k+9) ((dP (Sz.mono a:Sz (5*k+4) _) (Sz.mono b:Sz (5*k+4) _) (Sz.mono e:Sz (5*k+4) _)));exact Sz.mono f
theorem Bw {V:View}{l:Value}{cL l_1 gQ:Rat}{t:Value}{JG:Rat}(hl:Bg V l cL l_1 gQ)(ht:RR V t JG){k:Nat}(bT:Sz k cL)(b_:Sz k l_1)(ca:Sz k gQ)(AE:Sz k JG)(hk:20*k+19<274877906944) :
  aa prog 172 #[l,t] V fun r V'=>mU V' r ((((cL)*(((-(gQ))*(((cL)*(cL))+((l_1)*(l_1)))⁻¹))))+(((l_1)*(JG)))) ((((l_1)*(((-(gQ))*(((cL)*(cL))+((l_1)*(l_1)))⁻¹))))+((((-(cL)))*(JG)))):=by
 have a:=hl;obtain ⟨y,b,e,c,f,d,h,g,q,rfl,G,H,I⟩:=hl;have i:=ht;obtain ⟨t0,t1,t2,rfl⟩:=ht.shape;refine AO y b e c f d h g q t0 t1 t2 V _ fun J b=>(wW (a.le (b)) (Sz.mono bT:Sz (1*k+0) _) (Sz.mono b_:Sz (1*k+0) _) (Sz.mono ca:Sz (1*k+0) _)).mono ?_;rintro r K e s;have j:=s;obtain ⟨L,M,N,O,P,Q,rfl,R,S⟩:=s;have z:=Sz.mono (m:=10*k+9) ((gL (Sz.mono bT:Sz (1*k+0) _) (Sz.mono b_:Sz (1*k+0) _) (Sz.mono ca:Sz (1*k+0) _)));have A:=Sz.mono (m:=10*k+9) ((gM (Sz.mono bT:Sz (1*k+0) _) (Sz.mono b_:Sz (1*k+0) _) (Sz.mono ca:Sz (1*k+0) _)));refine ⟨_,_,_,_,_,_,rfl,fun T c=>(oL (a.le (b.trans (e.trans (c)))) (Sz.mono bT:Sz (1*k+0) _) (Sz.mono b_:Sz (1*k+0) _) (Sz.mono ca:Sz (1*k+0) _)).mono ?_⟩;rintro r U f u;have n:=u;obtain ⟨W,X,Y,Z,Yu,Yv,rfl,WL,WM⟩:=u;have o:=Sz.mono (m:=1*k+0) ((dq (Sz.mono bT:Sz (1*k+0) _) (Sz.mono b_:Sz (1*k+0) _) (Sz.mono ca:Sz (1*k+0) _)));have p:=Sz.mono (m:=1*k+0) ((dt (Sz.mono bT:Sz (1*k+0) _) (Sz.mono b_:Sz (1*k+0) _) (Sz.mono ca:Sz (1*k+0) _)));refine ⟨_,_,_,_,_,_,rfl,fun V5 d=>(lB (n.le (d)) (i.le (b.trans (e.trans (c.trans (f.trans (d)))))) (Sz.mono o:Sz (1*k+0) _) (Sz.mono p:Sz (1*k+0) _) (Sz.mono AE:Sz (1*k+0) _)).mono ?_⟩;rintro r V6 h v;have B:=v;obtain ⟨Yw,Yx,Yy,Yz,YA,YB,rfl,WN,WO⟩:=v;have C:=Sz.mono (m:=2*k+1) ((dO (Sz.mono o:Sz (1*k+0) _) (Sz.mono p:Sz (1*k+0) _) (Sz.mono AE:Sz (1*k+0) _)));have D:=Sz.mono (m:=2*k+1) ((dP (Sz.mono o:Sz (1*k+0) _) (Sz.mono p:Sz (1*k+0) _) (Sz.mono AE:Sz (1*k+0) _)));refine ⟨_,_,_,_,_,_,rfl,fun V7 g=>(zM (j.le (c.trans (f.trans (d.trans (h.trans (g)))))) (B.le (g)) (Sz.mono z:Sz (10*k+9) _) (Sz.mono A:Sz (10*k+9) _) (Sz.mono C:Sz (10*k+9) _) (Sz.mono D:Sz (10*k+9) _)).mono ?_⟩;rintro r V8 q w;have Lf:=w;obtain ⟨YC,YD,YE,YF,YG,YH,rfl,E,F⟩:=w;exact ⟨_,_,_,_,_,_,rfl,fun V9 x=>⟨_,_,_,_,_,_,rfl,(E.le (x)),(F.le (x))⟩⟩
theorem yh {cL l_1 gQ JG:Rat}{k:Nat}(bT:Sz k cL)(b_:Sz k l_1)(ca:Sz k gQ)(AE:Sz k JG):Sz (20*k+19) ((((cL)*(((-(gQ))*(((cL)*(cL))+((l_1)*(l_1)))⁻¹))))+(((l_1)*(JG)))):=by
 have c:=Sz.mono (m:=10*k+9) ((gL (Sz.mono bT:Sz (1*k+0) _) (Sz.mono b_:Sz (1*k+0) _) (Sz.mono ca:Sz (1*k+0) _)));have d:=Sz.mono (m:=10*k+9) ((gM (Sz.mono bT:Sz (1*k+0) _) (Sz.mono b_:Sz (1*k+0) _) (Sz.mono ca:Sz (1*k+0) _)));have a:=Sz.mono (m:=1*k+0) ((dq (Sz.mono bT:Sz (1*k+0) _) (Sz.mono b_:Sz (1*k+0) _) (Sz.mono ca:Sz (1*k+0) _)));have b:=Sz.mono (m:=1*k+0) ((dt (Sz.mono bT:Sz (1*k+0) _) (Sz.mono b_:Sz (1*k+0) _) (Sz.mono ca:Sz (1*k+0) _)));have e:=Sz.mono (m:=2*k+1) ((dO (Sz.mono a:Sz (1*k+0) _) (Sz.mono b:Sz (1*k+0) _) (Sz.mono AE:Sz (1*k+0) _)));have f:=Sz.mono (m:=2*k+1) ((dP (Sz.mono a:Sz (1*k+0) _) (Sz.mono b:Sz (1*k+0) _) (Sz.mono AE:Sz (1*k+0) _)));have g:=Sz.mono (m:=20*k+19) ((wG (Sz.mono c:Sz (10*k+9) _) (Sz.mono d:Sz (10*k+9) _) (Sz.mono e:Sz (10*k+9) _) (Sz.mono f:Sz (10*k+9) _)));exact Sz.mono g
theorem yi {cL l_1 gQ JG:Rat}{k:Nat}(bT:Sz k cL)(b_:Sz k l_1)(ca:Sz k gQ)(AE:Sz k JG):Sz (20*k+19) ((((l_1)*(((-(gQ))*(((cL)*(cL))+((l_1)*(l_1)))⁻¹))))+((((-(cL)))*(JG)))):=by
 have c:=Sz.mono (m:=10*k+9) ((gL (Sz.mono bT:Sz (1*k+0) _) (Sz.mono b_:Sz (1*k+0) _) (Sz.mono ca:Sz (1*k+0) _)));have d:=Sz.mono (m:=10*k+9) ((gM (Sz.mono bT:Sz (1*k+0) _) (Sz.mono b_:Sz (1*k+0) _) (Sz.mono ca:Sz (1*k+0) _)));have a:=Sz.mono (m:=1*k+0) ((dq (Sz.mono bT:Sz (1*k+0) _) (Sz.mono b_:Sz (1*k+0) _) (Sz.mono ca:Sz (1*k+0) _)));have b:=Sz.mono (m:=1*k+0) ((dt (Sz.mono bT:Sz (1*k+0) _) (Sz.mono b_:Sz (1*k+0) _) (Sz.mono ca:Sz (1*k+0) _)));have e:=Sz.mono (m:=2*k+1) ((dO (Sz.mono a:Sz (1*k+0) _) (Sz.mono b:Sz (1*k+0) _) (Sz.mono AE:Sz (1*k+0) _)));have f:=Sz.mono (m:=2*k+1) ((dP (Sz.mono a:Sz (1*k+0) _) (Sz.mono b:Sz (1*k+0) _) (Sz.mono AE:Sz (1*k+0) _)));have g:=Sz.mono (m:=20*k+19) ((wH (Sz.mono c:Sz (10*k+9) _) (Sz.mono d:Sz (10*k+9) _) (Sz.mono e:Sz (10*k+9) _) (Sz.mono f:Sz (10*k+9) _)));exact Sz.mono g
theorem ue {V:View}{l:Value}{cL l_1 gQ:Rat}{p:Value}{gS gT:Rat}(hl:Bg V l cL l_1 gQ)(hp:mU V p gS gT){k:Nat}(bT:Sz k cL)(b_:Sz k l_1)(ca:Sz k gQ)(eZ:Sz k gS)(eM:Sz k gT)(hk:8*k+7<274877906944) :
  aa prog 107 #[l,p] V fun r V'=>RR V' r ((((l_1)*(gS))+(((-(cL)))*(gT)))*(((l_1)*(l_1))+(((-(cL)))*((-(cL)))))⁻¹):=by
 have i:=hl;obtain ⟨x,f,j,b,g,e,n,h,s,rfl,J,K,L⟩:=hl;have o:=hp;obtain ⟨y,z,A,B,C,D,rfl,M,N⟩:=hp;refine sT x f j b g e n h s y z A B C D V _ fun O f=>(oL (i.le (f)) (Sz.mono bT:Sz (1*k+0) _) (Sz.mono b_:Sz (1*k+0) _) (Sz.mono ca:Sz (1*k+0) _)).mono ?_;rintro r P j t;have a:=t;obtain ⟨Q,R,S,T,U,W,rfl,X,Y⟩:=t;have c:=Sz.mono (m:=1*k+0) ((dq (Sz.mono bT:Sz (1*k+0) _) (Sz.mono b_:Sz (1*k+0) _) (Sz.mono ca:Sz (1*k+0) _)));have d:=Sz.mono (m:=1*k+0) ((dt (Sz.mono bT:Sz (1*k+0) _) (Sz.mono b_:Sz (1*k+0) _) (Sz.mono ca:Sz (1*k+0) _)));refine ⟨_,_,_,_,_,_,rfl,fun Z b=>(gX (a.le (b)) (o.le (f.trans (j.trans (b)))) (Sz.mono c:Sz (1*k+0) _) (Sz.mono d:Sz (1*k+0) _) (Sz.mono eZ:Sz (1*k+0) _) (Sz.mono eM:Sz (1*k+0) _)).mono ?_⟩;rintro r V4 g u;have q:=u;obtain ⟨LS,LU,LV,rfl⟩:=u.shape;have E:=Sz.mono (m:=4*k+3) ((ct (Sz.mono c:Sz (1*k+0) _) (Sz.mono d:Sz (1*k+0) _) (Sz.mono eZ:Sz (1*k+0) _) (Sz.mono eM:Sz (1*k+0) _)));refine ⟨_,_,_,rfl,fun V5 e=>(gX (a.le (b.trans (g.trans (e)))) (a.le (b.trans (g.trans (e)))) (Sz.mono c:Sz (1*k+0) _) (Sz.mono d:Sz (1*k+0) _) (Sz.mono c:Sz (1*k+0) _) (Sz.mono d:Sz (1*k+0) _)).mono ?_⟩;rintro r V6 n v;have F:=v;obtain ⟨P4,P5,P6,rfl⟩:=v.shape;have G:=Sz.mono (m:=4*k+3) ((ct (Sz.mono c:Sz (1*k+0) _) (Sz.mono d:Sz (1*k+0) _) (Sz.mono c:Sz (1*k+0) _) (Sz.mono d:Sz (1*k+0) _)));refine ⟨_,_,_,rfl,fun V7 h=>(E0 (q.le (e.trans (n.trans (h)))) (F.le (h)) E G).mono ?_⟩;rintro r V8 s w;have H:=w;obtain ⟨Vs,Vt,Vu,rfl⟩:=w.shape;exact ⟨_,_,_,rfl,fun V9 I=>(H.le (I))⟩
theorem ru {cL l_1 gQ gS gT:Rat}{k:Nat}(bT:Sz k cL)(b_:Sz k l_1)(ca:Sz k gQ)(eZ:Sz k gS)(eM:Sz k gT):Sz (8*k+7) ((((l_1)*(gS))+(((-(cL)))*(gT)))*(((l_1)*(l_1))+(((-(cL)))*((-(cL)))))⁻¹):=by
 have a:=Sz.mono (m:=1*k+0) ((dq (Sz.mono bT:Sz (1*k+0) _) (Sz.mono b_:Sz (1*k+0) _) (Sz.mono ca:Sz (1*k+0) _)));have b:=Sz.mono (m:=1*k+0) ((dt (Sz.mono bT:Sz (1*k+0) _) (Sz.mono b_:Sz (1*k+0) _) (Sz.mono ca:Sz (1*k+0) _)));have c:=Sz.mono (m:=4*k+3) ((ct (Sz.mono a:Sz (1*k+0) _) (Sz.mono b:Sz (1*k+0) _) (Sz.mono eZ:Sz (1*k+0) _) (Sz.mono eM:Sz (1*k+0) _)));have d:=Sz.mono (m:=4*k+3) ((ct (Sz.mono a:Sz (1*k+0) _) (Sz.mono b:Sz (1*k+0) _) (Sz.mono a:Sz (1*k+0) _) (Sz.mono b:Sz (1*k+0) _)));have e:=Sz.mono (m:=8*k+7) (Sz.mul c (nU d));exact Sz.mono e
theorem ug {V:View}{v w:Value}{x y:Rat}(hx:RQ V v x)(hy:RQ V w y)(hy0:y.num≠0){k m:Nat}(hk:Sz k x)(hm:Sz m y)(hkm:k+m<274877906944:=by omega) :
  aa prog 101 #[v,w] V fun r V'=>RQ V' r (x*y⁻¹):=by
 obtain ⟨p,n,c,K,L,M,rfl,b,d⟩:=hx;obtain ⟨q,i,e,N,O,P,rfl,f,g⟩:=hy;have j:=nU hm;have q1:=ag hk.1;have q2:=ag hk.2;have q3:=ag hm.1;have q4:=ag j.1
 have D:(y⁻¹).num=(if decide (y.num<0)=true then -((y.den:Nat):Int) else ((y.den:Nat):Int))/\(y⁻¹).den=y.num.natAbs:=by
  rcases Int.lt_or_gt_of_ne hy0 with h|h
  ·rw [if_pos (decide_eq_true h)];exact inv_neg h
  ·rw [if_neg (fun Q=>by have:=of_decide_eq_true Q;omega)];exact inv_pos h
 have l:x*y⁻¹=mkRat (x.num*(y⁻¹).num) (x.den*(y⁻¹).den):=Wy3 x y⁻¹;have R:(x.num*(y⁻¹).num).natAbs<2^(k+m):=by rw [Qm1];exact bG hk.1 j.1
 have S:x.den*(y⁻¹).den<2^(k+m):=bG hk.2 j.2;refine C9 _ p n c K L M _ q i e N O P V _ fun V1 o=>(cz y _ (g.le o)).mono ?_;rintro r V2 E ⟨p1,n1,c1,rfl,T⟩;refine ⟨_,_,_,rfl,fun V3 s=>(eG _ (T.le s)).mono ?_⟩;rw [←D.1];rintro r V4 F ⟨p4,n4,c4,rfl,U⟩;refine ⟨_,_,_,_,rfl,fun V5 t=>(jW x.num (y⁻¹).num (b.le (o.trans (E.trans (s.trans (F.trans t))))) (U.le t)).mono ?_⟩;rintro r V6 W ⟨p6,n6,c6,rfl,X⟩;have G:=o.trans (E.trans (s.trans (F.trans (t.trans W))));refine ⟨_,_,_,_,rfl,fun V7 u=>(cz x _ (d.le (G.trans u))).mono ?_⟩;rintro r V8 H ⟨p8,n8,c8,rfl,Y⟩;refine ⟨_,_,_,rfl,fun V9 z=>(ch (Y.le z) (f.le (G.trans (u.trans (H.trans z))))).mono ?_⟩;rintro r fK A ⟨LI,Z,a0,rfl,a⟩;rw [af,af,←D.2] at a;refine ⟨_,_,_,rfl,fun eO I=>(kF _ (X.le (u.trans (H.trans (z.trans (A.trans I))))) (a.le I) (Qx6 (ag R) (by omega)) (Qx6 (ag S) (by omega)) (Qv4 x.den_nz (y⁻¹).den_nz)).mono ?_⟩;rw [l];rintro r FR uU ⟨U8,a1,a2,U9,a3,Un,rfl,B,C⟩;exact ⟨_,_,_,_,_,_,_,rfl,fun G3 J=>⟨_,_,_,_,_,_,rfl,B.le J,C.le J⟩⟩
theorem F9 {V:View}(z:Int){p:OA}{n c:Nat}(h:RD V p n c (ai z.natAbs)) :
  aa prog 102 #[.agg #[.bool (decide (z<0)),.slice p n c]] V fun r V'=>RQ V' r (z:Rat):=
 EP _ p n c V _ fun b a=>ni (z:=z) (d:=1) rfl rfl (h.le a) RD.nil rfl
theorem RQ.ofNat {V:View}{p:OA}{n c x:Nat}(h:RN V p n c x){b:Bool}(hb:b=decide ((x:Int)<0)):RQ V (.agg #[.bool b,.slice p n c,.slice none 0 0]) ((x:Int):Rat):=
 ni (z:=(x:Int)) (d:=1) rfl rfl h RD.nil hb
theorem RQ.int {V:View}{q:Rat}{b:Bool}{p:OA}{n c:Nat}{p':OA}{n' c':Nat}(h:RQ V (.agg #[.bool b,.slice p n c,.slice p' n' c']) q):RI V (.agg #[.bool b,.slice p n c]) q.num:=by
 obtain ⟨d,f,g,i,j,k,e,a,l⟩:=h;cases e;exact ⟨_,_,_,rfl,a⟩
theorem RQ.den {V:View}{q:Rat}{b:Bool}{p:OA}{n c:Nat}{p':OA}{n' c':Nat}(h:RQ V (.agg #[.bool b,.slice p n c,.slice p' n' c']) q):RD V p' n' c' (sH q.den):=by
 obtain ⟨d,f,g,i,j,k,e,l,a⟩:=h;cases e;exact a
def mh (px py qx qy:Rat):Rat×Rat×Rat:=
 let a:=-(qy-py);let b:=qx-px;let c:=-(a*px+b*py)
 let f:Rat:=(((a.den*b.den*c.den:Nat):Int):Rat)
 (a*f,b*f,c*f)
theorem Ni {n k:Nat}(h:n<2^k)(hk:0<k:=by omega):Sz k (((n:Nat):Int):Rat):=by
 refine ⟨?_,?_⟩
 ·show ((n:Nat):Int).natAbs<_;simpa using h
 ·show 1<2^k;exact Qf6 (by omega)
theorem lf {V:View}{u w:Value}{px py qx qy:Rat}(hp:RP V u px py)(hq:RP V w qx qy){k:Nat}(s1:Sz k px)(s2:Sz k py)(s3:Sz k qx)(s4:Sz k qy)(hk1:1<=k)(hk:64*k+64<274877906944:=by omega) :
  aa prog 37 #[u,w] V fun r V'=>((mh px py qx qy).1.num=0/\(mh px py qx qy).2.1.num=0->∃l,r=.tuple #[l,.bool false]/\RL V' l 0 0 0) /\
   (¬((mh px py qx qy).1.num=0/\(mh px py qx qy).2.1.num=0)->∃l,r=.tuple #[l,.bool true] /\
    RL V' l ((mh px py qx qy).1.num / (bF (mh px py qx qy).1.num (mh px py qx qy).2.1.num (mh px py qx qy).2.2.num:Int)) ((mh px py qx qy).2.1.num / (bF (mh px py qx qy).1.num (mh px py qx qy).2.1.num (mh px py qx qy).2.2.num:Int)) ((mh px py qx qy).2.2.num / (bF (mh px py qx qy).1.num (mh px py qx qy).2.1.num (mh px py qx qy).2.2.num:Int))):=by
 have J:=hp;have K:=hq;obtain ⟨p1,n1,c1,p2,n2,c2,p3,n3,c3,p4,n4,c4,rfl,c,d⟩:=hp;obtain ⟨q1,m1,e1,q2,m2,e2,q3,m3,e3,q4,m4,e4,rfl,-,-⟩:=hq;refine qY _ p1 n1 c1 p2 n2 c2 _ p3 n3 c3 p4 n4 c4 _ q1 m1 e1 q2 m2 e2 _ q3 m3 e3 q4 m4 e4 V _ fun V1 L=>(BC (K.le L) (J.le L) s3 s4 s1 s2 hk1).mono ?_;rintro r V2 l2 ⟨a1,a2,a3,a4,a5,a6,a7,a8,a9,N1,N2,b7,rfl,f,hd⟩;have g:Sz (k+k+1) (qx-px):=s3.sub s1;have td:Sz (k+k+1) (qy-py):=s4.sub s2;have Gq:=L.trans l2;refine ⟨_,_,_,_,_,_,_,_,_,_,_,_,_,_,rfl,fun V3 q=>(jX (qy-py) (by obtain ⟨_,_,_,_,_,_,e,N,h2⟩:=hd.le q;cases e;exact N) (RQ.den (hd.le q))).mono ?_⟩;rintro r V4 O n;obtain ⟨b1,b2,b3,b4,b5,b6,rfl⟩:=n.shape;have i:=td.neg;have R4:mh px py qx qy=(-(qy-py)*(((((-(qy-py)).den*(qx-px).den*(-(-(qy-py)*px+(qx-px)*py)).den:Nat):Int):Rat)),(qx-px)*(((((-(qy-py)).den*(qx-px).den*(-(-(qy-py)*px+(qx-px)*py)).den:Nat):Int):Rat)),(-(-(qy-py)*px+(qx-px)*py))*(((((-(qy-py)).den*(qx-px).den*(-(-(qy-py)*px+(qx-px)*py)).den:Nat):Int):Rat))):=rfl;rw [R4];generalize -(qy-py)=A at *;generalize qx-px=B at *
 replace f:=f.le (q.trans O)
 replace c:=c.le (Gq.trans (q.trans O))
 replace d:=d.le (Gq.trans (q.trans O))
 refine ⟨_,_,_,_,_,_,_,rfl,fun V5 s=>(cB (n.le s) (c.le s) i s1).mono ?_⟩;rintro r V6 P g6;obtain ⟨d1,d2,d3,d4,d5,d6,rfl⟩:=g6.shape;refine ⟨_,_,_,_,_,_,_,rfl,fun V7 y=>(cB (f.le (s.trans (P.trans y))) (d.le (s.trans (P.trans y))) g s2).mono ?_⟩;rintro r V8 l8 g8;obtain ⟨f1,f2,f3,f4,f5,f6,rfl⟩:=g8.shape;refine ⟨_,_,_,_,_,_,_,rfl,fun V9 Q=>(dk (g6.le (y.trans (l8.trans Q))) (g8.le Q) (i.mul s1) (g.mul s2)).mono ?_⟩;rintro r fK R j;have z:=((i.mul s1).add (g.mul s2)).neg;obtain ⟨i1,i2,i3,i4,i5,i6,rfl⟩:=j.shape;refine ⟨_,_,_,_,_,_,_,rfl,fun eO S=>(jX (A*px+B*py) (by obtain ⟨_,_,_,_,_,_,e,N,h2⟩:=j.le S;cases e;exact N) (RQ.den (j.le S))).mono ?_⟩;rintro r gW cu T;generalize -(A*px+B*py)=C at *;obtain ⟨j1,j2,j3,j4,j5,j6,rfl⟩:=T.shape;have B6:=s.trans (P.trans (y.trans (l8.trans (Q.trans (R.trans (S.trans cu))))))
 replace n:=n.le B6
 replace f:=f.le B6
 refine ⟨_,_,_,_,_,_,_,rfl,fun lx D=>(cz A _ (RQ.den (n.le D))).mono ?_⟩;rintro r mr U ⟨k1,k2,k3,rfl,W⟩;refine ⟨_,_,_,rfl,fun mV E=>(cz B _ (RQ.den (f.le (D.trans (U.trans E))))).mono ?_⟩;rintro r rz X ⟨k4,k5,k6,rfl,Y⟩;obtain ⟨-,da,-⟩:=cj i;obtain ⟨-,db,-⟩:=cj g;obtain ⟨-,dc,-⟩:=cj z;refine ⟨_,_,_,rfl,fun pR F=>(ch (W.le (E.trans (X.trans F))) (Y.le F)).mono ?_⟩;rintro r wS hJ ⟨k7,k8,k9,rfl,t⟩;rw [af,af] at t;refine ⟨_,_,_,rfl,fun Dk Z=>(cz C _ (RQ.den (T.le (D.trans (U.trans (E.trans (X.trans (F.trans (hJ.trans Z))))))))).mono ?_⟩;rintro r FQ pS ⟨b8,b9,c0,rfl,a0⟩;have Y5:=gZ (a:=A.den) (b:=B.den);refine ⟨_,_,_,rfl,fun ET kq=>(ch (t.le (Z.trans (pS.trans kq))) (a0.le kq)).mono ?_⟩;rintro r FR uU ⟨c5,c6,c7,rfl,v⟩;rw [af,af] at v;have o:Sz (k+k+1+(k+k+1)+(k+k+1+k+1+(k+k+1+k+1)+1)) (((A.den*B.den*C.den:Nat):Int):Rat):=Ni (bG (bG i.2 g.2) z.2);generalize A.den*B.den*C.den=M at *;refine ⟨_,_,_,rfl,fun G3 mO=>(qm (v.le mO)).mono ?_⟩;rintro r Nv Kn ⟨c8,c9,d0,rfl,b0⟩;have hf:=RQ.ofNat b0 rfl;have MN:=D.trans (U.trans (E.trans (X.trans (F.trans (hJ.trans (Z.trans (pS.trans (kq.trans (uU.trans (mO.trans Kn))))))))));refine ⟨_,_,_,_,rfl,fun Nw p=>(cB (n.le (MN.trans p)) (hf.le p) i o).mono ?_⟩;rintro r NY G UB;obtain ⟨o1,o2,o3,o4,o5,o6,rfl⟩:=UB.shape;refine ⟨_,_,_,_,_,_,_,rfl,fun QT x=>(cB (f.le (MN.trans (p.trans (G.trans x)))) (hf.le (p.trans (G.trans x))) g o).mono ?_⟩;rintro r Nx Ko UC;obtain ⟨o7,o8,o9,Zm,Zn,Zo,rfl⟩:=UC.shape;refine ⟨_,_,_,_,_,_,_,rfl,fun QU H=>(cB (T.le (MN.trans (p.trans (G.trans (x.trans (Ko.trans H)))))) (hf.le (p.trans (G.trans (x.trans (Ko.trans H))))) z o).mono ?_⟩;rintro r Ny Fc wN;obtain ⟨t1,t2,t3,t4,t5,t6,rfl⟩:=wN.shape;refine ⟨_,_,_,_,_,_,_,rfl,fun VC QB=>(xg (RQ.int (UB.le (x.trans (Ko.trans (H.trans (Fc.trans QB)))))) (RQ.int (UC.le (H.trans (Fc.trans QB)))) (RQ.int (wN.le QB)) (Qx6 (cj (i.mul o)).1 (by omega)) (Qx6 (cj (g.mul o)).1 (by omega)) (Qx6 (cj (z.mul o)).1 (by omega))).mono ?_⟩;rintro r Y0 Zg ⟨z1,z2⟩;by_cases I:(A*((M:Int):Rat)).num=0/\(B*((M:Int):Rat)).num=0
 ·obtain ⟨l,rfl,y1,y2,y3,y4,y5,y6,y7,y8,y9,rfl,w1,w2,w3⟩:=z1 I;exact ⟨_,_,_,_,_,_,_,_,_,_,_,_,_,rfl,fun VD m=>⟨fun _=>⟨_,rfl,_,_,_,_,_,_,_,_,_,rfl,w1.le m,w2.le m,w3.le m⟩,fun h=>absurd I h⟩⟩
 ·obtain ⟨l,rfl,y1,y2,y3,y4,y5,y6,y7,y8,y9,rfl,w1,w2,w3⟩:=z2 I;exact ⟨_,_,_,_,_,_,_,_,_,_,_,_,_,rfl,fun VD m=>⟨fun h=>absurd h I,fun _=>⟨_,rfl,_,_,_,_,_,_,_,_,_,rfl,w1.le m,w2.le m,w3.le m⟩⟩⟩
theorem DL {V:View}{v:Value}{q:Rat}(h:RQ V v q){k:Nat}(_s:Sz k q)(_hk:k<=1099511627776:=by omega):aa prog 80 #[v] V fun r V'=>RQ V' r (-q):=by
 obtain ⟨p,n,c,d,e,f,rfl,a,b⟩:=h;exact jX q a b
theorem uk {V:View}{z:Int}{p:OA}{n c:Nat}(h:RD V p n c (ai z.natAbs)){k:Nat}(_s:Sz k (z:Rat))(_hk:k<=1099511627776:=by omega) :
  aa prog 102 #[.agg #[.bool (decide (z<0)),.slice p n c]] V fun r V'=>RQ V' r (z:Rat):=F9 z h
theorem BB {V:View}{l:Value}{cL l_1 gQ:Int}(hl:RL V l cL l_1 gQ){k:Nat}(bT:Sz k ((cL:Int):Rat))(b_:Sz k ((l_1:Int):Rat))(ca:Sz k ((gQ:Int):Rat))(hk:1*k+1<274877906944:=by omega) :
  aa prog 49 #[l] V fun r V'=>RP V' r (((l_1:Int):Rat)) (-(((cL:Int):Rat))):=by
 have p:=hl;obtain ⟨q,a,e,b,f,c,g,d,s,rfl,t,u,x⟩:=hl;refine A1 _ q a e _ b f c _ g d s V _ fun y a=>(uk (u.le (a)) b_).mono ?_;rintro r z e j;have h:=j;obtain ⟨A,B,C,D,E,F,rfl⟩:=j.shape;refine ⟨_,_,_,_,_,_,_,rfl,fun G b=>(uk (t.le (a.trans (e.trans (b)))) bT).mono ?_⟩;rintro r H f n;have i:=n;obtain ⟨I,J,K,L,M,N,rfl⟩:=n.shape;have v:=Sz.mono (m:=1*k+0) (bT);refine ⟨_,_,_,_,_,_,_,rfl,fun O c=>(DL (i.le (c)) v).mono ?_⟩;rintro r P g o;have w:=o;obtain ⟨Q,R,S,T,U,W,rfl⟩:=o.shape;exact ⟨_,_,_,_,_,_,_,rfl,fun X d=>⟨_,_,_,_,_,_,_,_,_,_,_,_,rfl,(h.le (b.trans (f.trans (c.trans (g.trans (d)))))),(w.le (d))⟩⟩
theorem yj {cL:Int}{l_1:Int}{gQ:Int}{k:Nat}(bT:Sz k ((cL:Int):Rat))(b_:Sz k ((l_1:Int):Rat))(ca:Sz k ((gQ:Int):Rat)):Sz (1*k+0) (((l_1:Int):Rat)):=by
 have a:=Sz.mono (m:=1*k+0) (b_);exact Sz.mono a
theorem yk {cL:Int}{l_1:Int}{gQ:Int}{k:Nat}(bT:Sz k ((cL:Int):Rat))(b_:Sz k ((l_1:Int):Rat))(ca:Sz k ((gQ:Int):Rat)):Sz (1*k+0) (-(((cL:Int):Rat))):=by
 have a:=Sz.mono (m:=1*k+0) (bT);have b:=Sz.mono (m:=1*k+0) (Sz.neg a);exact Sz.mono b
theorem rF {V:View}{p:Value}{gS gT:Rat}{q:Value}{rQ rR:Rat}(hp:RP V p gS gT)(hq:RP V q rQ rR){k:Nat}(eZ:Sz k gS)(eM:Sz k gT)(mR:Sz k rQ)(mS:Sz k rR)(hk:4*k+3<274877906944:=by omega) :
  aa prog 103 #[p,q] V fun r V'=>RQ V' r (((gS)*(rQ))+((gT)*(rR))):=by
 have j:=hp;obtain ⟨l,n,o,s,t,u,v,w,x,y,z,A,rfl,B,C⟩:=hp;have D:=hq;obtain ⟨E,F,G,H,I,J,K,L,M,N,O,P,rfl,Q,R⟩:=hq;refine A2 _ l n o s t u _ v w x y z A _ E F G H I J _ K L M N O P V _ fun Y a=>(cB (B.le (a)) (Q.le (a)) eZ mR).mono ?_;rintro r Z e f;have b:=f;obtain ⟨Nq,Nr,Ns,Yi,Yj,Yk,rfl⟩:=f.shape;have S:=Sz.mono (m:=2*k+1) (Sz.mul eZ mR);refine ⟨_,_,_,_,_,_,_,rfl,fun V3 c=>(cB (C.le (a.trans (e.trans (c)))) (R.le (a.trans (e.trans (c)))) eM mS).mono ?_⟩;rintro r V4 T g;have d:=g;obtain ⟨LS,LU,LV,Vl,Vm,Vn,rfl⟩:=g.shape;have U:=Sz.mono (m:=2*k+1) (Sz.mul eM mS);refine ⟨_,_,_,_,_,_,_,rfl,fun V5 h=>(dk (b.le (c.trans (T.trans (h)))) (d.le (h)) S U).mono ?_⟩;rintro r V6 l6 i;have W:=i;obtain ⟨P4,P5,P6,Vo,Vp,Vq,rfl⟩:=i.shape;exact ⟨_,_,_,_,_,_,_,rfl,fun V7 X=>(W.le (X))⟩
theorem nv {gS:Rat}{gT:Rat}{rQ:Rat}{rR:Rat}{k:Nat}(eZ:Sz k gS)(eM:Sz k gT)(mR:Sz k rQ)(mS:Sz k rR):Sz (4*k+3) (((gS)*(rQ))+((gT)*(rR))):=by
 have a:=Sz.mono (m:=2*k+1) (Sz.mul eZ mR);have b:=Sz.mono (m:=2*k+1) (Sz.mul eM mS);have c:=Sz.mono (m:=4*k+3) (Sz.add a b);exact Sz.mono c
theorem xh {V:View}{l:Value}{cL l_1 gQ:Int}{p:Value}{gS gT:Rat}(hl:RL V l cL l_1 gQ)(hp:RP V p gS gT)(hd0:((((((l_1:Int):Rat)))*((((l_1:Int):Rat))))+(((-(((cL:Int):Rat))))*((-(((cL:Int):Rat)))))).num≠0){k:Nat}(bT:Sz k ((cL:Int):Rat))(b_:Sz k ((l_1:Int):Rat))(ca:Sz k ((gQ:Int):Rat))(eZ:Sz k gS)(eM:Sz k gT)(hk:8*k+7<274877906944) :
  aa prog 61 #[l,p] V fun r V'=>RQ V' r ((((gS)*((((l_1:Int):Rat))))+((gT)*((-(((cL:Int):Rat))))))*((((((l_1:Int):Rat)))*((((l_1:Int):Rat))))+(((-(((cL:Int):Rat))))*((-(((cL:Int):Rat))))))⁻¹):=by
 have i:=hl;obtain ⟨x,f,j,b,g,e,n,h,s,rfl,P,Q,R⟩:=hl;have o:=hp;obtain ⟨y,z,A,B,C,D,E,F,G,H,I,J,rfl,S,T⟩:=hp;refine wB _ x f j _ b g e _ n h s _ y z A B C D _ E F G H I J V _ fun U f=>(BB (i.le (f)) (Sz.mono bT:Sz (1*k+0) _) (Sz.mono b_:Sz (1*k+0) _) (Sz.mono ca:Sz (1*k+0) _)).mono ?_;rintro r W j t;have a:=t;obtain ⟨X,Y,Z,Nm,Nn,Np,Ye,Yf,Yg,Yh,Vj,Vk,rfl,Mm,Mn⟩:=t;have c:=Sz.mono (m:=1*k+0) ((yj (Sz.mono bT:Sz (1*k+0) _) (Sz.mono b_:Sz (1*k+0) _) (Sz.mono ca:Sz (1*k+0) _)));have d:=Sz.mono (m:=1*k+0) ((yk (Sz.mono bT:Sz (1*k+0) _) (Sz.mono b_:Sz (1*k+0) _) (Sz.mono ca:Sz (1*k+0) _)));refine ⟨_,_,_,_,_,_,_,_,_,_,_,_,_,_,rfl,fun V3 b=>(rF (o.le (f.trans (j.trans (b)))) (a.le (b)) (Sz.mono eZ:Sz (1*k+0) _) (Sz.mono eM:Sz (1*k+0) _) (Sz.mono c:Sz (1*k+0) _) (Sz.mono d:Sz (1*k+0) _)).mono ?_⟩;rintro r V4 g u;have q:=u;obtain ⟨LS,LU,LV,Vl,Vm,Vn,rfl⟩:=u.shape;have K:=Sz.mono (m:=4*k+3) ((nv (Sz.mono eZ:Sz (1*k+0) _) (Sz.mono eM:Sz (1*k+0) _) (Sz.mono c:Sz (1*k+0) _) (Sz.mono d:Sz (1*k+0) _)));refine ⟨_,_,_,_,_,_,_,rfl,fun V5 e=>(rF (a.le (b.trans (g.trans (e)))) (a.le (b.trans (g.trans (e)))) (Sz.mono c:Sz (1*k+0) _) (Sz.mono d:Sz (1*k+0) _) (Sz.mono c:Sz (1*k+0) _) (Sz.mono d:Sz (1*k+0) _)).mono ?_⟩;rintro r V6 n v;have L:=v;obtain ⟨P4,P5,P6,Vo,Vp,Vq,rfl⟩:=v.shape;have M:=Sz.mono (m:=4*k+3) ((nv (Sz.mono c:Sz (1*k+0) _) (Sz.mono d:Sz (1*k+0) _) (Sz.mono c:Sz (1*k+0) _) (Sz.mono d:Sz (1*k+0) _)));refine ⟨_,_,_,_,_,_,_,rfl,fun V7 h=>(ug (q.le (e.trans (n.trans (h)))) (L.le (h)) hd0 K M).mono ?_⟩;rintro r V8 s w;have N:=w;obtain ⟨Vs,Vt,Vu,ZB,ZC,ZD,rfl⟩:=w.shape;exact ⟨_,_,_,_,_,_,_,rfl,fun V9 O=>(N.le (O))⟩
theorem RA.shape {V:View}{v:Value}{q:Rat}(h:RA V v q):∃b p n c p' n' c',v=.agg #[.bool b,.slice p n c,.slice p' n' c']:=by
 obtain ⟨p,n,c,p',n',c',e,-⟩:=h;exact ⟨_,_,_,_,_,_,_,e⟩
def Dr (V:View)(v:Value)(x y:Rat):Prop:=∃b p n c p' n' c' d q m e q' m' e',v=.agg #[.bool b,.slice p n c,.slice p' n' c',.bool d,.slice q m e,.slice q' m' e'] /\
 RA V (.agg #[.bool b,.slice p n c,.slice p' n' c']) x/\RA V (.agg #[.bool d,.slice q m e,.slice q' m' e']) y
theorem Dr.le {V V':View}{v:Value}{x y:Rat}(h:Dr V v x y)(l:V.Le V'):Dr V' v x y:=by
 obtain ⟨b,p,n,c,g,i,j,d,q,m,e,k,o,r,rfl,a,f⟩:=h;exact ⟨_,_,_,_,_,_,_,_,_,_,_,_,_,_,rfl,a.le l,f.le l⟩
theorem iA {V:View}{v:Value}{x y:Rat}(h:Dr V v x y){k:Nat}(s1:Sz k x)(s2:Sz k y)(hk:k<=1099511627776:=by omega) :
  aa prog 51 #[v] V fun r V'=>mU V' r x y:=by
 obtain ⟨b,p,n,c,s,t,z,d,q,m,e,A,B,C,rfl,D,E⟩:=h;refine CX b p n c s t z d q m e A B C V _ fun H g=>(yy (D.le g) s1 hk).mono ?_;rintro r I F i;have a:=i;obtain ⟨u,v,w,rfl⟩:=i.shape;refine ⟨_,_,_,rfl,fun J j=>(yy (E.le (g.trans (F.trans j))) s2 hk).mono ?_⟩;rintro r K G l;have f:=l;obtain ⟨u,v,w,rfl⟩:=l.shape;exact ⟨_,_,_,rfl,fun L o=>⟨_,_,_,_,_,_,rfl,a.le (j.trans (G.trans o)),f.le o⟩⟩
theorem oM {V:View}{v:Value}{x y:Rat}(h:mU V v x y){k:Nat}(s1:Sz k x)(s2:Sz k y)(hk:k<=1099511627776:=by omega) :
  aa prog 114 #[v] V fun r V'=>Dr V' r x y:=by
 obtain ⟨i,j,l,m,n,o,rfl,p,q⟩:=h;refine xM i j l m n o V _ fun u c=>(oH (p.le c) s1 hk).mono ?_;rintro r w s d;have a:=d;obtain ⟨_,_,_,_,_,_,_,rfl⟩:=d.shape;refine ⟨_,_,_,_,_,_,_,rfl,fun z e=>(oH (q.le (c.trans (s.trans e))) s2 hk).mono ?_⟩;rintro r A t f;have b:=f;obtain ⟨_,_,_,_,_,_,_,rfl⟩:=f.shape;exact ⟨_,_,_,_,_,_,_,rfl,fun B g=>⟨_,_,_,_,_,_,_,_,_,_,_,_,_,_,rfl,a.le (e.trans (t.trans g)),b.le g⟩⟩
theorem uf {V:View}{v w:Value}{x y x' y':Rat}(h:mU V v x y)(h':mU V w x' y'){k:Nat}(s1:Sz k x)(s2:Sz k y)(s3:Sz k x')(s4:Sz k y')(hk:2*k<1099511627776) :
  aa prog 117 #[v,w] V fun r V'=>r=.bool (decide (x=x'/\y=y')):=by
 obtain ⟨d,e,f,i,j,l,rfl,m,n⟩:=h;obtain ⟨o,p,q,s,t,u,rfl,z,A⟩:=h';refine sU d e f i j l o p q s t u V _ fun B a=>(jU (m.le a) (z.le a) s1 s3).mono ?_;rintro r C b rfl;refine ⟨_,rfl,fun g D c=>(jU (n.le (a.trans (b.trans c))) (A.le (a.trans (b.trans c))) s2 s4).mono ?_,fun g E F=>?_⟩
 ·have g:=of_decide_eq_true g;rintro r G H rfl;exact ⟨_,rfl,fun I J=>by simp [g]⟩
 ·have g:=of_decide_eq_false g;simp [g]
theorem lD {V:View}{v:Value}{q:Rat}(h:RQ V v q){k:Nat}(s:Sz k q)(hk:k<=1099511627776):aa prog 70 #[v] V fun r V'=>RA V' r q:=by
 obtain ⟨p,n,c,f,g,i,rfl,j,l⟩:=h;have y:=ag s.1;have z:=ag s.2;refine AY _ p n c f g i V _ fun A a=>(jf ⟨_,_,_,rfl,j.le a⟩).mono ?_;rintro r B m ⟨C,D,E,rfl,o⟩;refine ⟨_,_,_,_,rfl,fun F b=>(cz q _ (l.le (a.trans (m.trans b)))).mono ?_⟩;rintro r G t ⟨H,I,J,rfl,u⟩;refine ⟨_,_,_,rfl,fun K d=>(rE (u.le d)).mono ?_⟩;rintro r L w ⟨M,N,O,rfl,x⟩;exact ⟨_,_,_,rfl,fun P e=>⟨_,_,_,_,_,_,rfl,o.le (b.trans (t.trans (d.trans (w.trans e)))),x.le e⟩⟩
theorem m_ {V:View}{v w:Value}{x y:Rat}(hx:RA V v x)(hy:RA V w y){k:Nat}(s:Sz k x)(hk:k<=1099511627776) :
  aa prog 131 #[v,w] V fun r V'=>r=.bool (decide (x=y)):=by
 obtain ⟨p,n,c,f,i,j,rfl,l,o⟩:=hx;obtain ⟨q,m,e,t,u,z,rfl,A,B⟩:=hy;have C:=ag s.1;have D:=ag s.2;refine wz _ p n c f i j _ q m e t u z V _ fun E a=>(fY (l.le a) (A.le a)).mono ?_;rintro r F b rfl;refine ⟨_,rfl,fun g G d=>(mZ (o.le (a.trans (b.trans d))) (B.le (a.trans (b.trans d)))).mono ?_,fun g H I=>?_⟩
 ·have g:=of_decide_eq_true g;rintro r J K rfl;refine ⟨_,rfl,fun L M=>?_⟩;have e:ai x.den=ai y.den↔x=y:=⟨fun h=>Rat.ext g (by have:=congrArg val h;rwa [af,af] at this),fun h=>by rw [h]⟩;rw [show decide (ai x.den=ai y.den)=decide (x=y) from by rw [decide_eq_decide];exact e]
 ·have g:=of_decide_eq_false g;rw [decide_eq_false (fun h=>g (by rw [h]))]
abbrev L3:=Int×Int×Int
def vm (x:L3):Bool:=decide (¬(x.1=0/\x.2.1=0))&&decide (bF x.1 x.2.1 x.2.2=1)
def Bd (x:L3):Prop:=x.1.natAbs<2^1000/\x.2.1.natAbs<2^1000/\x.2.2.natAbs<2^1000
end Go.Proofs.Tryz
