import Derived.Test.YtdhlkpfmlimjfaaGreatDoorN13
import Derived.Test.YtdhlkpfmlimjfaaGreatDoorN8
import Derived.Test.YtdhlkpfmlimjfaaGreatDoorN11
import Derived.Test.YtdhlkpfmlimjfaaGreatDoorN6
set_option linter.unusedVariables false
open Go.IntKind (i64 u64 u32)
namespace Go.Proofs.Tryz
open Go.Eng Go.Big
theorem qm {V:View}{p:OA}{n c x:Nat}(h:RN V p n c x) :
  Acts prog 69 #[.bool false,.slice p n c] V fun r V'=>RI V' r (x:Int):=by
 have:=fh false h
 rwa [if_neg (by decide)] at this
theorem ck {x:Rat}{k:Nat}(h:Sz k x):(af x.num.natAbs).length<=k/\(af x.den).length<=k/\(af (x.den:Int).natAbs).length<=k:=⟨ae h.1,ae h.2,ae h.2⟩
theorem cK {V:View}{v w:Value}{x y:Rat}(hx:RQ V v x)(hy:RQ V w y){k m:Nat}(hk:Sz k x)(hm:Sz m y)(hkm:k+m<274877906944) :
  Acts prog 65 #[v,w] V fun r V'=>RQ V' r (x+y):=by
 obtain ⟨p,n,c,p',n',c',rfl,j,b⟩:=hx;obtain ⟨q,i,e,q',i',e',rfl,l,f⟩:=hy;have D:=lO b;have Be:=lO f;obtain ⟨b1,b2,b3,b4⟩:=tK hk hm;obtain ⟨d1,d2,d3⟩:=ck hk;obtain ⟨d4,d5,d6⟩:=ck hm;have o:x+y=mkRat (x.num*y.den+y.num*x.den) (x.den*y.den):=Rat.add_def' x y;refine (fun tail=>Dr _ p n c p' n' c' _ q i e q' i' e' V _ ⟨fun E=>⟨fun F V1 s=>?_,fun _=>tail⟩,fun _=>tail⟩) ?_
 ·clear tail;have E:x.den=1:=D.1 (by simp at E;omega);have F:y.den=1:=Be.1 (by simp at F;omega);refine (qk x.num y.num (j.le s) (l.le s) (by omega) (by omega)).mono ?_;rintro r V2 S ⟨p2,n2,c2,rfl,g⟩
  have e1:x+y=((x.num+y.num:Int):Rat):=by
   rw [o,E,F];simp [Rat.mkRat_one]
  rw [e1];exact ⟨_,_,_,_,rfl,fun V3 C=>nj (z:=x.num+y.num) (d:=1) rfl rfl (g.le C) RD.nil rfl⟩
 ·intro V1 s;refine (cQ y _ (f.le s)).mono ?_;rintro r V2 S ⟨p1,n1,c1,rfl,g1⟩;refine ⟨_,_,_,rfl,fun V3 C=>(qm (g1.le C)).mono ?_⟩;rintro r V4 l4 ⟨p3,n3,c3,rfl,g3⟩;have t:=s.trans (S.trans (C.trans l4));refine ⟨_,_,_,_,rfl,fun V5 G=>(jR x.num y.den (j.le (t.trans G)) (g3.le G) (by omega)).mono ?_⟩;rintro r V6 l6 ⟨p5,n5,c5,rfl,g5⟩;have T:=t.trans (G.trans l6);refine ⟨_,_,_,_,rfl,fun V7 H=>(cQ x _ (b.le (T.trans H))).mono ?_⟩;rintro r V8 U ⟨p7,n7,c7,rfl,g7⟩;have Mb:=T.trans (H.trans U);refine ⟨_,_,_,rfl,fun V9 I=>(qm (g7.le I)).mono ?_⟩;rintro r a0 u ⟨p9,n9,c9,rfl,g9⟩;have W:=Mb.trans (I.trans u);refine ⟨_,_,_,_,rfl,fun a1 a=>(jR y.num x.den (l.le (W.trans a)) (g9.le a) (by omega)).mono ?_⟩;rintro r a2 A ⟨Lf,a3,a4,rfl,J⟩;have Ch:=W.trans (a.trans A);refine ⟨_,_,_,_,rfl,fun a5 h=>(qk _ _ (g5.le (H.trans (U.trans (I.trans (u.trans (a.trans (A.trans h))))))) (J.le h) (Nat.le_trans (ae b1) (by omega)) (Nat.le_trans (ae b2) (by omega))).mono ?_⟩;rintro r a6 c_ ⟨a7,a8,a9,rfl,K⟩;have X:=Ch.trans (h.trans c_);refine ⟨_,_,_,_,rfl,fun b0 L=>(cQ x _ (b.le (X.trans L))).mono ?_⟩;rintro r ll Y ⟨b5,b6,b7,rfl,M⟩;have GL:=X.trans (L.trans Y);refine ⟨_,_,_,rfl,fun ny N=>(cQ y _ (f.le (GL.trans N))).mono ?_⟩;rintro r oD Z ⟨b8,b9,c0,rfl,O⟩;refine ⟨_,_,_,rfl,fun rZ P=>(cj (M.le (N.trans (Z.trans P))) (O.le P) (by omega)).mono ?_⟩;rintro r Bk iO ⟨c4,c6,c8,rfl,B⟩;rw [ab,ab] at B;refine ⟨_,_,_,rfl,fun r_ gC=>(nB _ (K.le (L.trans (Y.trans (N.trans (Z.trans (P.trans (iO.trans gC))))))) (B.le gC) (Nat.le_trans (ae b3) (by omega)) (Nat.le_trans (ae b4) (by omega)) (Nat.mul_ne_zero x.den_nz y.den_nz)).mono ?_⟩;rw [o];rintro r wI kq ⟨Ww,d0,d7,Wx,d8,Vd,rfl,Q,R⟩;exact ⟨_,_,_,_,_,_,_,rfl,fun xZ je=>⟨_,_,_,_,_,_,rfl,Q.le je,R.le je⟩⟩
theorem iy {V:View}{v w:Value}{x y:Rat}(hx:RQ V v x)(hy:RQ V w y){k m:Nat}(hk:Sz k x)(hm:Sz m y)(hkm:k+m<274877906944) :
  Acts prog 102 #[v,w] V fun r V'=>RQ V' r (x-y):=by
 have a:=hx;obtain ⟨p,n,c,l,o,s,rfl,t,u⟩:=hx;obtain ⟨q,i,e,z,A,B,rfl,b,d⟩:=hy;refine E1 _ p n c l o s _ q i e z A B V _ fun F f=>(mF y (b.le f) (d.le f)).mono ?_;rintro r V2 C g;obtain ⟨G,H,I,J,K,L,rfl,M,N⟩:=id g;refine ⟨_,_,_,_,_,_,_,rfl,fun O h=>(cK (a.le (f.trans (C.trans h))) (g.le h) hk hm.neg hkm).mono ?_⟩;rw [←Rat.sub_eq_add_neg];rintro r P Q ⟨R,S,T,U,W,X,rfl,D,E⟩;exact ⟨_,_,_,_,_,_,_,rfl,fun Y j=>⟨_,_,_,_,_,_,rfl,D.le j,E.le j⟩⟩
theorem hU {V:View}{v w:Value}{x y:Rat}(hx:RQ V v x)(hy:RQ V w y){k m:Nat}(hk:Sz k x)(hm:Sz m y)(hkm:k+m<274877906944) :
  Acts prog 130 #[v,w] V fun r V'=>r=.int .i64 (eM x y):=by
 have a:=hx;have b:=hy;obtain ⟨p,n,c,f,g,h,rfl,j,l⟩:=hx;obtain ⟨q,i,e,o,s,t,rfl,u,z⟩:=hy;refine JZ _ p n c f g h _ q i e o s t V _ fun C d=>(iy (a.le d) (b.le d) hk hm hkm).mono ?_;rintro r V2 D ⟨E,F,G,H,I,J,rfl,A,K⟩;refine ⟨_,_,_,_,_,_,_,rfl,fun L B=>(tg (x-y) (A.le B)).mono ?_⟩;rintro r M N rfl;exact ⟨_,rfl,fun O P=>rfl⟩
theorem aG {V:View}{v w:Value}{x y:Rat}(hx:RQ V v x)(hy:RQ V w y){k m:Nat}(hk:Sz k x)(hm:Sz m y)(hkm:k+m<274877906944) :
  Acts prog 66 #[v,w] V fun r V'=>RQ V' r (x*y):=by
 obtain ⟨p,n,c,K,L,M,rfl,b,f⟩:=hx;obtain ⟨q,i,e,N,O,P,rfl,h,j⟩:=hy;have s:=lO f;have Q:=lO j;obtain ⟨d1,d2,d3⟩:=ck hk;obtain ⟨d4,d5,d6⟩:=ck hm;have l:x*y=mkRat (x.num*y.num) (x.den*y.den):=Rat.mul_def' x y;have R:(x.num*y.num).natAbs<2^(k+m):=by rw [Int.natAbs_mul];exact bz hk.1 hm.1
 have S:x.den*y.den<2^(k+m):=bz hk.2 hm.2;refine (fun tail=>AW _ p n c K L M _ q i e N O P V _ ⟨fun t=>⟨fun u T a=>?_,fun _=>tail⟩,fun _=>tail⟩) ?_
 ·clear tail;have t:x.den=1:=s.1 (by simp at t;omega);have u:y.den=1:=Q.1 (by simp at u;omega);refine (jR x.num y.num (b.le a) (h.le a) (by omega)).mono ?_;rintro r V2 A ⟨U,W,X,rfl,g⟩
  have Y:x*y=((x.num*y.num:Int):Rat):=by
   rw [l,t,u];simp [Rat.mkRat_one]
  rw [Y];exact ⟨_,_,_,_,rfl,fun Z o=>nj (z:=x.num*y.num) (d:=1) rfl rfl (g.le o) RD.nil rfl⟩
 ·intro T a;refine (jR x.num y.num (b.le a) (h.le a) (by omega)).mono ?_;rintro r V2 A ⟨U,W,X,rfl,g2⟩;refine ⟨_,_,_,_,rfl,fun Z o=>(cQ x _ (f.le (a.trans (A.trans o)))).mono ?_⟩;rintro r V4 F ⟨p4,n4,c4,rfl,g4⟩;refine ⟨_,_,_,rfl,fun V5 B=>(cQ y _ (j.le (a.trans (A.trans (o.trans (F.trans B)))))).mono ?_⟩;rintro r V6 G ⟨p6,n6,c6,rfl,g6⟩;refine ⟨_,_,_,rfl,fun V7 C=>(cj (g4.le (B.trans (G.trans C))) (g6.le C) (by omega)).mono ?_⟩;rintro r V8 l8 ⟨p8,n8,c8,rfl,H⟩;rw [ab,ab] at H;refine ⟨_,_,_,rfl,fun V9 I=>(nB _ (g2.le (o.trans (F.trans (B.trans (G.trans (C.trans (l8.trans I))))))) (H.le I) (Nat.le_trans (ae R) (by omega)) (Nat.le_trans (ae S) (by omega)) (Nat.mul_ne_zero x.den_nz y.den_nz)).mono ?_⟩;rw [l];rintro r wI kq ⟨Ww,a0,a1,Wx,a2,Vd,rfl,D,E⟩;exact ⟨_,_,_,_,_,_,_,rfl,fun xZ J=>⟨_,_,_,_,_,_,rfl,D.le J,E.le J⟩⟩
end Go.Proofs.Tryz
namespace Go.Eng
open Go.Big
def RP (V:View)(v:Value)(x y:Rat):Prop:=∃p n c p' n' c' q m e q' m' e',v=.agg #[.bool (decide (x.num<0)),.slice p n c,.slice p' n' c',.bool (decide (y.num<0)),.slice q m e,.slice q' m' e'] /\
 RQ V (.agg #[.bool (decide (x.num<0)),.slice p n c,.slice p' n' c']) x/\RQ V (.agg #[.bool (decide (y.num<0)),.slice q m e,.slice q' m' e']) y
theorem RP.le {V V':View}{v:Value}{x y:Rat}(h:RP V v x y)(l:V.Le V'):RP V' v x y:=by
 obtain ⟨p,n,c,a,b,d,q,m,e,f,g,i,rfl,j,k⟩:=h;exact ⟨p,n,c,a,b,d,q,m,e,f,g,i,rfl,j.le l,k.le l⟩
theorem RQ.shape {V:View}{v:Value}{q:Rat}(h:RQ V v q):∃p n c p' n' c',v=.agg #[.bool (decide (q.num<0)),.slice p n c,.slice p' n' c']:=by
 obtain ⟨p,n,c,p',n',c',e,-⟩:=h;exact ⟨_,_,_,_,_,_,e⟩
end Go.Eng
namespace Go.Proofs.Tryz
open Go.Eng Go.Big
theorem BD {V:View}{p:OA}{n c:Nat}{ds:List Nat}(h:RD V p n c ds)(hm:ds.length<=1099511627776) :
  Acts prog 107 #[.slice p n c] V fun r V'=>∃p1 n1 c1,r=.slice p1 n1 c1/\RD V' p1 n1 c1 ds:=by
 have a:=h.len;refine AY p n c V _ ⟨ay ds,h.sl,by simp [a],by omega,by omega,by simp,by simp [a],?_,?_⟩
 ·intro v e;simp only [ay,List.mem_map] at e;obtain ⟨d,-,rfl⟩:=e;rfl
 ·intro i J sp j f k l m b g;refine ⟨_,_,_,rfl,?_⟩;simp only [Nat.zero_add,Nat.zero_mul,List.take_zero,List.nil_append] at g f ⊢;exact copied h.fu a f g
theorem lH {V:View}{v:Value}{z:Int}(h:RI V v z)(hm:(af z.natAbs).length<=1099511627776) :
  Acts prog 72 #[v] V fun r V'=>RI V' r z:=by
 obtain ⟨p,n,c,rfl,h⟩:=h;refine AX _ p n c V _ fun d a=>(BD (h.le a) hm).mono ?_;rintro r V2 e ⟨f,i,j,rfl,g⟩;exact ⟨_,_,_,rfl,fun k b=>⟨_,_,_,rfl,g.le b⟩⟩
theorem t_ {V:View}(x y:Int)(h0:-9223372036854775808<=x)(h1:x<=9223372036854775807)(h2:-9223372036854775808<=y)(h3:y<=9223372036854775807) :
  Acts prog 29 #[.int .i64 x,.int .i64 y] V fun r V'=>RP V' r (x:Rat) (y:Rat):=by
 refine Dz x y V _ fun h i=>(gJ x h0 h1).mono ?_;rintro r V2 j a;obtain ⟨p,n,c,k,l,o,rfl⟩:=a.shape;refine ⟨_,_,_,_,_,_,_,rfl,fun s f=>(gJ y h2 h3).mono ?_⟩;rintro r t g b;obtain ⟨q,m,e,u,v,w,rfl⟩:=b.shape;exact ⟨_,_,_,_,_,_,_,rfl,fun z d=>⟨_,_,_,_,_,_,_,_,_,_,_,_,rfl,a.le (f.trans (g.trans d)),b.le d⟩⟩
theorem lI {V:View}{u v w:Value}{px py c qx qy:Rat}(hp:RP V u px py)(hc:RQ V v c)(hq:RP V w qx qy){k m:Nat}(s1:Sz k px)(s2:Sz k py)(s3:Sz m c)(s4:Sz m qx)(s5:Sz m qy)(hkm:k+(m+m+1)<274877906944) :
  Acts prog 91 #[u,v,w] V fun r V'=>RP V' r (px+c*qx) (py+c*qy):=by
 obtain ⟨x,y,z,A,B,C,D,E,F,G,H,I,rfl,e,f⟩:=hp;obtain ⟨J,K,L,M,N,O,rfl⟩:=hc.shape;obtain ⟨P,Q,R,S,T,U,W,X,Y,Z,m4,e4,rfl,g,h⟩:=hq;refine AZ _ x y z A B C _ D E F G H I _ J K L M N O _ P Q R S T U _ W X Y Z m4 e4 V _ fun V1 b=>(aG (hc.le b) (g.le b) s3 s4 (by omega)).mono ?_;rintro r V2 l n;obtain ⟨a1,a2,a3,a4,a5,a6,rfl⟩:=n.shape;refine ⟨_,_,_,_,_,_,_,rfl,fun V3 i=>(cK (e.le (b.trans (l.trans i))) (n.le i) s1 (s3.mul s4) (by omega)).mono ?_⟩;rintro r V4 l4 o;obtain ⟨b1,b2,b3,b4,b5,b6,rfl⟩:=o.shape;have a:=b.trans (l.trans (i.trans l4));refine ⟨_,_,_,_,_,_,_,rfl,fun V5 d=>(aG (hc.le (a.trans d)) (h.le (a.trans d)) s3 s5 (by omega)).mono ?_⟩;rintro r V6 p q;obtain ⟨d1,d2,d3,d4,d5,d6,rfl⟩:=q.shape;refine ⟨_,_,_,_,_,_,_,rfl,fun V7 j=>(cK (f.le (a.trans (d.trans (p.trans j)))) (q.le j) s2 (s3.mul s5) (by omega)).mono ?_⟩;rintro r V8 l8 s;obtain ⟨f1,f2,f3,f4,f5,f6,rfl⟩:=s.shape;exact ⟨_,_,_,_,_,_,_,rfl,fun V9 t=>⟨_,_,_,_,_,_,_,_,_,_,_,_,rfl,o.le (d.trans (p.trans (j.trans (l8.trans t)))),s.le t⟩⟩
theorem Lx:Sz 1 ((-1:Int):Rat):=by unfold Sz;decide
theorem BE {V:View}{u w:Value}{px py qx qy:Rat}(hp:RP V u px py)(hq:RP V w qx qy){k m:Nat}(s1:Sz k px)(s2:Sz k py)(s4:Sz m qx)(s5:Sz m qy)(hm:1<=m)(hkm:k+(m+m+1)<274877906944) :
  Acts prog 63 #[u,w] V fun r V'=>RP V' r (px-qx) (py-qy):=by
 have e:=hp;have f:=hq;obtain ⟨j,l,n,o,p,q,s,t,v,x,y,z,rfl,-,-⟩:=hp;obtain ⟨A,B,d,C,D,E,F,G,H,I,J,K,rfl,-,-⟩:=hq;refine A_ _ j l n o p q _ s t v x y z _ A B d C D E _ F G H I J K V _ fun S L=>(gJ (-1) (by omega) (by omega)).mono ?_;rintro r V2 M h;obtain ⟨T,U,W,X,Y,Z,rfl⟩:=h.shape;have c:=L.trans M;refine ⟨_,_,_,_,_,_,_,rfl,fun V3 g=>(lI (e.le (c.trans g)) (h.le g) (f.le (c.trans g)) s1 s2 (Lx.mono hm) s4 s5 hkm).mono ?_⟩
 have d:∀a b:Rat,a+((-1:Int):Rat)*b=a-b:=by
  intro a b;have:((-1:Int):Rat)=-1:=rfl;rw [this,Rat.neg_mul,Rat.one_mul,Rat.sub_eq_add_neg]
 rw [d,d];rintro r V4 l4 ⟨b1,b2,b3,b4,b5,b6,b7,b8,b9,N,O,P,rfl,Q,R⟩;exact ⟨_,_,_,_,_,_,_,_,_,_,_,_,_,_,rfl,fun V5 i=>⟨_,_,_,_,_,_,_,_,_,_,_,_,rfl,Q.le i,R.le i⟩⟩
theorem zM {V:View}{u w:Value}{px py qx qy:Rat}(hp:RP V u px py)(hq:RP V w qx qy){k m:Nat}(s1:Sz k px)(s2:Sz k py)(s4:Sz m qx)(s5:Sz m qy)(hkm:k+m<274877906944) :
  Acts prog 135 #[u,w] V fun r V'=>r=.bool (decide (px=qx/\py=qy)):=by
 obtain ⟨l,n,o,p,q,s,t,v,x,y,z,A,rfl,c,d⟩:=hp;obtain ⟨B,C,D,E,F,G,H,I,J,K,L,M,rfl,f,g⟩:=hq;refine xL _ l n o p q s _ t v x y z A _ B C D E F G _ H I J K L M V _ fun O b=>(hU (c.le b) (f.le b) s1 s4 hkm).mono ?_;rintro r V2 j rfl;refine ⟨_,rfl,fun a N i=>(hU (d.le (b.trans (j.trans i))) (g.le (b.trans (j.trans i))) s2 s5 hkm).mono ?_,fun a N i=>?_⟩
 ·have a:px=qx:=h_.2 (by simpa using a);rintro r P Q rfl;refine ⟨_,rfl,fun R S=>?_⟩;congr 1;rw [Bool.eq_iff_iff,decide_eq_true_eq,beq_iff_eq,←h_];exact ⟨fun h=>⟨a,h⟩,fun h=>h.2⟩
 ·have a:¬px=qx:=fun e=>by rw [h_.1 e] at a;simp at a
  rw [decide_eq_false fun h=>a h.1]
end Go.Proofs.Tryz
namespace Go.Eng
open Go.Big
def RL (V:View)(v:Value)(a b c:Int):Prop:=∃p n s p' n' s' q m e,v=.agg #[.bool (decide (a<0)),.slice p n s,.bool (decide (b<0)),.slice p' n' s',.bool (decide (c<0)),.slice q m e] /\
 RD V p n s (af a.natAbs)/\RD V p' n' s' (af b.natAbs)/\RD V q m e (af c.natAbs)
theorem RL.le {V V':View}{v:Value}{a b c:Int}(h:RL V v a b c)(l:V.Le V'):RL V' v a b c:=by
 obtain ⟨p,n,s,d,f,g,q,m,e,rfl,i,j,k⟩:=h;exact ⟨p,n,s,d,f,g,q,m,e,rfl,i.le l,j.le l,k.le l⟩
end Go.Eng
namespace Go.Proofs.Tryz
open Go.Eng Go.Big
theorem BF {V:View}{v:Value}{a b c:Int}(hx:RL V v a b c)(h1:(af a.natAbs).length<=1099511627776)(h2:(af b.natAbs).length<=1099511627776)(h3:(af c.natAbs).length<=1099511627776) :
  Acts prog 30 #[v] V fun r V'=>RL V' r a b c:=by
 obtain ⟨p,n,s,l,o,t,q,m,e,rfl,u,w,x⟩:=hx;refine Ba _ p n s _ l o t _ q m e V _ fun B d=>(lH ⟨_,_,_,rfl,u.le d⟩ h1).mono ?_;rintro r V2 i ⟨C,D,E,rfl,y⟩;refine ⟨_,_,_,_,rfl,fun F f=>(lH ⟨_,_,_,rfl,w.le (d.trans (i.trans f))⟩ h2).mono ?_⟩;rintro r G j ⟨H,I,J,rfl,z⟩;refine ⟨_,_,_,_,rfl,fun K g=>(lH ⟨_,_,_,rfl,x.le (d.trans (i.trans (f.trans (j.trans g))))⟩ h3).mono ?_⟩;rintro r L k ⟨M,N,O,rfl,A⟩;exact ⟨_,_,_,_,rfl,fun P h=>⟨_,_,_,_,_,_,_,_,_,rfl,y.le (f.trans (j.trans (g.trans (k.trans h)))),z.le (g.trans (k.trans h)),A.le h⟩⟩
theorem ux {z:Int}{g:Nat}(hg:0<g)(hd:g∣z.natAbs):(if decide (z<0)=true then -((z.natAbs / g:Nat):Int) else ((z.natAbs / g:Nat):Int))=z / (g:Int):=by
 obtain ⟨k,a⟩:=hd;have b:z.natAbs / g=k:=by rw [a,Nat.mul_div_cancel_left _ hg]
 rw [b]
 have c:z=(g:Int)*(if decide (z<0)=true then -(k:Int) else k):=by
  split
  ·rename_i h;rw [decide_eq_true_eq] at h;rw [Int.mul_neg,←Int.natCast_mul,←a];omega
  ·rename_i h;rw [decide_eq_true_eq] at h;rw [←Int.natCast_mul,←a];omega
 generalize (if decide (z<0)=true then -(k:Int) else k)=t at *;rw [c,Int.mul_ediv_cancel_left _ (by omega)]
def iM (a b c:Int):Nat:=Nat.gcd (Nat.gcd a.natAbs b.natAbs) c.natAbs
theorem wP {V:View}{u v w:Value}{a b c:Int}(ha:RI V u a)(hb:RI V v b)(hc:RI V w c)(h1:(af a.natAbs).length<=274877906944)(h2:(af b.natAbs).length<=274877906944)(h3:(af c.natAbs).length<=274877906944) :
  Acts prog 70 #[u,v,w] V fun r V'=>(a=0/\b=0->∃l,r=.tuple #[l,.bool false]/\RL V' l 0 0 0) /\
   (¬(a=0/\b=0)->∃l,r=.tuple #[l,.bool true]/\RL V' l (a / (iM a b c:Int)) (b / (iM a b c:Int)) (c / (iM a b c:Int))):=by
 obtain ⟨p,n,s,rfl,ha⟩:=ha;obtain ⟨T,U,W,rfl,hb⟩:=hb;obtain ⟨q,m,e,rfl,hc⟩:=hc;refine wb _ p n s _ T U W _ q m e V _ fun V1 y=>(kK (ha.le y) (hb.le y) h1 h2).mono ?_;rintro r V2 N ⟨p1,n1,c1,rfl,O⟩;have hp:=fS O.len;have g:Nat.gcd a.natAbs b.natAbs=0↔a=0/\b=0:=by rw [Nat.gcd_eq_zero_iff];omega
 refine ⟨_,_,_,rfl,fun B V3 l3=>⟨fun _=>⟨_,rfl,_,_,_,_,_,_,_,_,_,rfl,RD.nil,RD.nil,RD.nil⟩,fun h=>?_⟩,fun B V4 C=>?_⟩
 ·exact absurd (g.1 (by simp at B;omega)) h
 have D:¬(a=0/\b=0):=fun h=>by have:=g.2 h;simp at B;omega
 have k:0<Nat.gcd a.natAbs b.natAbs:=by have:=g;omega
 have o:(af (Nat.gcd a.natAbs b.natAbs)).length<=274877906944:=by
  rcases Nat.eq_zero_or_pos a.natAbs with h|h
  ·rw [h,Nat.gcd_zero_left];exact h2
  ·exact Nat.le_trans (aA (Nat.gcd_le_left _ h)) h1
 refine (kK (O.le C) (hc.le (y.trans (N.trans C))) o h3).mono ?_;rintro r V5 X ⟨p2,n2,c2,rfl,z⟩;have i:=y.trans (N.trans (C.trans X));have Y:Nat.gcd (Nat.gcd a.natAbs b.natAbs) c.natAbs=iM a b c:=rfl;have d:0<iM a b c:=Nat.gcd_pos_of_pos_left _ k;have E:(af (iM a b c)).length<=274877906944:=Nat.le_trans (aA (Nat.gcd_le_left _ k)) o;have Z:iM a b c∣a.natAbs:=Nat.dvd_trans (Nat.gcd_dvd_left _ _) (Nat.gcd_dvd_left _ _);have db:iM a b c∣b.natAbs:=Nat.dvd_trans (Nat.gcd_dvd_left _ _) (Nat.gcd_dvd_right _ _);have dc:iM a b c∣c.natAbs:=Nat.gcd_dvd_right _ _;have sa:=ux d Z;have sb:=ux d db;have sc:=ux d dc;rw [Y] at z;generalize iM a b c=G at *;refine ⟨_,_,_,rfl,fun V6 F=>(dV (ha.le (i.trans F)) (z.le F) h1 E d).mono ?_⟩;rintro r V7 l7 ⟨p3,n3,c3,p4,n4,c4,rfl,g3,-⟩;have H:=F.trans l7;refine ⟨_,_,_,_,_,_,rfl,fun V8 A=>(dV (hb.le (i.trans (H.trans A))) (z.le (H.trans A)) h2 E d).mono ?_⟩;rintro r V9 P ⟨p5,n5,c5,p6,n6,c6,rfl,g5,-⟩;have Q:=H.trans (A.trans P);refine ⟨_,_,_,_,_,_,rfl,fun a0 f=>(dV (hc.le (i.trans (Q.trans f))) (z.le (Q.trans f)) h3 E d).mono ?_⟩;rintro r a1 t ⟨p7,n7,c7,p8,n8,c8,rfl,g7,-⟩;refine ⟨_,_,_,_,_,_,rfl,fun a2 j=>(fh _ (g3.le (A.trans (P.trans (f.trans (t.trans j)))))).mono ?_⟩;rw [sa];rintro r a3 x ⟨p9,n9,c9,rfl,g9⟩;refine ⟨_,_,_,_,rfl,fun a4 I=>(fh _ (g5.le (f.trans (t.trans (j.trans (x.trans I)))))).mono ?_⟩;rw [sb];rintro r a5 R ⟨Hw,a6,a7,rfl,J⟩;refine ⟨_,_,_,_,rfl,fun ll K=>(fh _ (g7.le (j.trans (x.trans (I.trans (R.trans K)))))).mono ?_⟩;rw [sc];rintro r ny S ⟨Lf,a8,a9,rfl,L⟩;refine ⟨_,_,_,_,rfl,fun oD M=>⟨fun h=>absurd h D,fun _=>⟨_,rfl,_,_,_,_,_,_,_,_,_,rfl,?_,?_,?_⟩⟩⟩
 ·exact g9.le (I.trans (R.trans (K.trans (S.trans M))))
 ·exact J.le (K.trans (S.trans M))
 ·exact L.le M
abbrev L3:=Int×Int×Int
def okL (x:L3):Bool:=decide (¬(x.1=0/\x.2.1=0))&&decide (iM x.1 x.2.1 x.2.2=1)
def Bd (x:L3):Prop:=x.1.natAbs<2^1000/\x.2.1.natAbs<2^1000/\x.2.2.natAbs<2^1000
inductive Tr where
 | leaf (i:Bool)|node (l:L3) (a b:Tr)
 deriving DecidableEq
structure Nd where
 ln:L3
 left:Int
 right:Int
 deriving DecidableEq
def Tr.size:Tr->Nat
 | .leaf _=>0
 | .node _ a b=>a.size+b.size+1
def Tr.Ns:Tr->Bool
 | .leaf _=>true
 | .node ..=>false
def Tr.All (p:L3->Prop):Tr->Prop
 | .leaf _=>True
 | .node l a b=>p l/\a.All p/\b.All p
theorem Tr.All.imp {p q:L3->Prop}(h:∀x,p x->q x):∀{t:Tr},t.All p->t.All q
 | .leaf _,_=>trivial
 | .node _ _ _,⟨h1,h2,h3⟩=>⟨h _ h1,Tr.All.imp h h2,Tr.All.imp h h3⟩
def rt (k:Nat):Tr->Int
 | .leaf i=>if i then -2 else -1
 | .node ..=>(k:Int)
def wr:Nat->Tr->List Nd
 | _,.leaf _=>[]
 | k,.node l a b=>⟨l,rt (k+1) a,rt (k+1+a.size) b⟩::(wr (k+1) a++wr (k+1+a.size) b)
theorem eo:∀(t:Tr)(k:Nat),(wr k t).length=t.size
 | .leaf _,_=>rfl
 | .node _ a b,k=>by simp only [wr,List.length_cons,List.length_append,eo a,eo b,Tr.size]
def Oq (l:List Nd):Int->Tr->List Nat->Prop
 | n,.leaf i,I=>n=(if i then -2 else -1)/\I=[]
 | n,.node ln a b,I=>∃(k:Nat)(x:Nd)(A B:List Nat),n=(k:Int)/\l[k]?=some x/\x.ln=ln/\Oq l x.left a A/\Oq l x.right b B/\I=k::(A++B)
theorem Ex:∀(t:Tr)(l pre post:List Nd)(k:Nat),l=pre++(wr k t++post)->pre.length=k->Oq l (rt k t) t (List.range' k t.size)
 | .leaf i,l,pre,post,k,_,_=>⟨rfl,rfl⟩
 | .node ln a b,l,pre,post,k,hl,hp=>by
  refine ⟨k,⟨ln,rt (k+1) a,rt (k+1+a.size) b⟩,List.range' (k+1) a.size,List.range' (k+1+a.size) b.size,rfl,?_,rfl,?_,?_,?_⟩
  ·subst hl;rw [List.getElem?_append_right (by omega)];simp [hp,wr]
  ·refine Ex a l (pre++[⟨ln,rt (k+1) a,rt (k+1+a.size) b⟩]) (wr (k+1+a.size) b++post) (k+1) ?_ (by simp [hp]);rw [hl];simp [wr]
  ·refine Ex b l (pre++(⟨ln,rt (k+1) a,rt (k+1+a.size) b⟩::wr (k+1) a)) post (k+1+a.size) ?_ (by simp [hp,eo];omega);rw [hl];simp [wr]
  ·simp only [Tr.size];rw [List.range'_succ,←List.range'_append_1]
structure RS where
 seen:List Bool
 jM:Nat
 bad:Bool
def dB (l:List Nd):Nat->Int->RS->Tr×RS
 | 0,_,s=>(.leaf false,s)
 | f+1,n,s=>
  if n=-2 then (.leaf true,s) else if n=-1 then (.leaf false,s) else if n<0 then (.leaf false,{ s with bad:=true })
  else match l[n.toNat]?,s.seen[n.toNat]? with
   | some x,some false=>
    if okL x.ln then
     let r1:=dB l f x.left ⟨s.seen.set n.toNat true,s.jM+1,s.bad⟩
     let r2:=dB l f x.right r1.2
     (.node x.ln r1.1 r2.1,r2.2)
    else (.leaf false,⟨s.seen.set n.toNat true,s.jM+1,true⟩)
   | _,_=>(.leaf false,{ s with bad:=true })
theorem count_set {l:List Bool}{k:Nat}(h:l[k]?=some false):(l.set k true).count false+1=l.count false:=by
 induction l generalizing k with
 | nil=>simp at h
 | cons x r ih=>
  cases k with
  | zero=>simp at h;subst h;simp
  | succ k=>
   simp at h;have:=ih h;simp only [List.set_cons_succ,List.count_cons];omega
theorem pj (l:List Nd):∀(f:Nat)(n:Int)(s:RS),(dB l f n s).2.seen.count false<=s.seen.count false/\(dB l f n s).2.seen.length=s.seen.length
 | 0,_,_=>⟨Nat.le_refl _,rfl⟩
 | f+1,n,s=>by
  simp only [dB];split
  ·exact ⟨Nat.le_refl _,rfl⟩
  ·split
   ·exact ⟨Nat.le_refl _,rfl⟩
   ·split
    ·exact ⟨Nat.le_refl _,rfl⟩
    ·split
     ·rename_i x hx hs;have hc:=count_set hs;split
      ·obtain ⟨c,a⟩:=pj l f x.left ⟨s.seen.set n.toNat true,s.jM+1,s.bad⟩;obtain ⟨d,b⟩:=pj l f x.right (dB l f x.left ⟨s.seen.set n.toNat true,s.jM+1,s.bad⟩).2;dsimp only at c a d b ⊢;exact ⟨by omega,by rw [b,a,List.length_set]⟩
      ·dsimp only;exact ⟨by omega,by simp⟩
     ·exact ⟨Nat.le_refl _,rfl⟩
theorem tE (l:List Nd):∀(f:Nat)(n:Int)(s:RS),(dB l f n s).2.jM+(dB l f n s).2.seen.count false=s.jM+s.seen.count false
 | 0,_,_=>rfl
 | f+1,n,s=>by
  simp only [dB];split
  ·rfl
  ·split
   ·rfl
   ·split
    ·rfl
    ·split
     ·rename_i x hx hs;have hc:=count_set hs;split
      ·have a:=tE l f x.left ⟨s.seen.set n.toNat true,s.jM+1,s.bad⟩;have b:=tE l f x.right (dB l f x.left ⟨s.seen.set n.toNat true,s.jM+1,s.bad⟩).2;dsimp only at a b ⊢;omega
      ·dsimp only;omega
     ·rfl
theorem Aq {p:L3->Prop}{l:List Nd}(hl:∀x∈l,p x.ln):∀(f:Nat)(n:Int)(s:RS),(dB l f n s).1.All p
 | 0,_,_=>trivial
 | f+1,n,s=>by
  simp only [dB];split
  ·trivial
  ·split
   ·trivial
   ·split
    ·trivial
    ·split
     ·rename_i x hx hs;split
      ·exact ⟨hl x (List.mem_of_getElem? hx),Aq hl f _ _,Aq hl f _ _⟩
      ·trivial
     ·trivial
theorem vh (l:List Nd):∀(f:Nat)(n:Int)(s:RS),(dB l f n s).1.size+s.jM<=(dB l f n s).2.jM
 | 0,_,_=>by simp [dB,Tr.size]
 | f+1,n,s=>by
  simp only [dB];split
  ·simp [Tr.size]
  ·split
   ·simp [Tr.size]
   ·split
    ·simp [Tr.size]
    ·split
     ·split
      ·rename_i x hx hs hok;have h1:=vh l f x.left ⟨s.seen.set n.toNat true,s.jM+1,s.bad⟩;have a:=vh l f x.right (dB l f x.left ⟨s.seen.set n.toNat true,s.jM+1,s.bad⟩).2;dsimp only at h1 a ⊢;simp only [Tr.size];omega
      ·simp [Tr.size]
     ·simp [Tr.size]
def nP (s:List Bool)(I:List Nat):List Bool:=I.foldl (fun s k=>s.set k true) s
theorem vx:∀(I:List Nat)(s:List Bool)(k:Nat),k∉I->(nP s I)[k]?=s[k]?
 | [],_,_,_=>rfl
 | i::r,s,k,h=>by
  have:=vx r (s.set i true) k (fun a=>h (List.mem_cons_of_mem _ a));unfold nP at this ⊢;rw [List.foldl_cons,this,List.getElem?_set_ne (fun e=>h (by simp [e]))]
theorem At (l:List Nd):∀(t:Tr)(f:Nat)(n:Int)(s:RS)(I:List Nat),Oq l n t I->I.Nodup->(∀k∈I,s.seen[k]?=some false)->t.All (fun x=>okL x=true)->t.size<f->dB l f n s=(t,⟨nP s.seen I,s.jM+t.size,s.bad⟩)
 | .leaf i,f,n,s,I,⟨h1,h2⟩,_,_,_,hf=>by
  subst h2;obtain ⟨f,rfl⟩:∃g,f=g+1:=⟨f-1,by simp [Tr.size] at hf;omega⟩
  cases i with
  | true=>simp only [if_true] at h1;subst h1;simp [dB,nP,Tr.size]
  | false=>
   have h1:n=-1:=by simpa using h1
   subst h1;simp [dB,nP,Tr.size]
 | .node ln a b,f,n,s,I,⟨k,x,A,B,h1,h2,h3,h4,h5,h6⟩,hnd,hun,hok,hf=>by
  subst h1 h3 h6;obtain ⟨f,rfl⟩:∃g,f=g+1:=⟨f-1,by simp [Tr.size] at hf;omega⟩;rw [List.nodup_cons,List.nodup_append] at hnd;obtain ⟨p,q,r,u⟩:=hnd;have d:=hun k (by simp);simp only [Tr.size] at hf
  have v:=At l a f x.left ⟨s.seen.set k true,s.jM+1,s.bad⟩ A h4 q (fun j c=>by
   have:k≠j:=fun e=>p (by rw [e];simp [c]);dsimp only;rw [List.getElem?_set_ne this];exact hun j (by simp [c])) hok.2.1 (by omega)
  have w:=At l b f x.right ⟨nP (s.seen.set k true) A,s.jM+1+a.size,s.bad⟩ B h5 r (fun j c=>by
   have:k≠j:=fun e=>p (by rw [e];simp [c]);dsimp only;rw [vx A _ j (fun h=>u j h j c rfl),List.getElem?_set_ne this];exact hun j (by simp [c])) hok.2.2 (by omega)
  have m:¬((k:Int)=-2):=by omega
  have o:¬((k:Int)=-1):=by omega
  have y:¬((k:Int)<0):=by omega
  have z:dB l (f+1) (k:Int) s=(.node x.ln (dB l f x.left ⟨s.seen.set k true,s.jM+1,s.bad⟩).1 (dB l f x.right (dB l f x.left ⟨s.seen.set k true,s.jM+1,s.bad⟩).2).1,(dB l f x.right (dB l f x.left ⟨s.seen.set k true,s.jM+1,s.bad⟩).2).2):=by
   rw [dB];rw [if_neg m,if_neg o,if_neg y];simp only [Int.toNat_natCast,h2,d,hok.1,if_true]
  rw [z,v];dsimp only;rw [w];simp only [nP,List.foldl_cons,List.foldl_append,Tr.size,Prod.mk.injEq,RS.mk.injEq,true_and];first|omega|exact ⟨by omega,trivial⟩
def ofT (l:List Nd)(root:Int):Option Tr:=
 if 65536<l.length then none else
 let r:=dB l (l.length+1) root ⟨List.replicate l.length false,0,false⟩
 if r.2.bad=true\/r.2.jM≠l.length then none else some r.1
theorem La {l:List Nd}{n:Int}{t:Tr}{I:List Nat}(h:Oq l n t I)(hn:I.Nodup)(hI:∀k∈I,k<l.length)(hs:t.size=l.length)(hok:t.All fun x=>okL x=true)(hl:l.length<=65536):ofT l n=some t:=by
 unfold ofT;rw [if_neg (by omega)];rw [At l t (l.length+1) n _ I h hn (fun k a=>by simp [hI k a]) hok (by omega)];simp [hs]
theorem NK {t:Tr}(hok:t.All fun x=>okL x=true)(hl:t.size<=65536):ofT (wr 0 t) (rt 0 t)=some t:=by
 have h:=Ex t (wr 0 t) [] [] 0 (by simp) rfl;refine La h List.nodup_range' (fun k a=>?_) (eo t 0).symm hok (by rw [eo];exact hl);rw [eo];have:=List.mem_range'_1.1 a;omega
theorem ofT_all {p:L3->Prop}{l:List Nd}{n:Int}{t:Tr}(hl:∀x∈l,p x.ln)(h:ofT l n=some t):t.All p:=by
 unfold ofT at h;split at h
 ·cases h
 ·dsimp only at h;split at h
  ·cases h
  ·cases h;exact Aq hl _ _ _
theorem ofT_size {l:List Nd}{n:Int}{t:Tr}(h:ofT l n=some t):t.size<=65536:=by
 unfold ofT at h;split at h
 ·cases h
 ·dsimp only at h;split at h
  ·cases h
  ·rename_i b a;cases h;have:=vh l (l.length+1) n ⟨List.replicate l.length false,0,false⟩;dsimp only at this
   have c:(dB l (l.length+1) n ⟨List.replicate l.length false,0,false⟩).2.jM=l.length:=by
    rcases Nat.lt_or_ge 0 1 with _|h
    ·by_cases e:(dB l (l.length+1) n ⟨List.replicate l.length false,0,false⟩).2.jM=l.length
     ·exact e
     ·exact absurd (.inr e) a
    ·omega
   omega
end Go.Proofs.Tryz
namespace Go.Eng
open Go.Big
def te (V:View)(v:Value)(a b c:Rat):Prop:=∃(x1 x2:Int)(p:OA)(y1 y2:Int)(q:OA)(z1 z2:Int)(r:OA),v=.agg #[.int .i64 x1,.int .i64 x2,.pointer p,.int .i64 y1,.int .i64 y2,.pointer q,.int .i64 z1,.int .i64 z2,.pointer r] /\
 RR V (.agg #[.int .i64 x1,.int .i64 x2,.pointer p]) a/\RR V (.agg #[.int .i64 y1,.int .i64 y2,.pointer q]) b/\RR V (.agg #[.int .i64 z1,.int .i64 z2,.pointer r]) c
def Kr (v:Value):Prop:=∃(x1 x2:Int)(x3:OA)(y1 y2:Int)(y3:OA)(z1 z2:Int)(z3:OA),v=.agg #[.int .i64 x1,.int .i64 x2,.pointer x3,.int .i64 y1,.int .i64 y2,.pointer y3,.int .i64 z1,.int .i64 z2,.pointer z3]
theorem te.le {V V':View}{v:Value}{a b c:Rat}(h:te V v a b c)(l:V.Le V'):te V' v a b c:=by
 obtain ⟨d,e,p,f,g,q,i,j,r,rfl,k,m,n⟩:=h;exact ⟨d,e,p,f,g,q,i,j,r,rfl,k.le l,m.le l,n.le l⟩
end Go.Eng
namespace Go.Proofs.Tryz
open Go.Eng Go.Big
theorem Gh {V:View}{v:Value}{a b c:Rat}(h:te V v a b c){k:Nat}(s1:Sz k a)(s2:Sz k b)(s3:Sz k c)(hk:k<=1099511627776) :
  Acts prog 96 #[v] V fun r V'=>RL V' r a.num b.num c.num:=by
 obtain ⟨w,x,p,y,z,q,A,B,r,rfl,m,n,o⟩:=h;refine xy _ _ _ _ _ _ _ _ _ V _ fun C d=>(fL (m.le d) s1 hk).mono ?_;rintro r V2 i ⟨D,E,F,rfl,s⟩;refine ⟨_,_,_,_,rfl,fun G e=>(fL (n.le (d.trans (i.trans e))) s2 hk).mono ?_⟩;rintro r H j ⟨I,J,K,rfl,t⟩;refine ⟨_,_,_,_,rfl,fun L f=>(fL (o.le (d.trans (i.trans (e.trans (j.trans f))))) s3 hk).mono ?_⟩;rintro r M l ⟨N,O,P,rfl,u⟩;exact ⟨_,_,_,_,rfl,fun Q g=>⟨_,_,_,_,_,_,_,_,_,rfl,s.le (e.trans (j.trans (f.trans (l.trans g)))),t.le (f.trans (l.trans g)),u.le g⟩⟩
def w_ (b1:Bool)(xs:List Nat)(b2:Bool)(ys:List Nat)(b3:Bool)(zs:List Nat):Bool:=
 nw b1 xs&&nw b2 ys&&nw b3 zs&&!(decide ((aZ b1 xs:Rat)=0)&&decide ((aZ b2 ys:Rat)=0))&&decide (jB (jB (aZ b1 xs) (aZ b2 ys)) (aZ b3 zs)=((1:Int):Rat))
theorem qJ {V:View}{ok:Bool}{A B C:Rat}(h:ok=false):∃v,Value.tuple #[.agg #[.int .i64 0,.int .i64 0,.pointer none,.int .i64 0,.int .i64 0,.pointer none,.int .i64 0,.int .i64 0,.pointer none],.bool false]=.tuple #[v,.bool ok]/\Kr v/\(ok=true->te V v A B C):=by
 subst h;exact ⟨_,rfl,⟨_,_,_,_,_,_,_,_,_,rfl⟩,fun h=>nomatch h⟩
theorem JV:Sz 1 ((1:Int):Rat):=by unfold Sz;decide
theorem tW {V:View}(b1 b2 b3:Bool){p q s:OA}{n c m e i j:Nat}{xs ys zs:List Nat}(hx:RD V p n c xs)(hy:RD V q m e ys)(hz:RD V s i j zs)
  (h1:xs.length<=1099511627776)(h2:ys.length<=1099511627776)(h3:zs.length<=1099511627776){k:Nat}(s1:Sz k (aZ b1 xs:Rat))(s2:Sz k (aZ b2 ys:Rat))(s3:Sz k (aZ b3 zs:Rat))(hk:4*k+4<1099511627776) :
  Acts prog 132 #[.agg #[.bool b1,.slice p n c,.bool b2,.slice q m e,.bool b3,.slice s i j]] V fun r V'=>∃v,r=.tuple #[v,.bool (w_ b1 xs b2 ys b3 zs)]/\Kr v/\(w_ b1 xs b2 ys b3 zs=true->te V' v (aZ b1 xs) (aZ b2 ys) (aZ b3 zs)):=by
 refine Dd _ p n c _ q m e _ s i j V _ fun V1 J=>(f_ b1 (hx.le J) h1).mono ?_;rintro r V2 L rfl;refine ⟨_,rfl,fun l V3 l3=>qJ ?_,fun l V4 M=>(f_ b2 (hy.le (J.trans (L.trans M))) h2).mono ?_⟩
 ·have l:nw b1 xs=false:=by simpa using l
  simp [w_,l]
 have l:nw b1 xs=true:=by simpa using l
 rintro r V5 Y rfl;refine ⟨_,rfl,fun o V6 l6=>qJ ?_,fun o V7 Z=>(f_ b3 (hz.le (J.trans (L.trans (M.trans (Y.trans Z))))) h3).mono ?_⟩
 ·have o:nw b2 ys=false:=by simpa using o
  simp [w_,o]
 have o:nw b2 ys=true:=by simpa using o
 rintro r V8 l8 rfl;have Mb:=J.trans (L.trans (M.trans (Y.trans (Z.trans l8))));refine ⟨_,rfl,fun f0 V9 l9=>qJ ?_,fun f0 a0 D=>(kE b1 (hx.le (Mb.trans D)) h1).mono ?_⟩
 ·have f0:nw b3 zs=false:=by simpa using f0
  simp [w_,f0]
 have f0:nw b3 zs=true:=by simpa using f0
 rintro r a1 N t;obtain ⟨x1,x2,x3,rfl⟩:=t.shape;have Nu:=Mb.trans (D.trans N);refine ⟨_,_,_,rfl,fun a2 w=>(kE b2 (hy.le (Nu.trans w)) h2).mono ?_⟩;rintro r a3 E u;obtain ⟨y1,y2,y3,rfl⟩:=u.shape;have Th:=Nu.trans (w.trans E);refine ⟨_,_,_,rfl,fun a4 O=>(kE b3 (hz.le (Th.trans O)) h3).mono ?_⟩;rintro r g dq rc;obtain ⟨z1,z2,z3,rfl⟩:=rc.shape
 replace t:=t.le (w.trans (E.trans (O.trans dq)))
 replace u:=u.le (O.trans dq)
 have F:w_ b1 xs b2 ys b3 zs=(!(decide ((aZ b1 xs:Rat)=0)&&decide ((aZ b2 ys:Rat)=0))&&decide (jB (jB (aZ b1 xs) (aZ b2 ys)) (aZ b3 zs)=((1:Int):Rat))):=by
  simp only [w_,l,o,f0,Bool.true_and]
 rw [F];clear F l o f0 hx hy hz;generalize (aZ b1 xs:Rat)=A at *;generalize (aZ b2 ys:Rat)=B at *;generalize (aZ b3 zs:Rat)=C at *;refine ⟨_,_,_,rfl,fun ll K=>(Bv (t.le K)).mono ?_⟩;rintro r ny P rfl;refine ⟨_,rfl,fun t0 oD dz=>(Bv (u.le (K.trans (P.trans dz)))).mono ?_,fun t0 Q R=>?_⟩
 ·rintro r rZ dY rfl;refine ⟨_,rfl,fun S Bk iO=>qJ (by rw [t0,S];rfl),fun S Q R=>?_⟩;have lb:g.Le Q:=K.trans (P.trans (dz.trans (dY.trans R)));have T:(decide (A=0)&&decide (B=0))=false:=by rw [S,Bool.and_false]
  rw [T];refine (kz (t.le lb) (u.le lb) s1 s2 (by omega)).mono ?_;rintro r wI G rg;obtain ⟨g1,g2,g3,rfl⟩:=rg.shape;refine ⟨_,_,_,rfl,fun xZ x=>(kz (rg.le x) (rc.le (lb.trans (G.trans x))) (mD s1 s2) s3 (by omega)).mono ?_⟩;rintro r Kg U H;obtain ⟨h1,h2,h3,rfl⟩:=H.shape;refine ⟨_,_,_,rfl,fun HA d=>(iD 1 (by omega) (by omega)).mono ?_⟩;rintro r MH f I;obtain ⟨i1,i2,i3,rfl⟩:=I.shape;refine ⟨_,_,_,rfl,fun Ou a=>(yv (H.le (d.trans (f.trans a))) (I.le a) (mD (mD s1 s2) s3) JV (by omega)).mono ?_⟩;rintro r W X rfl;have y:g.Le W:=lb.trans (G.trans (x.trans (U.trans (d.trans (f.trans (a.trans X))))));refine ⟨_,rfl,fun b Ru Fz=>qJ ?_,fun b MI z=>?_⟩
  ·rw [Bool.not_eq_true'] at b;rw [b];rfl
  ·have b:decide (jB (jB A B) C=((1:Int):Rat))=true:=by
    cases h:decide (jB (jB A B) C=((1:Int):Rat))
    ·rw [h] at b;cases b
    ·rfl
   rw [b];exact ⟨_,rfl,⟨_,_,_,_,_,_,_,_,_,rfl⟩,fun _=>⟨_,_,_,_,_,_,_,_,_,rfl,t.le (y.trans z),u.le (y.trans z),rc.le (y.trans z)⟩⟩
 ·have lb:g.Le Q:=K.trans (P.trans R);have T:(decide (A=0)&&decide (B=0))=false:=by rw [t0,Bool.false_and]
  rw [T];refine (kz (t.le lb) (u.le lb) s1 s2 (by omega)).mono ?_;rintro r wI G rg;obtain ⟨g1,g2,g3,rfl⟩:=rg.shape;refine ⟨_,_,_,rfl,fun xZ x=>(kz (rg.le x) (rc.le (lb.trans (G.trans x))) (mD s1 s2) s3 (by omega)).mono ?_⟩;rintro r Kg U H;obtain ⟨h1,h2,h3,rfl⟩:=H.shape;refine ⟨_,_,_,rfl,fun HA d=>(iD 1 (by omega) (by omega)).mono ?_⟩;rintro r MH f I;obtain ⟨i1,i2,i3,rfl⟩:=I.shape;refine ⟨_,_,_,rfl,fun Ou a=>(yv (H.le (d.trans (f.trans a))) (I.le a) (mD (mD s1 s2) s3) JV (by omega)).mono ?_⟩;rintro r W X rfl;have y:g.Le W:=lb.trans (G.trans (x.trans (U.trans (d.trans (f.trans (a.trans X))))));refine ⟨_,rfl,fun b Ru Fz=>qJ ?_,fun b MI z=>?_⟩
  ·rw [Bool.not_eq_true'] at b;rw [b];rfl
  ·have b:decide (jB (jB A B) C=((1:Int):Rat))=true:=by
    cases h:decide (jB (jB A B) C=((1:Int):Rat))
    ·rw [h] at b;cases b
    ·rfl
   rw [b];exact ⟨_,rfl,⟨_,_,_,_,_,_,_,_,_,rfl⟩,fun _=>⟨_,_,_,_,_,_,_,_,_,rfl,t.le (y.trans z),u.le (y.trans z),rc.le (y.trans z)⟩⟩
def Lc:List Int->Int
 | []=>0
 | x::r=>if x=0 then Lc r else x
def Nq (l:List Int):List Value:=l.map fun x=>Value.int .i64 x
theorem NO {l:List Int}:Lc l=0↔∀x∈l,x=0:=by
 induction l with
 | nil=>simp [Lc]
 | cons x r ih=>
  simp only [Lc,List.mem_cons,forall_eq_or_imp];split
  ·rename_i h;simp [h,ih]
  ·rename_i h;simp [h]
theorem HY {V:View}{p:OA}{n c:Nat}{l:List Int}(hl:n=l.length)(hs:V.sl p (Nq l))(hm:l.length<=1099511627776) :
  Acts prog 245 #[.slice p n c] V fun r V'=>r=.int .i64 (Lc l):=by
 refine Hq p n c V _ ⟨fun z V'=>0<=z/\z<=n/\Lc l=Lc (l.drop z.toNat),fun z=>n-z.toNat,⟨0,by (try dsimp only);and_intros<;>first|exact True.intro|rfl,by (try dsimp only);omega,by (try dsimp only);omega,rfl⟩,?_⟩;rintro i m j ⟨e,f,he⟩;dsimp only at f he ⊢;obtain ⟨i,rfl⟩:=Int.eq_ofNat_of_zero_le e;simp only [Int.toNat_natCast] at he;refine ⟨by trivial,fun b=>?_,fun b o q=>?_⟩
 ·have b:i<n:=by simpa using b
  have d:i<l.length:=by omega
  obtain ⟨k,h,g⟩:=(j.sl hs) i (.int .i64 l[i]) (by simp [Nq,d]);rw [List.drop_eq_getElem_cons d,Lc] at he;refine ⟨by rw [h];rfl,⟨by omega,by omega⟩,l[i],⟨k.add i,by rw [h];simp [addrAdd],g⟩,fun a V2 s=>?_,fun a=>?_⟩
  ·have a:l[i]≠0:=by simpa using a
   rw [if_neg a] at he;rw [he]
  ·have a:l[i]=0:=by simpa using a
   rw [if_pos a] at he;have w:i64.wrap ((i:Int)+1)=((i+1:Nat):Int):=by rw [i64w (by omega)];omega
   simp only [w];refine ⟨((i+1:Nat):Int),?_,by (try dsimp only);and_intros<;>first|exact True.intro|rfl,by (try dsimp only);omega,by (try dsimp only);omega,?_⟩
   ·(try dsimp only);omega
   ·exact he
 ·have b:i=n:=by simp at b;omega
  rw [List.drop_of_length_le (by omega)] at he;rw [he];rfl
theorem Gi {V:View}{v w:Value}{a b c a' b' c':Rat}(hx:te V v a b c)(hy:te V w a' b' c'){k m:Nat}(s1:Sz k a)(s2:Sz k b)(s3:Sz k c)(t1:Sz m a')(t2:Sz m b')(t3:Sz m c')(hk:k+m<1099511627776) :
  Acts prog 231 #[v,w] V fun r V'=>r=.int .i64 (Lc [eM a a',eM b b',eM c c']):=by
 obtain ⟨A,B,p,C,D,q,E,F,r,rfl,j,n,o⟩:=hx;obtain ⟨G,H,I,J,K,L,M,N,O,rfl,s,t,u⟩:=hy;refine xA _ _ _ _ _ _ _ _ _ _ _ _ _ _ _ _ _ _ V _ fun P d=>(ky (j.le d) (s.le d) s1 t1 hk).mono ?_;rintro r V2 f rfl;refine ⟨_,rfl,fun Q g=>(ky (n.le (d.trans (f.trans g))) (t.le (d.trans (f.trans g))) s2 t2 hk).mono ?_⟩;rintro r R x rfl;have e:=d.trans (f.trans (g.trans x));refine ⟨_,rfl,fun S h=>(ky (o.le (e.trans h)) (u.le (e.trans h)) s3 t3 hk).mono ?_⟩;rintro r T U rfl;refine ⟨_,rfl,fun W X Y y=>(HY (l:=[eM a a',eM b b',eM c c']) rfl (fun i v z=>⟨_,rfl,by rw [add_zero'];exact blk_at (xs:=Nq [eM a a',eM b b',eM c c']) y z⟩) (by simp)).mono ?_⟩;rintro r Z l8 rfl;exact ⟨_,rfl,fun _ V9 l9=>rfl⟩
theorem Bx {V:View}{v w:Value}{a b c a' b' c':Rat}(hx:te V v a b c)(hy:te V w a' b' c'){k m:Nat}(s1:Sz k a)(s2:Sz k b)(s3:Sz k c)(t1:Sz m a')(t2:Sz m b')(t3:Sz m c')(hk:k+m<1099511627776) :
  Acts prog 197 #[v,w] V fun r V'=>r=.bool (decide (a=a'/\b=b'/\c=c')):=by
 have d:=hx;have e:=hy;obtain ⟨g,h,p,i,j,q,l,n,r,rfl,-,-,-⟩:=hx;obtain ⟨o,s,t,u,x,y,z,A,B,rfl,-,-,-⟩:=hy;refine sL _ _ _ _ _ _ _ _ _ _ _ _ _ _ _ _ _ _ V _ fun C f=>(Gi (d.le f) (e.le f) s1 s2 s3 t1 t2 t3 hk).mono ?_;rintro r V2 D rfl;refine ⟨_,rfl,fun E F=>?_⟩;congr 1;rw [Bool.eq_iff_iff,decide_eq_true_eq,beq_iff_eq,NO];simp [←h_]
theorem addadd (a:Addr)(i j:Nat):(a.add i).add j=a.add (i+j):=by
 unfold Addr.add;by_cases b:i=0
 ·subst b;simp
 ·by_cases c:j=0
  ·subst c;simp [b]
  ·simp [b,c,Nat.add_assoc]
theorem rdc {V:View}{b:Nat}{xs:List Value}{ty:TypeId}{m:Nat×Nat}(h:V.aS b (.cells xs.toArray ty m))(i:Nat){v:Value}(hv:xs[i]?=some v):∃a,addrAdd (some ⟨b,0,none⟩) i=some a/\V.at a v:=
 ⟨⟨b,i,none⟩,by simp [addrAdd,add_zero'],blk_at h hv⟩
theorem Jd {a b c:Int}:w_ (decide (a<0)) (af a.natAbs) (decide (b<0)) (af b.natAbs) (decide (c<0)) (af c.natAbs)=okL (a,b,c):=by
 have d:∀z:Int,nw (decide (z<0)) (af z.natAbs)=true:=by
  intro z;unfold nw;rw [ab];simp only [decide_true,Bool.true_and];by_cases h:z<0
  ·simp only [h,decide_true,Bool.not_true,Bool.false_or,decide_eq_true_eq];intro e;have:=bE.1 e;omega
  ·simp [h]
 have j:jB (jB (a:Rat) (b:Rat)) (c:Rat)=((iM a b c:Nat):Int):=by
  have g:∀x y:Int,jB (x:Rat) (y:Rat)=((Nat.gcd x.natAbs y.natAbs:Nat):Int):=by
   intro x y;unfold jB;have k:((x:Rat)).num=x:=rfl;have l:((y:Rat)).num=y:=rfl;have m:((x:Rat)).den=1:=rfl;have n:((y:Rat)).den=1:=rfl;rw [k,l,m,n];simp only [Nat.mul_one];exact Rat.mkRat_one _
  rw [g,g];rfl
 unfold w_ okL;rw [d,d,d,aM,aM,aM,j];have o:∀z:Int,((z:Rat)=0)↔z=0:=fun z=>by exact Rat.intCast_eq_zero_iff
 simp only [Bool.true_and,o];rw [Bool.eq_iff_iff];simp only [Bool.and_eq_true,Bool.not_eq_true',Bool.and_eq_false_iff,decide_eq_false_iff_not,decide_eq_true_eq]
 have p:(((iM a b c:Nat):Int):Rat)=((1:Int):Rat)↔iM a b c=1:=by
  rw [Rat.intCast_inj];omega
 rw [p];constructor
 ·rintro ⟨h,f⟩;exact ⟨fun e=>by rcases h with h|h;exact h e.1;exact h e.2,f⟩
 ·rintro ⟨h,f⟩;refine ⟨?_,f⟩;by_cases i:a=0
  ·exact .inr fun q=>h ⟨i,q⟩
  ·exact .inl i
theorem AH {z:Int}{k:Nat}(h:z.natAbs<2^k)(hk:0<k):Sz k (z:Rat):=⟨h,Nat.one_lt_two_pow (by omega)⟩
theorem Bd.af {x:L3}(h:Bd x):(af x.1.natAbs).length<=1000/\(af x.2.1.natAbs).length<=1000/\(af x.2.2.natAbs).length<=1000:=⟨ae h.1,ae h.2.1,ae h.2.2⟩
theorem Bd.sz {x:L3}(h:Bd x):Sz 1000 (x.1:Rat)/\Sz 1000 (x.2.1:Rat)/\Sz 1000 (x.2.2:Rat):=⟨AH h.1 (by omega),AH h.2.1 (by omega),AH h.2.2 (by omega)⟩
theorem Bz {V:View}{v:Value}{x:L3}(h:RL V v x.1 x.2.1 x.2.2)(hb:Bd x) :
  Acts prog 132 #[v] V fun r V'=>∃w,r=.tuple #[w,.bool (okL x)]/\Kr w/\(okL x=true->te V' w x.1 x.2.1 x.2.2):=by
 obtain ⟨p,n,s,f,g,i,q,m,e,rfl,b,c,d⟩:=h;obtain ⟨d1,d2,d3⟩:=hb.af;obtain ⟨s1,s2,s3⟩:=hb.sz;have a:=tW (V:=V) (decide (x.1<0)) (decide (x.2.1<0)) (decide (x.2.2<0)) b c d (by omega) (by omega) (by omega) (k:=1000) (by rw [aM];exact s1) (by rw [aM];exact s2) (by rw [aM];exact s3) (by omega);rw [Jd,aM,aM,aM] at a;exact a
def RT (V:View):OA->Tr->Prop
 | p,.leaf i=>∃(b:Nat)(c0 c1 c2 c3 c4 c5 c6 c7 c8:Value)(r:OA),p=some ⟨b,0,none⟩/\V.aS b (.cells #[c0,c1,c2,c3,c4,c5,c6,c7,c8,.pointer none,.pointer r,.bool i] 122 (0,0))
 | p,.node l x y=>∃(b:Nat)(x1 x2:Int)(x3:OA)(y1 y2:Int)(y3:OA)(z1 z2:Int)(z3:OA)(pl pr:OA)(i:Bool),p=some ⟨b,0,none⟩ /\
   V.aS b (.cells #[.int .i64 x1,.int .i64 x2,.pointer x3,.int .i64 y1,.int .i64 y2,.pointer y3,.int .i64 z1,.int .i64 z2,.pointer z3,.pointer pl,.pointer pr,.bool i] 122 (0,0)) /\
   te V (.agg #[.int .i64 x1,.int .i64 x2,.pointer x3,.int .i64 y1,.int .i64 y2,.pointer y3,.int .i64 z1,.int .i64 z2,.pointer z3]) l.1 l.2.1 l.2.2/\RT V pl x/\RT V pr y
theorem RT.le {V V':View}(h:V.Le V'):∀{t:Tr} {p:OA},RT V p t->RT V' p t
 | .leaf i,p,⟨b,c0,c1,c2,c3,c4,c5,c6,c7,c8,r,e,hb⟩=>⟨b,c0,c1,c2,c3,c4,c5,c6,c7,c8,r,e,h _ _ hb⟩
 | .node l x y,p,⟨b,x1,x2,x3,y1,y2,y3,z1,z2,z3,pl,pr,i,e,hb,hl,hx,hy⟩=>⟨b,x1,x2,x3,y1,y2,y3,z1,z2,z3,pl,pr,i,e,h _ _ hb,hl.le h,RT.le h hx,RT.le h hy⟩
theorem RT.Tc {V:View}{t:Tr}{p:OA}(h:RT V p t):p.isSome=true:=by
 cases t with
 | leaf i=>obtain ⟨b,a,c,d,e,f,g,j,k,m,r,rfl,n⟩:=h;rfl
 | node l x y=>obtain ⟨b,o,q,s,u,v,w,z,A,B,pl,C,i,rfl,-⟩:=h;rfl
theorem fZ {V:View}(i:Bool):Acts prog 175 #[.bool i] V fun r V'=>∃p,r=.pointer p/\RT V' p (.leaf i):=
 C8 i V _ fun c d b a=>⟨_,rfl,b,_,_,_,_,_,_,_,_,_,_,rfl,a⟩
theorem c_bsp_IsLeaf {V:View}{p:OA}{t:Tr}(h:RT V p t):Acts prog 137 #[.pointer p] V fun r V'=>r=.bool t.Ns:=by
 cases t with
 | leaf i=>
  obtain ⟨b,g,j,k,m,n,o,q,s,u,r,rfl,c⟩:=h;exact lk _ V _ ⟨rfl,rfl,_,rdc c 9 rfl,fun d e=>rfl⟩
 | node l x y=>
  obtain ⟨b,v,w,z,A,B,C,D,E,F,pl,G,i,rfl,c,H,f,I⟩:=h;refine lk _ V _ ⟨rfl,rfl,_,rdc c 9 rfl,fun d e=>?_⟩;have:=f.Tc
  cases pl with
  | none=>cases this
  | some a=>rfl
theorem Gg {V:View}{v:Value}{l:L3}{p q:OA}{x y:Tr}(hl:te V v l.1 l.2.1 l.2.2)(hx:RT V p x)(hy:RT V q y) :
  Acts prog 176 #[v,.pointer p,.pointer q] V fun r V'=>∃p',r=.pointer p'/\RT V' p' (.node l x y):=by
 have a:=hl;obtain ⟨e,f,g,h,i,j,k,m,n,rfl,-⟩:=hl;exact EJ _ _ _ _ _ _ _ _ _ p q V _ fun o c b d=>⟨_,rfl,b,_,_,_,_,_,_,_,_,_,_,_,_,rfl,d,a.le c,hx.le c,hy.le c⟩
def N_ (V:View)(v:Value)(l:L3):Prop:=RL V v l.1 l.2.1 l.2.2\/okL l=false/\∃b1 p n c xs b2 q m e ys b3 s i j zs,v=.agg #[.bool b1,.slice p n c,.bool b2,.slice q m e,.bool b3,.slice s i j]/\RD V p n c xs/\RD V q m e ys/\RD V s i j zs /\
 w_ b1 xs b2 ys b3 zs=false/\(xs.length<=1000000/\ys.length<=1000000/\zs.length<=1000000)/\Sz 1000000 (aZ b1 xs:Rat)/\Sz 1000000 (aZ b2 ys:Rat)/\Sz 1000000 (aZ b3 zs:Rat)
theorem N_.le {V V':View}{v:Value}{l:L3}(h:N_ V v l)(e:V.Le V'):N_ V' v l:=by
 rcases h with h|⟨a,b,p,n,c,xs,d,q,m,f,g,k,s,i,j,o,r,t,u,w,x⟩
 ·exact .inl (h.le e)
 ·exact .inr ⟨a,b,p,n,c,xs,d,q,m,f,g,k,s,i,j,o,r,t.le e,u.le e,w.le e,x⟩
theorem zJ {V:View}{v:Value}{x:L3}(h:N_ V v x)(hb:Bd x) :
  Acts prog 132 #[v] V fun r V'=>∃w,r=.tuple #[w,.bool (okL x)]/\Kr w/\(okL x=true->te V' w x.1 x.2.1 x.2.2):=by
 rcases h with h|⟨a,b,p,n,c,xs,d,q,m,u,y,e,s,i,j,z,rfl,f,g,k,l,⟨A,B,C⟩,s1,s2,s3⟩
 ·exact Bz h hb
 ·refine (tW b d e f g k (by omega) (by omega) (by omega) s1 s2 s3 (by omega)).mono ?_;rintro r V2 D ⟨w,rfl,o,t⟩;rw [l] at t ⊢;rw [a];exact ⟨w,rfl,o,fun h=>by cases h⟩
def NR (V:View)(vs:List Value)(l:List Nd):Prop:=∀(i:Nat)(d:Nd),l[i]?=some d->∃(b1:Bool)(p1:OA)(n1 c1:Nat)(b2:Bool)(p2:OA)(n2 c2:Nat)(b3:Bool)(p3:OA)(n3 c3:Nat),
 (∀j v,([.bool b1,.slice p1 n1 c1,.bool b2,.slice p2 n2 c2,.bool b3,.slice p3 n3 c3,.int .i64 d.left,.int .i64 d.right]:List Value)[j]?=some v->vs[i*8+j]?=some v) /\
 N_ V (.agg #[.bool b1,.slice p1 n1 c1,.bool b2,.slice p2 n2 c2,.bool b3,.slice p3 n3 c3]) d.ln
theorem NR.le {V V':View}{vs:List Value}{l:List Nd}(h:NR V vs l)(hl:V.Le V'):NR V' vs l:=fun i d a=>by
 obtain ⟨b,c,e,f,g,j,k,m,n,o,p,q,r,s⟩:=h i d a;exact ⟨b,c,e,f,g,j,k,m,n,o,p,q,r,s.le hl⟩
structure NS (V:View) (p:OA) (n c:Nat) (l:List Nd):Prop where
 len:n=l.length
 cap:n<=c
 row:∃vs,V.sl p vs/\NR V vs l
 GW:p.isNone=true->c=0
theorem NS.le {V V':View}{p:OA}{n c:Nat}{l:List Nd}(h:NS V p n c l)(hl:V.Le V'):NS V' p n c l:=by
 obtain ⟨a,b,⟨d,e,f⟩,g⟩:=h;exact ⟨a,b,⟨d,hl.sl e,f.le hl⟩,g⟩
theorem NS.Tc {V:View}{p:OA}{n c:Nat}{l:List Nd}(h:NS V p n c l)(hn:n≠0):p.isSome=true:=by
 cases p with
 | none=>have:=h.GW rfl;have:=h.cap;omega
 | some a=>rfl
def lC (l:List Bool):List Value:=l.map .bool
theorem Gc {l:List Bool}{i:Nat}{b:Bool}(h:l[i]?=some b):(lC l)[i]?=some (.bool b):=by simp [lC,h]
theorem NS.rd {V:View}{p:OA}{n c:Nat}{l:List Nd}(h:NS V p n c l){k:Nat}{d:Nd}(hd:l[k]?=some d) :
  ∃(b1:Bool)(p1:OA)(n1 c1:Nat)(b2:Bool)(p2:OA)(n2 c2:Nat)(b3:Bool)(p3:OA)(n3 c3:Nat)(a:Addr),addrAdd p (k*8)=some a /\
   V.at (a.add 0) (.bool b1)/\V.at (a.add 1) (.slice p1 n1 c1)/\V.at (a.add 2) (.bool b2)/\V.at (a.add 3) (.slice p2 n2 c2)/\V.at (a.add 4) (.bool b3)/\V.at (a.add 5) (.slice p3 n3 c3)/\V.at (a.add 6) (.int .i64 d.left)/\V.at (a.add 7) (.int .i64 d.right) /\
   N_ V (.agg #[.bool b1,.slice p1 n1 c1,.bool b2,.slice p2 n2 c2,.bool b3,.slice p3 n3 c3]) d.ln:=by
 obtain ⟨s,b,g⟩:=h.row;obtain ⟨b1,p1,n1,c1,b2,p2,n2,c2,b3,p3,n3,c3,f,i⟩:=g k d hd;obtain ⟨m,rfl,-⟩:=b _ _ (f 0 _ rfl)
 have key:∀j v,([.bool b1,.slice p1 n1 c1,.bool b2,.slice p2 n2 c2,.bool b3,.slice p3 n3 c3,.int .i64 d.left,.int .i64 d.right]:List Value)[j]?=some v->V.at ((m.add (k*8)).add j) v:=by
  intro j v o;obtain ⟨q,e,r⟩:=b _ _ (f j v o);cases e;rw [addadd];exact r
 exact ⟨b1,p1,n1,c1,b2,p2,n2,c2,b3,p3,n3,c3,_,rfl,key 0 _ rfl,key 1 _ rfl,key 2 _ rfl,key 3 _ rfl,key 4 _ rfl,key 5 _ rfl,key 6 _ rfl,key 7 _ rfl,i⟩
theorem DM {l:List Nd}(hb:∀x∈l,Bd x.ln)(hlen:l.length<=65536):∀(f:Nat) (n:Int) (s:RS) {V:View} {rb sb:Nat} {Ol:OA} {nc:Nat},NS V Ol l.length nc l ->
  V.w.heap[rb]?=some (.cells #[.slice Ol l.length nc,.slice (some ⟨sb,0,none⟩) l.length l.length,.int .i64 (s.jM:Int),.bool s.bad] 252 (0,0))->V.X rb ->
  V.w.heap[sb]?=some (.cells (lC s.seen).toArray 4 (0,0))->V.X sb->rb≠sb->s.seen.length=l.length->s.seen.count false<f->s.jM+s.seen.count false<=l.length ->
  Acts prog 136 #[.pointer (some ⟨rb,0,none⟩),.int .i64 n] V fun r V'=>∃p,r=.pointer p/\RT V' p (dB l f n s).1 /\
   V'.w.heap[rb]?=some (.cells #[.slice Ol l.length nc,.slice (some ⟨sb,0,none⟩) l.length l.length,.int .i64 ((dB l f n s).2.jM:Int),.bool (dB l f n s).2.bad] 252 (0,0)) /\
   V'.w.heap[sb]?=some (.cells (lC (dB l f n s).2.seen).toArray 4 (0,0)):=by
 intro f
 induction f with
 | zero=>intro n s V rb sb Ol nc _ _ _ _ _ _ _ h;omega
 | succ f ih=>
  intro n s V rb sb Ol nc m P Q R S T E b7 b8;refine nY rb sb Ol l.length nc l.length l.length s.jM s.bad (lC s.seen) n V _ P Q R S T ⟨fun y V1 l1=>(fZ _).mono ?_,fun y=>⟨fun D V4 l4=>(fZ _).mono ?_,fun D=>⟨fun F V7 l7=>(fZ _).mono ?_,fun F=>⟨fun K b9 c0=>(fZ _).mono ?_,fun K=>?_⟩⟩⟩⟩
  ·rintro r V2 G ⟨p,rfl,d⟩;have W:n=-2:=by simpa using y
   have e:dB l (f+1) n s=(.leaf true,s):=by simp [dB,W]
   rw [y] at d;exact ⟨p,rfl,fun I j g c=>⟨p,rfl,by rw [e];exact d.le j,by rw [e];exact g,by rw [e];exact c⟩⟩
  ·rintro r V2 G ⟨p,rfl,d⟩;have W:n=-1:=by simpa using D
   have e:dB l (f+1) n s=(.leaf false,s):=by simp [dB,W]
   rw [y] at d;exact ⟨p,rfl,fun I j g c=>⟨p,rfl,by rw [e];exact d.le j,by rw [e];exact g,by rw [e];exact c⟩⟩
  ·rintro r V2 G ⟨p,rfl,d⟩;have B:¬n=-2:=by simpa using y
   have C:¬n=-1:=by simpa using D
   have z:n<0:=by simpa using F
   have e:dB l (f+1) n s=(.leaf false,{ s with bad:=true }):=by simp [dB,B,C,z]
   exact ⟨p,rfl,fun I j g c=>⟨p,rfl,by rw [e];exact d.le j,by rw [e];exact g,by rw [e];exact c⟩⟩
  ·rintro r V2 G ⟨p,rfl,d⟩;have B:¬n=-2:=by simpa using y
   have C:¬n=-1:=by simpa using D
   have z:¬n<0:=by simpa using F
   have L:(l.length:Int)<=n:=by simpa using K
   have e:dB l (f+1) n s=(.leaf false,{ s with bad:=true }):=by
    simp only [dB,B,C,z,if_false];rw [List.getElem?_eq_none (by omega)]
   exact ⟨p,rfl,fun I j g c=>⟨p,rfl,by rw [e];exact d.le j,by rw [e];exact g,by rw [e];exact c⟩⟩
  ·have B:¬n=-2:=by simpa using y
   have C:¬n=-1:=by simpa using D
   have z:¬n<0:=by simpa using F
   have L:n<(l.length:Int):=by simpa using K
   clear y D F K;obtain ⟨k,rfl⟩:=Int.eq_ofNat_of_zero_le (Int.not_lt.1 z);have hk:k<l.length:=by omega
   have Y:k<s.seen.length:=by omega
   simp only [Int.toNat_natCast,Nat.mul_one,Nat.zero_add];have i:s.seen[k]?=some s.seen[k]:=List.getElem?_eq_getElem Y;have t:l[k]?=some l[k]:=List.getElem?_eq_getElem hk;refine ⟨⟨by omega,L⟩,s.seen[k],Gc i,fun Z c4 c5=>(fZ _).mono ?_,fun Z=>⟨⟨by omega,L⟩,by simp [lC];omega,m.Tc (by omega),⟨by omega,L⟩,?_⟩⟩
   ·rintro r V2 G ⟨p,rfl,d⟩
    have e:dB l (f+1) (k:Int) s=(.leaf false,{ s with bad:=true }):=by
     simp only [dB,B,C,z,if_false,Int.toNat_natCast];rw [i,Z,t]
    exact ⟨p,rfl,fun I j g c=>⟨p,rfl,by rw [e];exact d.le j,by rw [e];exact g,by rw [e];exact c⟩⟩
   ·obtain ⟨b1,p1,m1,c1,b2,p2,m2,c2,b3,p3,m3,c3,a,ha,a0,a1,a2,a3,a4,a5,a6,a7,hL⟩:=m.rd t;refine ⟨b1,p1,m1,c1,b2,p2,m2,c2,b3,p3,m3,c3,_,_,a,ha,a0,a1,a2,a3,a4,a5,a6,a7,fun ll du=>(zJ (hL.le du) (hb _ (List.getElem_mem hk))).mono ?_⟩;rintro r ny cM ⟨w,rfl,⟨x1,x2,x3,y1,y2,y3,z1,z2,z3,rfl⟩,hw⟩;rw [Z] at i;have J:(lC s.seen).set k (.bool true)=lC (s.seen.set k true):=by simp [lC,List.map_set]
    have M:=count_set i;have w1:i64.wrap ((s.jM:Int)+1)=((s.jM+1:Nat):Int):=by rw [i64w (by omega)];omega
    rw [J,w1];refine ⟨_,_,_,_,_,_,_,_,_,_,rfl,fun A oD dz=>(fZ _).mono ?_,fun A r_ gC a8 a9 g c g3 g4 g5=>?_⟩
    ·rintro r V2 G ⟨p,rfl,d⟩;have A:okL l[k].ln=false:=by simpa using A
     have e:dB l (f+1) (k:Int) s=(.leaf false,⟨s.seen.set k true,s.jM+1,true⟩):=by
      simp only [dB,B,C,z,if_false,Int.toNat_natCast];rw [i,t];simp [A]
     exact ⟨p,rfl,fun I j g c=>⟨p,rfl,by rw [e];exact d.le j,by rw [e];exact g,by rw [e];exact c⟩⟩
    ·have A:okL l[k].ln=true:=by simpa using A
     have lv:V.Le r_:=du.trans (cM.trans gC);have N:∀(U:View)(u v:Nat),U.H u->U.H v->(U.lend [u,v]).X u/\(U.lend [u,v]).X v:=fun U u v hu hv=>⟨⟨by simp,hu⟩,⟨by simp,hv⟩⟩;have i1:=ih l[k].left ⟨s.seen.set k true,s.jM+1,s.bad⟩ (V:=r_.lend [a8,a9]) (m.le lv) g (N _ _ _ c g4).1 g3 (N _ _ _ c g4).2 g5 (by simp [E]) (by dsimp only;omega) (by dsimp only;omega);have hm:=pj l f l[k].left ⟨s.seen.set k true,s.jM+1,s.bad⟩;have b0:=tE l f l[k].left ⟨s.seen.set k true,s.jM+1,s.bad⟩
     have e:dB l (f+1) (k:Int) s=(.node l[k].ln (dB l f l[k].left ⟨s.seen.set k true,s.jM+1,s.bad⟩).1 (dB l f l[k].right (dB l f l[k].left ⟨s.seen.set k true,s.jM+1,s.bad⟩).2).1,(dB l f l[k].right (dB l f l[k].left ⟨s.seen.set k true,s.jM+1,s.bad⟩).2).2):=by
      simp only [dB,B,C,z,if_false,Int.toNat_natCast];rw [i,t];simp [A]
     rw [e];clear e;dsimp only;generalize dB l f l[k].left ⟨s.seen.set k true,s.jM+1,s.bad⟩=q1 at *;obtain ⟨t1,s1⟩:=q1;dsimp only at i1 hm b0 ⊢;refine i1.mono ?_;rintro r wI kq ⟨p,rfl,d,e1,e2⟩;refine ⟨p,rfl,_,_,_,_,_,e1,_,e2,fun O je Oe b4 f1 f2 f3 f4 f5=>?_⟩;have Wr:r_.Le O:=fun b o h=>je b o (kq b o h);have i2:=ih l[k].right s1 (V:=O.lend [Oe,b4]) (m.le (lv.trans Wr)) f1 (N _ _ _ f2 f4).1 f3 (N _ _ _ f2 f4).2 f5 (by rw [hm.2];simp [E]) (by omega) (by omega);generalize dB l f l[k].right s1=q2 at *;obtain ⟨t2,s2⟩:=q2;dsimp only at i2 ⊢;refine i2.mono ?_;rintro r Kg yR ⟨q,rfl,hq,e3,e4⟩;refine ⟨q,rfl,_,_,_,_,_,e3,_,e4,fun HA b5=>?_⟩;have PG:O.Le Kg:=fun b o h=>yR b o h;have Nx:Kg.Le HA:=fun b o h=>b5 b o h;have lw:ny.Le HA:=gC.trans (Wr.trans (PG.trans Nx));have Ti:wI.Le O:=fun b o h=>je b o h;refine (Gg ((hw A).le lw) (d.le (Ti.trans (PG.trans Nx))) (hq.le Nx)).mono ?_;rintro r MH c6 ⟨u,rfl,hu⟩;exact ⟨u,rfl,fun Ou b6 g c=>⟨u,rfl,hu.le b6,g,c⟩⟩
theorem HX {V:View}{l:List Nd}(hb:∀x∈l,Bd x.ln){p:OA}{n c:Nat}(root:Int)(h:NS V p n c l) :
  Acts prog 93 #[.agg #[.int .i64 root,.slice p n c]] V fun r V'=>(ofT l root=none->∃q,r=.tuple #[.pointer q,.bool false])/\(∀t,ofT l root=some t->∃q,r=.tuple #[.pointer q,.bool true]/\RT V' q t):=by
 have v:=h.len;subst v;refine Hp root p l.length c V _ ⟨fun a J K=>?_,fun a=>⟨by omega,Int.le_refl _,?_,fun V2 w j k u y m z A=>?_⟩⟩
 ·have a:65536<l.length:=by simp at a;omega
  have e:ofT l root=none:=by unfold ofT;rw [if_pos a]
  exact ⟨fun _=>⟨_,rfl⟩,fun t d=>by rw [e] at d;cases d⟩
 ·have a:¬65536<l.length:=by simp at a;omega
  omega
 ·have a:¬65536<l.length:=by simp at a;omega
  simp only [Int.toNat_natCast] at u m ⊢;have B:List.replicate l.length (Value.bool false)=lC (List.replicate l.length false):=by simp [lC]
  rw [B] at m;have C:(List.replicate l.length false).count false=l.length:=by simp
  refine (DM hb (by omega) (l.length+1) root ⟨List.replicate l.length false,0,false⟩ (V:=V2.lend [j,k]) (h.le w) u ⟨by simp,y⟩ m ⟨by simp,z⟩ A (by simp) (by dsimp only;omega) (by dsimp only;omega)).mono ?_;rintro r D L ⟨q,rfl,E,F,G⟩
  have g:ofT l root=if (dB l (l.length+1) root ⟨List.replicate l.length false,0,false⟩).2.bad=true\/(dB l (l.length+1) root ⟨List.replicate l.length false,0,false⟩).2.jM≠l.length then none else some (dB l (l.length+1) root ⟨List.replicate l.length false,0,false⟩).1:=by
   unfold ofT;rw [if_neg a]
  rw [g];clear g;generalize dB l (l.length+1) root ⟨List.replicate l.length false,0,false⟩=r0 at *;obtain ⟨t,s⟩:=r0;refine ⟨q,rfl,_,_,_,_,_,F,_,G,fun i M N=>?_,fun i=>⟨fun f O P=>?_,fun f H I=>?_⟩⟩
  ·rw [if_pos (.inl i)];exact ⟨fun _=>⟨_,rfl⟩,fun t d=>by cases d⟩
  ·have f:s.jM≠l.length:=by simp at f;omega
   rw [if_pos (.inr f)];exact ⟨fun _=>⟨_,rfl⟩,fun t d=>by cases d⟩
  ·have f:s.jM=l.length:=by simp at f;omega
   dsimp only at i ⊢;rw [if_neg (by rw [i,f];simp)];exact ⟨fun e=>(by cases e),fun t1 d=>by cases d;exact ⟨q,rfl,RT.le (V:=D) (V':=H) (fun b o h=>I b o h) E⟩⟩
theorem Acts.P0 {f:FuncId}{args:Array Value}{V:View}{R R':Value->View->Prop}(h:Acts prog f args V R)(hR:∀r V',V.Le V'->(∀b,V'.H b->V.H b)->R r V'->R' r V'):Acts prog f args V R':=
 ⟨h.1,h.2.mono fun _ c ⟨r,he,a,d⟩=>⟨r,he,a,hR r _ (V.Mf c a) (fun _ e=>e) d⟩⟩
theorem vb_ne {vs:List Value}{n b:Nat}(h:vs≠[]):vb vs n b=b:=by cases vs with|nil=>exact absurd rfl h|cons v r=>rfl
theorem NR.push {V:View}{vs sp:List Value}{l:List Nd}(h:NR V vs l)(hl:l.length*8<=vs.length){ln:L3}{x y:Int}{b1:Bool}{p1:OA}{n1 c1:Nat}{b2:Bool}{p2:OA}{n2 c2:Nat}{b3:Bool}{p3:OA}{n3 c3:Nat}
  (hL:RL V (.agg #[.bool b1,.slice p1 n1 c1,.bool b2,.slice p2 n2 c2,.bool b3,.slice p3 n3 c3]) ln.1 ln.2.1 ln.2.2) :
  NR V (vs.take (l.length*8)++[.bool b1,.slice p1 n1 c1,.bool b2,.slice p2 n2 c2,.bool b3,.slice p3 n3 c3,.int .i64 x,.int .i64 y]++sp) (l++[⟨ln,x,y⟩]):=by
 intro i d b;rcases Nat.lt_or_ge i l.length with e|e
 ·rw [List.getElem?_append_left e] at b;obtain ⟨f,s,g,k,m,t,u,n,o,w,z,p,A,B⟩:=h i d b;refine ⟨f,s,g,k,m,t,u,n,o,w,z,p,fun j v c=>?_,B⟩
  have a:j<8:=by
   rcases Nat.lt_or_ge j 8 with a|a
   ·exact a
   ·rw [List.getElem?_eq_none (by simpa using a)] at c;cases c
  have:=A j v c;rw [List.append_assoc,List.getElem?_append_left (by rw [List.length_take];omega),List.getElem?_take,if_pos (by omega)];exact this
 ·rw [List.getElem?_append_right e] at b
  have q:i=l.length:=by
   rcases Nat.lt_or_ge (i-l.length) 1 with r|r
   ·omega
   ·rw [List.getElem?_eq_none (by simpa using r)] at b;cases b
  subst q;simp only [Nat.sub_self,List.getElem?_cons_zero,Option.some.injEq] at b;subst b;refine ⟨b1,p1,n1,c1,b2,p2,n2,c2,b3,p3,n3,c3,fun j v c=>?_,.inl hL⟩
  have a:j<8:=by
   rcases Nat.lt_or_ge j 8 with a|a
   ·exact a
   ·rw [List.getElem?_eq_none (by simpa using a)] at c;cases c
  rw [List.append_assoc,List.getElem?_append_right (by rw [List.length_take];omega),List.length_take,Nat.min_eq_left hl,Nat.add_sub_cancel_left,List.getElem?_append_left (by simpa using a)];exact c
theorem NR.T5 {V:View}{vs:List Value}{l:List Nd}(h:NR V vs l){k:Nat}{d:Nd}(hd:l[k]?=some d){x:Int}:NR V (vs.set (k*8+6) (.int .i64 x)) (l.set k ⟨d.ln,x,d.right⟩):=by
 intro i C b;rw [List.getElem?_set] at b;split at b
 ·rename_i e;subst e;split at b
  ·cases b;obtain ⟨g,m,o,p,q,r,s,t,u,w,y,z,f,A⟩:=h k d hd;refine ⟨g,m,o,p,q,r,s,t,u,w,y,z,fun j v a=>?_,A⟩;rw [List.getElem?_set];by_cases c:j=6
   ·subst c;have:=f 6 _ rfl
    have B:k*8+6<vs.length:=by
     rcases Nat.lt_or_ge (k*8+6) vs.length with h|h
     ·exact h
     ·rw [List.getElem?_eq_none h] at this;cases this
    rw [if_pos rfl,if_pos B];exact a
   ·rw [if_neg (by omega)];refine f j v ?_
    match j,c,a with
    | 0,_,a=>exact a
    | 1,_,a=>exact a
    | 2,_,a=>exact a
    | 3,_,a=>exact a
    | 4,_,a=>exact a
    | 5,_,a=>exact a
    | 6,c,_=>exact absurd rfl c
    | 7,_,a=>exact a
    | n+8,_,a=>exact a
  ·cases b
 ·rename_i e;obtain ⟨g,m,o,p,q,r,s,t,u,w,y,z,f,A⟩:=h i C b;refine ⟨g,m,o,p,q,r,s,t,u,w,y,z,fun j v a=>?_,A⟩
  have c:j<8:=by
   rcases Nat.lt_or_ge j 8 with c|c
   ·exact c
   ·rw [List.getElem?_eq_none (by simpa using c)] at a;cases a
  rw [List.getElem?_set_ne (by omega)];exact f j v a
theorem NR.T6 {V:View}{vs:List Value}{l:List Nd}(h:NR V vs l){k:Nat}{d:Nd}(hd:l[k]?=some d){x:Int}:NR V (vs.set (k*8+7) (.int .i64 x)) (l.set k ⟨d.ln,d.left,x⟩):=by
 intro i C b;rw [List.getElem?_set] at b;split at b
 ·rename_i e;subst e;split at b
  ·cases b;obtain ⟨g,m,o,p,q,r,s,t,u,w,y,z,f,A⟩:=h k d hd;refine ⟨g,m,o,p,q,r,s,t,u,w,y,z,fun j v a=>?_,A⟩;rw [List.getElem?_set];by_cases c:j=7
   ·subst c;have:=f 7 _ rfl
    have B:k*8+7<vs.length:=by
     rcases Nat.lt_or_ge (k*8+7) vs.length with h|h
     ·exact h
     ·rw [List.getElem?_eq_none h] at this;cases this
    rw [if_pos rfl,if_pos B];exact a
   ·rw [if_neg (by omega)];refine f j v ?_
    match j,c,a with
    | 0,_,a=>exact a
    | 1,_,a=>exact a
    | 2,_,a=>exact a
    | 3,_,a=>exact a
    | 4,_,a=>exact a
    | 5,_,a=>exact a
    | 6,_,a=>exact a
    | 7,c,_=>exact absurd rfl c
    | n+8,_,a=>exact a
  ·cases b
 ·rename_i e;obtain ⟨g,m,o,p,q,r,s,t,u,w,y,z,f,A⟩:=h i C b;refine ⟨g,m,o,p,q,r,s,t,u,w,y,z,fun j v a=>?_,A⟩
  have c:j<8:=by
   rcases Nat.lt_or_ge j 8 with c|c
   ·exact c
   ·rw [List.getElem?_eq_none (by simpa using c)] at a;cases a
  rw [List.getElem?_set_ne (by omega)];exact f j v a
theorem NR.kids {V:View}{vs:List Value}{l r:List Nd}{ln:L3}{u v x y:Int}(h:NR V vs (l++⟨ln,u,v⟩::r)):NR V ((vs.set (l.length*8+6) (.int .i64 x)).set (l.length*8+7) (.int .i64 y)) (l++⟨ln,x,y⟩::r):=by
 have c:(l++(⟨ln,u,v⟩:Nd)::r)[l.length]?=some ⟨ln,u,v⟩:=by simp
 have a:=h.T5 c (x:=x);have d:(l++(⟨ln,u,v⟩:Nd)::r).set l.length ⟨ln,x,v⟩=l++⟨ln,x,v⟩::r:=by simp
 rw [d] at a;have e:(l++(⟨ln,x,v⟩:Nd)::r)[l.length]?=some ⟨ln,x,v⟩:=by simp
 have b:=a.T6 e (x:=y);have f:(l++(⟨ln,x,v⟩:Nd)::r).set l.length ⟨ln,x,y⟩=l++⟨ln,x,y⟩::r:=by simp
 rw [f] at b;exact b
theorem NR.take {V:View}{vs:List Value}{l:List Nd}(h:NR V vs l):NR V (vs.take (l.length*8)) l:=by
 intro i d b;obtain ⟨e,f,g,k,m,n,o,p,q,r,s,t,u,w⟩:=h i d b;refine ⟨e,f,g,k,m,n,o,p,q,r,s,t,fun j v c=>?_,w⟩
 have a:j<8:=by
  rcases Nat.lt_or_ge j 8 with a|a
  ·exact a
  ·rw [List.getElem?_eq_none (by simpa using a)] at c;cases c
 have x:i<l.length:=by
  rcases Nat.lt_or_ge i l.length with h|h
  ·exact h
  ·rw [List.getElem?_eq_none h] at b;cases b
 rw [List.getElem?_take,if_pos (by omega)];exact u j v c
theorem NS.ofRow {V:View}{b c:Nat}{vm:List Value}{l:List Nd}{ty:TypeId}(hb:vm≠[]->V.aS b (.cells vm.toArray ty (0,0)))(hc:l.length<=c)(hr:NR V vm l):NS V (mA b c) l.length c l:=by
 refine ⟨rfl,hc,⟨_,?_,hr.take⟩,?_⟩
 ·intro i v a;rw [List.getElem?_take] at a;split at a
  ·rename_i f;have d:vm≠[]:=fun e=>by rw [e] at a;simp at a
   refine ⟨⟨b,0,none⟩,by unfold mA;rw [if_neg (by omega)],?_⟩;rw [add_zero'];exact blk_at (hb d) a
  ·cases a
 ·intro e;unfold mA at e;split at e
  ·assumption
  ·cases e
def AT (V:View)(v:Value)(root:Int)(l:List Nd):Prop:=∃q n c,v=.agg #[.int .i64 root,.slice q n c]/\NS V q n c l
theorem AT.le {V V':View}{v:Value}{root:Int}{l:List Nd}(h:AT V v root l)(hl:V.Le V'):AT V' v root l:=by
 obtain ⟨q,n,c,e,h⟩:=h;exact ⟨q,n,c,e,h.le hl⟩
theorem c_bsp_Of' {V:View}{l:List Nd}(hb:∀x∈l,Bd x.ln){v:Value}{root:Int}(h:AT V v root l) :
  Acts prog 93 #[v] V fun r V'=>∃q,r=.tuple #[.pointer q,.bool (ofT l root).isSome]/\∀t,ofT l root=some t->RT V' q t:=by
 obtain ⟨p,n,c,rfl,h⟩:=h;refine (HX hb root h).mono ?_;rintro r V' _ ⟨b,d⟩
 cases e:ofT l root with
 | none=>obtain ⟨q,rfl⟩:=b e;exact ⟨q,rfl,fun t a=>by cases a⟩
 | some t=>obtain ⟨q,rfl,f⟩:=d t e;exact ⟨q,rfl,fun g a=>by cases a;exact f⟩
theorem RQ.ofNat {V:View}{p:OA}{n c x:Nat}(h:RN V p n c x){b:Bool}(hb:b=decide ((x:Int)<0)):RQ V (.agg #[.bool b,.slice p n c,.slice none 0 0]) ((x:Int):Rat):=
 nj (z:=(x:Int)) (d:=1) rfl rfl h RD.nil hb
theorem RQ.int {V:View}{q:Rat}{b:Bool}{p:OA}{n c:Nat}{p':OA}{n' c':Nat}(h:RQ V (.agg #[.bool b,.slice p n c,.slice p' n' c']) q):RI V (.agg #[.bool b,.slice p n c]) q.num:=by
 obtain ⟨d,f,g,i,j,k,e,a,l⟩:=h;cases e;exact ⟨_,_,_,rfl,a⟩
theorem RQ.den {V:View}{q:Rat}{b:Bool}{p:OA}{n c:Nat}{p':OA}{n' c':Nat}(h:RQ V (.agg #[.bool b,.slice p n c,.slice p' n' c']) q):RD V p' n' c' (su q.den):=by
 obtain ⟨d,f,g,i,j,k,e,l,a⟩:=h;cases e;exact a
def AK (px py qx qy:Rat):Rat×Rat×Rat:=
 let a:=-(qy-py);let b:=qx-px;let c:=-(a*px+b*py)
 let f:Rat:=(((a.den*b.den*c.den:Nat):Int):Rat)
 (a*f,b*f,c*f)
theorem N5 {n k:Nat}(h:n<2^k)(hk:0<k):Sz k (((n:Nat):Int):Rat):=by
 refine ⟨?_,?_⟩
 ·show ((n:Nat):Int).natAbs<_;simpa using h
 ·show 1<2^k;exact Nat.one_lt_two_pow (by omega)
theorem sk {V:View}{u w:Value}{px py qx qy:Rat}(hp:RP V u px py)(hq:RP V w qx qy){k:Nat}(s1:Sz k px)(s2:Sz k py)(s3:Sz k qx)(s4:Sz k qy)(hk1:1<=k)(hk:64*k+64<274877906944) :
  Acts prog 28 #[u,w] V fun r V'=>((AK px py qx qy).1.num=0/\(AK px py qx qy).2.1.num=0->∃l,r=.tuple #[l,.bool false]/\RL V' l 0 0 0) /\
   (¬((AK px py qx qy).1.num=0/\(AK px py qx qy).2.1.num=0)->∃l,r=.tuple #[l,.bool true] /\
    RL V' l ((AK px py qx qy).1.num / (iM (AK px py qx qy).1.num (AK px py qx qy).2.1.num (AK px py qx qy).2.2.num:Int)) ((AK px py qx qy).2.1.num / (iM (AK px py qx qy).1.num (AK px py qx qy).2.1.num (AK px py qx qy).2.2.num:Int)) ((AK px py qx qy).2.2.num / (iM (AK px py qx qy).1.num (AK px py qx qy).2.1.num (AK px py qx qy).2.2.num:Int))):=by
 have L:=hp;have N:=hq;obtain ⟨p1,n1,c1,p2,n2,c2,p3,n3,c3,p4,n4,c4,rfl,i,j⟩:=hp;obtain ⟨q1,m1,e1,q2,m2,e2,q3,m3,e3,q4,m4,e4,rfl,-,-⟩:=hq;refine rj _ p1 n1 c1 p2 n2 c2 _ p3 n3 c3 p4 n4 c4 _ q1 m1 e1 q2 m2 e2 _ q3 m3 e3 q4 m4 e4 V _ fun V1 O=>(BE (N.le O) (L.le O) s3 s4 s1 s2 hk1 (by omega)).mono ?_;rintro r V2 l2 ⟨a1,a2,a3,a4,a5,a6,a7,a8,a9,b8,b9,c0,rfl,m,hd⟩;have n:Sz (k+k+1) (qx-px):=s3.sub s1;have td:Sz (k+k+1) (qy-py):=s4.sub s2;have x:=O.trans l2;refine ⟨_,_,_,_,_,_,_,_,_,_,_,_,_,_,rfl,fun V3 y=>(mF (qy-py) (by obtain ⟨_,_,_,_,_,_,e,P,h2⟩:=hd.le y;cases e;exact P) (RQ.den (hd.le y))).mono ?_⟩;rintro r V4 Q t;obtain ⟨b1,b2,b3,b4,b5,b6,rfl⟩:=t.shape;have o:=td.neg;have S3:AK px py qx qy=(-(qy-py)*(((((-(qy-py)).den*(qx-px).den*(-(-(qy-py)*px+(qx-px)*py)).den:Nat):Int):Rat)),(qx-px)*(((((-(qy-py)).den*(qx-px).den*(-(-(qy-py)*px+(qx-px)*py)).den:Nat):Int):Rat)),(-(-(qy-py)*px+(qx-px)*py))*(((((-(qy-py)).den*(qx-px).den*(-(-(qy-py)*px+(qx-px)*py)).den:Nat):Int):Rat))):=rfl;rw [S3];generalize -(qy-py)=A at *;generalize qx-px=B at *
 replace m:=m.le (y.trans Q)
 replace i:=i.le (x.trans (y.trans Q))
 replace j:=j.le (x.trans (y.trans Q))
 refine ⟨_,_,_,_,_,_,_,rfl,fun V5 z=>(aG (t.le z) (i.le z) o s1 (by omega)).mono ?_⟩;rintro r V6 R g6;obtain ⟨d1,d2,d3,d4,d5,d6,rfl⟩:=g6.shape;refine ⟨_,_,_,_,_,_,_,rfl,fun V7 F=>(aG (m.le (z.trans (R.trans F))) (j.le (z.trans (R.trans F))) n s2 (by omega)).mono ?_⟩;rintro r V8 l8 g8;obtain ⟨f1,f2,f3,f4,f5,f6,rfl⟩:=g8.shape;refine ⟨_,_,_,_,_,_,_,rfl,fun V9 S=>(cK (g6.le (F.trans (l8.trans S))) (g8.le S) (o.mul s1) (n.mul s2) (by omega)).mono ?_⟩;rintro r c5 T p;have G:=((o.mul s1).add (n.mul s2)).neg;obtain ⟨i1,i2,i3,i4,i5,i6,rfl⟩:=p.shape;refine ⟨_,_,_,_,_,_,_,rfl,fun c6 q=>(mF (A*px+B*py) (by obtain ⟨_,_,_,_,_,_,e,P,h2⟩:=p.le q;cases e;exact P) (RQ.den (p.le q))).mono ?_⟩;rintro r c7 U W;generalize -(A*px+B*py)=C at *;obtain ⟨j1,j2,j3,j4,j5,j6,rfl⟩:=W.shape;have Ch:=z.trans (R.trans (F.trans (l8.trans (S.trans (T.trans (q.trans U))))))
 replace t:=t.le Ch
 replace m:=m.le Ch
 refine ⟨_,_,_,_,_,_,_,rfl,fun c8 f=>(cQ A _ (RQ.den (t.le f))).mono ?_⟩;rintro r c9 X ⟨k1,k2,k3,rfl,Y⟩;refine ⟨_,_,_,rfl,fun d0 H=>(cQ B _ (RQ.den (m.le (f.trans (X.trans H))))).mono ?_⟩;rintro r ll Z ⟨k4,k5,k6,rfl,a0⟩;obtain ⟨-,da,-⟩:=ck o;obtain ⟨-,db,-⟩:=ck n;obtain ⟨-,dc,-⟩:=ck G;refine ⟨_,_,_,rfl,fun ny I=>(cj (Y.le (H.trans (Z.trans I))) (a0.le I) (by omega)).mono ?_⟩;rintro r oD dz ⟨k7,k8,k9,rfl,D⟩;rw [ab,ab] at D;refine ⟨_,_,_,rfl,fun rZ dY=>(cQ C _ (RQ.den (W.le (f.trans (X.trans (H.trans (Z.trans (I.trans (dz.trans dY))))))))).mono ?_⟩;rintro r Bk iO ⟨d7,d8,d9,rfl,b0⟩;have e0:=ib (a:=A.den) (b:=B.den);refine ⟨_,_,_,rfl,fun r_ gC=>(cj (D.le (dY.trans (iO.trans gC))) (b0.le gC) (by omega)).mono ?_⟩;rintro r wI kq ⟨e5,e6,e7,rfl,E⟩;rw [ab,ab] at E;have v:Sz (k+k+1+(k+k+1)+(k+k+1+k+1+(k+k+1+k+1)+1)) (((A.den*B.den*C.den:Nat):Int):Rat):=N5 (bz (bz o.2 n.2) G.2) (by omega);generalize A.den*B.den*C.den=M at *;refine ⟨_,_,_,rfl,fun xZ je=>(qm (E.le je)).mono ?_⟩;rintro r Kg yR ⟨e8,e9,f0,rfl,b7⟩;have hf:=RQ.ofNat b7 rfl;have Nv:=f.trans (X.trans (H.trans (Z.trans (I.trans (dz.trans (dY.trans (iO.trans (gC.trans (kq.trans (je.trans yR))))))))));refine ⟨_,_,_,_,rfl,fun HA c=>(aG (t.le (Nv.trans c)) (hf.le c) o v (by omega)).mono ?_⟩;rintro r MH g Vo;obtain ⟨o1,o2,o3,o4,o5,o6,rfl⟩:=Vo.shape;refine ⟨_,_,_,_,_,_,_,rfl,fun Ou d=>(aG (m.le (Nv.trans (c.trans (g.trans d)))) (hf.le (c.trans (g.trans d))) n v (by omega)).mono ?_⟩;rintro r Ov IL Vp;obtain ⟨o7,o8,o9,f7,f8,f9,rfl⟩:=Vp.shape;refine ⟨_,_,_,_,_,_,_,rfl,fun Ru J=>(aG (W.le (Nv.trans (c.trans (g.trans (d.trans (IL.trans J)))))) (hf.le (c.trans (g.trans (d.trans (IL.trans J))))) G v (by omega)).mono ?_⟩;rintro r MI DE oS;obtain ⟨t1,t2,t3,t4,t5,t6,rfl⟩:=oS.shape;refine ⟨_,_,_,_,_,_,_,rfl,fun UK GN=>(wP (RQ.int (Vo.le (d.trans (IL.trans (J.trans (DE.trans GN)))))) (RQ.int (Vp.le (J.trans (DE.trans GN)))) (RQ.int (oS.le GN)) (Nat.le_trans (ck (o.mul v)).1 (by omega)) (Nat.le_trans (ck (n.mul v)).1 (by omega)) (Nat.le_trans (ck (G.mul v)).1 (by omega))).mono ?_⟩;rintro r UL Ny ⟨z1,z2⟩;by_cases K:(A*((M:Int):Rat)).num=0/\(B*((M:Int):Rat)).num=0
 ·obtain ⟨l,rfl,y1,y2,y3,y4,y5,y6,y7,y8,y9,rfl,w1,w2,w3⟩:=z1 K;exact ⟨_,_,_,_,_,_,_,_,_,_,_,_,_,rfl,fun Rv s=>⟨fun _=>⟨_,rfl,_,_,_,_,_,_,_,_,_,rfl,w1.le s,w2.le s,w3.le s⟩,fun h=>absurd K h⟩⟩
 ·obtain ⟨l,rfl,y1,y2,y3,y4,y5,y6,y7,y8,y9,rfl,w1,w2,w3⟩:=z2 K;exact ⟨_,_,_,_,_,_,_,_,_,_,_,_,_,rfl,fun Rv s=>⟨fun h=>absurd h K,fun _=>⟨_,rfl,_,_,_,_,_,_,_,_,_,rfl,w1.le s,w2.le s,w3.le s⟩⟩⟩
theorem LA (x y u w:Int):AK (x:Rat) (y:Rat) ((x:Rat)+((1:Int):Rat)*(u:Rat)) ((y:Rat)+((1:Int):Rat)*(w:Rat))=(((-w:Int):Rat),((u:Int):Rat),((w*x-u*y:Int):Rat)):=by
 have a:(x:Rat)+((1:Int):Rat)*(u:Rat)=((x+u:Int):Rat):=by rw [←Rat.intCast_mul,←Rat.intCast_add,Int.one_mul]
 have b:(y:Rat)+((1:Int):Rat)*(w:Rat)=((y+w:Int):Rat):=by rw [←Rat.intCast_mul,←Rat.intCast_add,Int.one_mul]
 rw [a,b];have c:-(((y+w:Int):Rat)-(y:Rat))=((-w:Int):Rat):=by rw [←Rat.intCast_sub,←Rat.intCast_neg];congr 1;omega
 have d:((x+u:Int):Rat)-(x:Rat)=((u:Int):Rat):=by rw [←Rat.intCast_sub];congr 1;omega
 have e:-(((-w:Int):Rat)*(x:Rat)+((u:Int):Rat)*(y:Rat))=((w*x-u*y:Int):Rat):=by
  rw [←Rat.intCast_mul,←Rat.intCast_mul,←Rat.intCast_add,←Rat.intCast_neg];congr 1;rw [Int.neg_mul];omega
 have f:(((((-w:Int):Rat).den*((u:Int):Rat).den*((w*x-u*y:Int):Rat).den:Nat):Int):Rat)=1:=rfl;unfold AK;dsimp only;rw [c,d,e,f,Rat.mul_one,Rat.mul_one,Rat.mul_one]
def Ee (a b c:Int):L3:=(a / (iM a b c:Int),b / (iM a b c:Int),c / (iM a b c:Int))
def small (z:Int)(k:Nat):Bool:=decide (z.natAbs<=k)
theorem IP:∀i:Fin 9,∀j:Fin 9,∀k:Fin 65,(i.1=4/\j.1=4)\/(okL (Ee ((i.1:Int)-4) ((j.1:Int)-4) ((k.1:Int)-32))&&small (Ee ((i.1:Int)-4) ((j.1:Int)-4) ((k.1:Int)-32)).1 32&&small (Ee ((i.1:Int)-4) ((j.1:Int)-4) ((k.1:Int)-32)).2.1 32&&small (Ee ((i.1:Int)-4) ((j.1:Int)-4) ((k.1:Int)-32)).2.2 32)=true:=by decide +kernel
theorem MP (k:Nat)(hk:6<=k){z:Int}(h:z.natAbs<=32):z.natAbs<2^k:=Nat.lt_of_le_of_lt h (Nat.lt_of_lt_of_le (by decide:32<2^6) (Nat.pow_le_pow_right (by decide) hk))
theorem OC (k:Nat)(hk:6<=k){x:L3}(h1:x.1.natAbs<=32)(h2:x.2.1.natAbs<=32)(h3:x.2.2.natAbs<=32):x.1.natAbs<2^k/\x.2.1.natAbs<2^k/\x.2.2.natAbs<2^k:=⟨MP k hk h1,MP k hk h2,MP k hk h3⟩
theorem K6 {a b c:Int}(h1:-4<=a/\a<=4)(h2:-4<=b/\b<=4)(h3:-32<=c/\c<=32)(h:¬(a=0/\b=0)):okL (Ee a b c)=true/\Bd (Ee a b c):=by
 have:=IP ⟨(a+4).toNat,by omega⟩ ⟨(b+4).toNat,by omega⟩ ⟨(c+32).toNat,by omega⟩;dsimp only at this;rw [show (((a+4).toNat:Nat):Int)-4=a from by omega,show (((b+4).toNat:Nat):Int)-4=b from by omega,show (((c+32).toNat:Nat):Int)-32=c from by omega] at this;rcases this with d|d
 ·omega
 ·simp only [Bool.and_eq_true,small,decide_eq_true_eq] at d;exact ⟨d.1.1.1,OC 1000 (by decide) d.1.1.2 d.1.2 d.2⟩
theorem IZ {x y:Int}(h1:-4<=x/\x<=4)(h2:-4<=y/\y<=4):-16<=x*y/\x*y<=16:=by
 have:(x*y).natAbs<=4*4:=by rw [Int.natAbs_mul];exact Nat.mul_le_mul (by omega) (by omega)
 omega
theorem pZ {V:View}{v:Value}{a b c:Int}(h:RL V v a b c):∃(b1:Bool)(p1:OA)(n1 c1:Nat)(b2:Bool)(p2:OA)(n2 c2:Nat)(b3:Bool)(p3:OA)(n3 c3:Nat),v=.agg #[.bool b1,.slice p1 n1 c1,.bool b2,.slice p2 n2 c2,.bool b3,.slice p3 n3 c3]:=by
 obtain ⟨p,n,s,d,f,g,q,m,e,rfl,-⟩:=h;exact ⟨_,_,_,_,_,_,_,_,_,_,_,_,rfl⟩
def Kf (V:View)(p:OA)(n:Nat):Prop:=∀i,i<n->∃(a:Addr)(x:Int),addrAdd p (i*1)=some a/\V.at a (.int .i64 x)
theorem Kf.le {V V':View}{p:OA}{n:Nat}(h:Kf V p n)(l:V.Le V'):Kf V' p n:=fun i b=>by
 obtain ⟨a,x,e,c⟩:=h i b;exact ⟨a,x,e,l.at c⟩
def wH (V:View)(tb:Nat)(p:OA)(n c:Nat)(at_:Int):Prop:=V.w.heap[tb]?=some (.cells #[.slice p n c,.int .i64 at_] 102 (0,0))
theorem tU {V:View}{tb:Nat}{p:OA}{n c:Nat}{at_:Int}(k:Int)(hr:Kf V p n)(hn:n<=400)(hw:wH V tb p n c at_)(hx:V.X tb)(h0:0<=at_)(hk:0<k)(hk2:k<=1000) :
  Acts prog 37 #[.pointer (some ⟨tb,0,none⟩),.int .i64 k] V fun r V'=>∃x at',r=.int .i64 x/\0<=x/\x<k/\0<=at'/\wH V' tb p n c at':=by
 refine ow tb p n c at_ k V _ hw hx ⟨fun g m o e=>⟨0,at_,rfl,by omega,hk,h0,e⟩,fun g=>?_⟩;have g:at_<n:=by have:=of_decide_eq_false g;omega
 obtain ⟨i,rfl⟩:∃i:Nat,at_=i:=⟨at_.toNat,by omega⟩;obtain ⟨a,x,d,f⟩:=hr i (by omega)
 have h:p.isSome=true:=by
  cases p with
  | none=>simp [addrAdd] at d
  | some a=>rfl
 have q:(x.tmod k).natAbs<k.natAbs:=by rw [Int.natAbs_tmod];exact Nat.mod_lt _ (by omega)
 have j:i64.wrap ((i:Int)+1)=((i+1:Nat):Int):=by rw [i64w (by omega)];omega
 rw [Int.toNat_natCast,j];have l:i64.wrap (x.tmod k+k)=x.tmod k+k:=i64w (by omega);refine ⟨h,⟨by omega,by omega⟩,x,⟨a,d,f⟩,by omega,fun b V2 s e=>⟨x.tmod k+k,_,by rw [l],?_,?_,?_,e⟩,fun b t u e=>⟨_,_,rfl,?_,?_,?_,e⟩⟩
 ·omega
 ·have:=of_decide_eq_true b;omega
 ·omega
 ·have:=of_decide_eq_false b;omega
 ·omega
 ·omega
theorem Vf {V:View}{tb:Nat}{p:OA}{n c:Nat}{at_:Int}(hr:Kf V p n)(hn:n<=400)(hw:wH V tb p n c at_)(hx:V.X tb)(h0:0<=at_) :
  Acts prog 90 #[.pointer (some ⟨tb,0,none⟩)] V fun r V'=>∃(x y at':Int),RP V' r (x:Rat) (y:Rat)/\(-4<=x/\x<=4)/\(-4<=y/\y<=4)/\0<=at'/\wH V' tb p n c at':=by
 refine sW tb p n c at_ V _ hw hx fun k i a l m=>(tU (V:=k.lend [a]) 9 (hr.le fun b o h=>i b o h) hn l ⟨by simp,m⟩ h0 (by omega) (by omega)).mono ?_;rintro r V2 q ⟨x,B,rfl,C,D,t1,d⟩;refine ⟨_,rfl,_,_,_,_,d,fun s t u v w=>(tU (V:=s.lend [u]) 9 (hr.le fun b o h=>t b o (q b o (i b o h))) hn v ⟨by simp,w⟩ t1 (by omega) (by omega)).mono ?_⟩;rintro r E F ⟨y,e,rfl,G,H,t2,f⟩;refine ⟨_,rfl,_,_,_,_,f,fun I J=>?_⟩;rw [i64w (x:=x-4) (by omega),i64w (x:=y-4) (by omega)];refine (t_ (x-4) (y-4) (by omega) (by omega) (by omega) (by omega)).mono ?_;rintro r K L j;have g:=j;obtain ⟨M,N,O,P,Q,R,S,T,U,W,Y,Z,rfl,-⟩:=j;exact ⟨_,_,_,_,_,_,_,_,_,_,_,_,_,_,rfl,fun V7 z A=>⟨x-4,y-4,e,g.le z,⟨by omega,by omega⟩,⟨by omega,by omega⟩,t2,A⟩⟩
theorem RQ.zero {V:View}:RQ V (.agg #[.bool false,.slice none 0 0,.slice none 0 0]) ((0:Int):Rat):=⟨none,0,0,none,0,0,rfl,RD.nil,RD.nil⟩
theorem RP.zero {V:View}:RP V (.agg #[.bool false,.slice none 0 0,.slice none 0 0,.bool false,.slice none 0 0,.slice none 0 0]) ((0:Int):Rat) ((0:Int):Rat):=
 ⟨none,0,0,none,0,0,none,0,0,none,0,0,rfl,RQ.zero,RQ.zero⟩
theorem Hh {z:Int}(h:-40<=z/\z<=40):Sz 10 (z:Rat):=AH (by omega) (by omega)
theorem XQ {V:View}{tb:Nat}{p:OA}{n c:Nat}{at_:Int}(hr:Kf V p n)(hn:n<=400)(hw:wH V tb p n c at_)(hx:V.X tb)(h0:0<=at_) :
  Acts prog 92 #[.pointer (some ⟨tb,0,none⟩)] V fun r V'=>∃(x y at':Int),RP V' r (x:Rat) (y:Rat)/\(-4<=x/\x<=4)/\(-4<=y/\y<=4)/\¬(x=0/\y=0)/\0<=at'/\wH V' tb p n c at':=by
 refine sZ tb p n c at_ V _ hw hx fun s t d u v=>(Vf (V:=s.lend [d]) (hr.le fun b o h=>t b o h) hn u ⟨by simp,v⟩ h0).mono ?_;rintro r V2 P ⟨x,y,k,l,e,f,t1,i⟩;have a:=l;obtain ⟨w,z,A,B,C,D,E,F,G,H,I,J,rfl,-⟩:=l;refine ⟨_,_,_,_,_,_,_,_,_,_,_,_,_,_,rfl,_,_,_,_,i,fun Q m=>(zM (a.le fun b o h=>m b o h) RP.zero (Hh (by omega)) (Hh (by omega)) (Hh (by omega)) (Hh (by omega)) (by omega)).mono ?_⟩;rintro r R K rfl;refine ⟨_,rfl,fun g S T=>(t_ 1 0 (by omega) (by omega) (by omega) (by omega)).mono ?_,fun g U L M=>⟨x,y,k,a.le fun b o h=>L b o (K b o (m b o h)),e,f,?_,t1,M⟩⟩
 ·rintro r W Y q;have j:=q;obtain ⟨w,z,A,B,C,D,E,F,G,H,I,J,rfl,-⟩:=q;exact ⟨_,_,_,_,_,_,_,_,_,_,_,_,_,_,rfl,fun Z N O=>⟨1,0,k,j.le N,⟨by omega,by omega⟩,⟨by omega,by omega⟩,by omega,t1,O⟩⟩
 ·rintro ⟨rfl,rfl⟩;simp at g
theorem XP {V:View}{tb:Nat}{p:OA}{n c:Nat}{at_:Int}(hr:Kf V p n)(hn:n<=400)(hw:wH V tb p n c at_)(hx:V.X tb)(h0:0<=at_) :
  Acts prog 39 #[.pointer (some ⟨tb,0,none⟩)] V fun r V'=>∃(x:L3)(at':Int),RL V' r x.1 x.2.1 x.2.2/\okL x=true/\Bd x/\0<=at'/\wH V' tb p n c at':=by
 refine sU tb p n c at_ V _ hw hx fun W I f Y Z=>(Vf (V:=W.lend [f]) (hr.le fun b o h=>I b o h) hn Y ⟨by simp,Z⟩ h0).mono ?_;rintro r V2 l2 ⟨x,y,LJ,J,g,i,t1,j⟩;have d:=J;obtain ⟨p1,K,c1,p2,L,c2,p3,M,c3,p4,n4,c4,rfl,-⟩:=J;refine ⟨_,_,_,_,_,_,_,_,_,_,_,_,_,_,rfl,_,_,_,_,j,fun V3 N=>(gJ 1 (by omega) (by omega)).mono ?_⟩;rintro r V4 O P;have q:=P;obtain ⟨p5,n5,c5,p6,n6,c6,rfl⟩:=P.shape;refine ⟨_,_,_,_,_,_,_,rfl,fun V5 s RG e5 h5=>(XQ (V:=V5.lend [RG]) (hr.le fun b o h=>s b o (O b o (N b o (l2 b o (I b o h))))) hn e5 ⟨by simp,h5⟩ t1).mono ?_⟩;rintro r V6 Q ⟨u,w,t,R,v,S7,a0,t2,z⟩;have A:=R;obtain ⟨q1,m1,d1,q2,m2,d2,q3,m3,d3,q4,m4,d4,rfl,-⟩:=R;refine ⟨_,_,_,_,_,_,_,_,_,_,_,_,_,_,rfl,_,_,_,_,z,fun B C=>?_⟩;have e:V2.Le B:=fun b o h=>C b o (Q b o (s b o (O b o (N b o h))));have PO:V4.Le B:=fun b o h=>C b o (Q b o (s b o h));have D:V6.Le B:=fun b o h=>C b o h;refine (lI (d.le e) (q.le PO) (A.le D) (k:=10) (m:=10) (Hh (by omega)) (Hh (by omega)) (Hh (by omega)) (Hh (by omega)) (Hh (by omega)) (by omega)).mono ?_;rintro r V8 l8 S;have E:=S;obtain ⟨s1,i1,j1,s2,i2,j2,s3,i3,j3,s4,i4,j4,rfl,-⟩:=S;have f1:(x:Rat)+((1:Int):Rat)*(u:Rat)=((x+u:Int):Rat):=by rw [←Rat.intCast_mul,←Rat.intCast_add,Int.one_mul]
 have f2:(y:Rat)+((1:Int):Rat)*(w:Rat)=((y+w:Int):Rat):=by rw [←Rat.intCast_mul,←Rat.intCast_add,Int.one_mul]
 refine ⟨_,_,_,_,_,_,_,_,_,_,_,_,_,_,rfl,fun V9 T=>(sk (d.le (e.trans (l8.trans T))) (E.le T) (k:=10) (Hh (by omega)) (Hh (by omega)) (by rw [f1];exact Hh (by omega)) (by rw [f2];exact Hh (by omega)) (by omega) (by omega)).mono ?_⟩;rintro r a1 a2 ⟨-,h⟩;rw [LA] at h;have K:((-w:Int):Rat).num=-w:=rfl;have L:((u:Int):Rat).num=u:=rfl;have M:((w*x-u*y:Int):Rat).num=w*x-u*y:=rfl;dsimp only at h;rw [K,L,M] at h;obtain ⟨l,rfl,U⟩:=h (by omega);have m1:=IZ S7 g;have m2:=IZ v i;obtain ⟨k1,k2⟩:=K6 (a:=-w) (b:=u) (c:=w*x-u*y) (by omega) (by omega) (by omega) (by omega);have F:=U;obtain ⟨b1,u1,v1,w1,b2,u2,v2,w2,b3,u3,v3,w3,rfl⟩:=(pZ U);exact ⟨_,_,_,_,_,_,_,_,_,_,_,_,_,rfl,fun a3 G H=>⟨Ee (-w) u (w*x-u*y),t,F.le G,k1,k2,t2,H⟩⟩
def RW (V:View):OA->Tr->Prop
 | p,.leaf i=>∃(b:Nat)(c2 c3 c4 c5 c6 c7 c8 c9:Value),p=some ⟨b,0,none⟩/\V.aS b (.cells #[.bool true,.bool i,c2,c3,c4,c5,c6,c7,c8,c9] 107 (0,0))
 | p,.node l x y=>∃(b:Nat)(i:Bool)(b1:Bool)(p1:OA)(n1 c1:Nat)(b2:Bool)(p2:OA)(n2 c2:Nat)(b3:Bool)(p3:OA)(n3 c3:Nat)(pl pr:OA),p=some ⟨b,0,none⟩ /\
   V.aS b (.cells #[.bool false,.bool i,.bool b1,.slice p1 n1 c1,.bool b2,.slice p2 n2 c2,.bool b3,.slice p3 n3 c3,.pointer pl,.pointer pr] 107 (0,0)) /\
   RL V (.agg #[.bool b1,.slice p1 n1 c1,.bool b2,.slice p2 n2 c2,.bool b3,.slice p3 n3 c3]) l.1 l.2.1 l.2.2/\RW V pl x/\RW V pr y
theorem RW.le {V V':View}(h:V.Le V'):∀{t:Tr} {p:OA},RW V p t->RW V' p t
 | .leaf i,p,⟨b,c2,c3,c4,c5,c6,c7,c8,c9,e,hb⟩=>⟨b,c2,c3,c4,c5,c6,c7,c8,c9,e,h _ _ hb⟩
 | .node l x y,p,⟨b,i,b1,p1,n1,c1,b2,p2,n2,c2,b3,p3,n3,c3,pl,pr,e,hb,hl,hx,hy⟩=>⟨b,i,b1,p1,n1,c1,b2,p2,n2,c2,b3,p3,n3,c3,pl,pr,e,h _ _ hb,hl.le h,RW.le h hx,RW.le h hy⟩
theorem oL {V:View}(i:Bool):Acts prog 38 #[.bool i] V fun r V'=>∃p,r=.pointer p/\RW V' p (.leaf i):=
 xT i V _ fun c d b a=>⟨_,rfl,b,_,_,_,_,_,_,_,_,rfl,a⟩
def Okb (x:L3):Prop:=okL x=true/\Bd x
theorem MR:∀(k:Nat) {V:View} {tb:Nat} {p:OA} {n c:Nat} {at_:Int},k<=10->Kf V p n->n<=400->wH V tb p n c at_->V.X tb->0<=at_ ->
  Acts prog 10 #[.pointer (some ⟨tb,0,none⟩),.int .i64 (k:Int)] V fun r V'=>∃q t at',r=.pointer q/\RW V' q t/\t.All Okb/\t.size<2^k/\0<=at'/\wH V' tb p n c at':=by
 intro k
 induction k with
 | zero=>
  intro V tb p n c at_ _ a d hw m s;refine i_ tb p n c at_ _ V _ hw m ⟨fun g V1 l1 u e1 h1=>(tU (V:=V1.lend [u]) 2 (a.le fun b o h=>l1 b o h) d e1 ⟨by simp,h1⟩ s (by omega) (by omega)).mono ?_,fun g=>by simp at g⟩;rintro r V2 l2 ⟨x,R,rfl,-,-,t1,e⟩;refine ⟨_,rfl,_,_,_,_,e,fun V3 l3=>(oL _).mono ?_⟩;rintro r V4 l4 ⟨q,rfl,v⟩;exact ⟨_,rfl,fun V5 l5 e5=>⟨_,_,R,rfl,v.le l5,trivial,by simp [Tr.size],t1,e5⟩⟩
 | succ k ih=>
  intro V tb p n c at_ hk a d hw m s;refine i_ tb p n c at_ _ V _ hw m ⟨fun g=>by rw [beq_iff_eq] at g;omega,fun _ V6 S XL e6 h6=>(tU (V:=V6.lend [XL]) 4 (a.le fun b o h=>S b o h) d e6 ⟨by simp,h6⟩ s (by omega) (by omega)).mono ?_⟩;rintro r V7 l7 ⟨x,R,rfl,-,-,t1,e⟩;have w:V.Le V7:=fun b o h=>l7 b o (S b o h);refine ⟨_,rfl,_,_,_,_,e,fun g V8 l8 RC e8 h8=>(tU (V:=V8.lend [RC]) 2 (a.le fun b o h=>l8 b o (w b o h)) d e8 ⟨by simp,h8⟩ t1 (by omega) (by omega)).mono ?_,fun g y i RH z LO=>(XP (V:=y.lend [RH]) (a.le fun b o h=>i b o (w b o h)) d z ⟨by simp,LO⟩ t1).mono ?_⟩
  ·rintro r V9 l9 ⟨x,j,rfl,-,-,t2,f⟩;refine ⟨_,rfl,_,_,_,_,f,fun a0 a1=>(oL _).mono ?_⟩;rintro r a2 a3 ⟨q,rfl,v⟩;exact ⟨_,rfl,fun a4 A B=>⟨_,_,j,rfl,v.le A,trivial,by simpa [Tr.size] using Nat.two_pow_pos _,t2,B⟩⟩
  ·rintro r C c_ ⟨ln,j,T,D,E,t2,f⟩;have F:=T;obtain ⟨b1,u1,v1,w1,b2,u2,v2,w2,b3,u3,v3,w3,rfl⟩:=(pZ T);have U:V.Le C:=fun b o h=>c_ b o (i b o (w b o h));have wk:i64.wrap (((k+1:Nat):Int)-1)=(k:Int):=by rw [i64w (by omega)];omega
   refine ⟨_,_,_,_,_,_,_,_,_,_,_,_,rfl,_,_,_,_,f,fun G H OD I LP=>?_⟩;rw [wk];refine ((ih (V:=G.lend [OD]) (by omega) (a.le fun b o h=>H b o (U b o h)) d I ⟨by simp,LP⟩ t2).mono ?_);rintro r W Y ⟨qa,ta,a5,rfl,Q4,Kn,a6,t3,J⟩;have GL:V.Le W:=fun b o h=>Y b o (H b o (U b o h));refine ⟨_,rfl,_,_,_,_,J,fun ny K RJ L Yc=>(ih (V:=ny.lend [RJ]) (by omega) (a.le fun b o h=>K b o (GL b o h)) d L ⟨by simp,Yc⟩ t3).mono ?_⟩;rintro r oD Z ⟨qb,Zp,M,rfl,YG,N,a7,t4,O⟩;refine ⟨_,rfl,_,_,_,_,O,fun rZ P l Q hb=>⟨_,.node ln ta Zp,M,rfl,⟨l,_,_,_,_,_,_,_,_,_,_,_,_,_,_,_,rfl,hb,?_,?_,?_⟩,⟨⟨D,E⟩,Kn,N⟩,?_,t4,Q⟩⟩
   ·exact F.le fun b o h=>P b o (Z b o (K b o (Y b o (H b o h))))
   ·exact RW.le (V:=W) (V':=rZ) (fun b o h=>P b o (Z b o (K b o h))) Q4
   ·exact RW.le (V:=oD) (V':=rZ) (fun b o h=>P b o h) YG
   ·simp only [Tr.size];rw [Nat.pow_succ];omega
def Tr.depth:Tr->Nat
 | .leaf _=>0
 | .node _ a b=>1+max a.depth b.depth
theorem lP:∀t:Tr,t.depth<=t.size
 | .leaf _=>Nat.le_refl _
 | .node _ a b=>by have:=lP a;have:=lP b;simp only [Tr.depth,Tr.size];omega
theorem IW {a b:Nat}(ha:a<=1000000)(hb:b<=1000000):i64.wrap ((1:Int)+maxI (a:Int) (b:Int))=((1+max a b:Nat):Int):=by
 have:maxI (a:Int) (b:Int)=((max a b:Nat):Int):=by unfold maxI;split<;>omega
 rw [this,i64w (by omega)];omega
theorem c_bsp_Depth:∀(t:Tr) {V:View} {p:OA},RT V p t->t.size<=1000000->Acts prog 94 #[.pointer p] V fun r V'=>r=.int .i64 (t.depth:Int)
 | .leaf i,V,p,h,hs=>by
  refine mu p V _ fun V1 l1=>(c_bsp_IsLeaf (h.le l1)).mono ?_;rintro r V2 l2 rfl;exact ⟨_,rfl,fun _ V3 l3=>rfl,(fun h=>nomatch h)⟩
 | .node ln a b,V,p,h,hs=>by
  have h0:=h;refine mu p V _ fun V1 l1=>(c_bsp_IsLeaf (h0.le l1)).mono ?_;rintro r V2 l2 rfl;obtain ⟨l,m,n,o,q,s,u,v,w,x,pl,f,i,rfl,d,y,g,c⟩:=h.le (l1.trans l2);have s1:=lP a;have s2:=lP b;simp only [Tr.size] at hs;refine ⟨_,rfl,(fun h=>nomatch h),fun _=>⟨rfl,rfl,pl,rdc d 9 rfl,rfl,rfl,f,rdc d 10 rfl,fun z e=>(c_bsp_Depth a (g.le e) (by omega)).mono ?_⟩⟩;rintro r A j rfl;refine ⟨_,rfl,fun B k=>(c_bsp_Depth b (c.le (e.trans (j.trans k))) (by omega)).mono ?_⟩;rintro r C D rfl;exact ⟨_,rfl,fun E F=>by rw [IW (by omega) (by omega)];rfl⟩
def Tq:Tr->Int
 | .leaf i=>if i then 0 else 1
 | .node ..=>0
end Go.Proofs.Tryz
