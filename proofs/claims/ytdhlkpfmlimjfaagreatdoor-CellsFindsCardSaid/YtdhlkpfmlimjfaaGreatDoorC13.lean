import Derived.Test.YtdhlkpfmlimjfaaGreatDoorC12
import Derived.Test.YtdhlkpfmlimjfaaGreatDoorC8
set_option linter.unusedVariables false
open Go.IntKind (i64 u64 u32)
namespace Go.Eng
open Go.Big
def sr (d:Nat):List Nat:=if d=1 then [] else af d
def RQ (V:View)(v:Value)(q:Rat):Prop:=∃p n c p' n' c',v=.agg #[.bool (decide (q.num<0)),.slice p n c,.slice p' n' c'] /\
 RD V p n c (af q.num.natAbs)/\RD V p' n' c' (sr q.den)
theorem RQ.le {V V':View}{v:Value}{q:Rat}(h:RQ V v q)(l:V.Le V'):RQ V' v q:=by
 obtain ⟨p,n,c,a,b,d,e,f,g⟩:=h;exact ⟨p,n,c,a,b,d,e,f.le l,g.le l⟩
theorem BP {q:Rat}:sr q.den=[]↔q.den=1:=by
 unfold sr;split
 ·rename_i h;simp [h]
 ·rename_i h;rw [bw];have:=q.den_nz;omega
end Go.Eng
namespace Go.Proofs.Tryz
open Go.Eng Go.Big
theorem lD {V:View}{q:Rat}{p:OA}{n c:Nat}(h:RD V p n c (sr q.den)):n=0↔q.den=1:=by
 rw [←BP,h.len,List.length_eq_zero_iff]
theorem ch {V:View}(q:Rat){p p':OA}{n c n' c':Nat}(b:Bool)(h2:RD V p' n' c' (sr q.den)) :
  Acts prog 68 #[.agg #[.bool b,.slice p n c,.slice p' n' c']] V fun r V'=>∃p1 n1 c1,r=.slice p1 n1 c1/\RN V' p1 n1 c1 q.den:=by
 have d:=lD h2;refine E6 b p n c p' n' c' V _ ⟨fun a h f=>ml.mono ?_,fun a h f=>⟨_,_,_,rfl,?_⟩⟩
 ·rintro r V2 j ⟨p1,n1,c1,rfl,g⟩;have:q.den=1:=d.1 (by simp at a;omega);rw [this];exact ⟨_,_,_,rfl,fun k i=>⟨_,_,_,rfl,g.le i⟩⟩
 ·have:q.den≠1:=fun e=>by have:=d.2 e;simp at a;omega
  unfold sr at h2;rw [if_neg this] at h2;exact h2.le f
theorem mW {V:View}{q:Rat}{z:Int}{d:Nat}{p p':OA}{n c n' c':Nat}(hn:q.num=z)(hd:q.den=d)(h1:RD V p n c (af z.natAbs))(h2:RD V p' n' c' (sr d)){b:Bool}(hb:b=decide (z<0)) :
  RQ V (.agg #[.bool b,.slice p n c,.slice p' n' c']) q:=by
 subst hn hd hb;exact ⟨_,_,_,_,_,_,rfl,h1,h2⟩
theorem ko {V:View}(z:Int){d:Nat}{p q:OA}{n c m e:Nat}(hx:RN V p n c z.natAbs)(hy:RN V q m e d)(hm:(af z.natAbs).length<=274877906944)(hn:(af d).length<=274877906944)(hd:d≠0) :
  Acts prog 113 #[.agg #[.bool (decide (z<0)),.slice p n c],.slice q m e] V fun r V'=>RQ V' r (mkRat z d):=by
 refine Dj _ p n c q m e V _ fun V1 C=>(kn (hx.le C) (hy.le C) hm hn).mono ?_;rintro r V2 X ⟨p1,n1,c1,rfl,j⟩;have J:=Nat.gcd_dvd_right z.natAbs d;have K:=Nat.gcd_dvd_left z.natAbs d;have L:0<Nat.gcd z.natAbs d:=Nat.gcd_pos_of_pos_right _ (by omega);have l:(af (Nat.gcd z.natAbs d)).length<=274877906944:=Nat.le_trans (aB (Nat.le_of_dvd (by omega) J)) hn;have M:(mkRat z d).num=z / (Nat.gcd d z.natAbs:Nat):=by rw [Rat.num_mkRat,if_neg hd]
 have a:(mkRat z d).den=d / Nat.gcd d z.natAbs:=by rw [Rat.den_mkRat,if_neg hd]
 rw [Nat.gcd_comm d] at M a;generalize hG:Nat.gcd z.natAbs d=g at *;generalize mkRat z d=w at *;refine ⟨_,_,_,rfl,fun V3 D=>ml.mono ?_⟩;rintro r V4 E ⟨p2,n2,c2,rfl,h1⟩;refine ⟨_,_,_,rfl,fun V5 o=>(hZ (j.le (D.trans (E.trans o))) (h1.le o) (by omega) (by decide)).mono ?_⟩;rintro r V6 N rfl
 replace hx:=hx.le (C.trans (X.trans (D.trans (E.trans (o.trans N)))))
 replace hy:=hy.le (C.trans (X.trans (D.trans (E.trans (o.trans N)))))
 replace j:=j.le (D.trans (E.trans (o.trans N)))
 refine ⟨_,rfl,fun Y V7 F=>(dM (hx.le F) (j.le F) hm l L).mono ?_,fun Y se G=>ml.mono ?_⟩
 ·rintro r V8 Z ⟨p4,n4,c4,p5,n5,c5,rfl,g1,-⟩;have a0:(mkRat z d).num.natAbs=(mkRat z d).num.natAbs:=rfl;obtain ⟨k,O⟩:=K;have P:z.natAbs / g=k:=by rw [O,Nat.mul_div_cancel_left _ L]
  rw [P] at g1
  have hz:z=(g:Int)*(if z<0 then -(k:Int) else k):=by
   split
   ·rw [Int.mul_neg,←Int.natCast_mul,←O];omega
   ·rw [←Int.natCast_mul,←O];omega
  have b:w.num=(if z<0 then -(k:Int) else k):=by
   rw [M];generalize (if z<0 then -(k:Int) else k)=t at *;rw [hz,Int.mul_ediv_cancel_left _ (by omega)]
  refine ⟨_,_,_,_,_,_,rfl,fun V9 Q=>(eX _ (g1.le Q)).mono ?_⟩
  have Te:(if decide (z<0)=true then -(k:Int) else k)=w.num:=by
   rw [b];simp
  rw [Te];rintro r a1 s ⟨p7,n7,c7,rfl,g2⟩;refine ⟨_,_,_,_,rfl,fun a2 f=>(dM (hy.le (F.trans (Z.trans (Q.trans (s.trans f))))) (j.le (F.trans (Z.trans (Q.trans (s.trans f))))) hn l L).mono ?_⟩;rintro r a3 u ⟨p8,n8,c8,p9,n9,c9,rfl,R,-⟩;rw [←a] at R;refine ⟨_,_,_,_,_,_,rfl,fun a4 h=>ml.mono ?_⟩;rintro r a5 H ⟨Hv,a6,a7,rfl,S⟩;have a8:(af w.den).length<=274877906944:=by rw [a];exact Nat.le_trans (aB (Nat.div_le_self _ _)) hn
  refine ⟨_,_,_,rfl,fun a9 v=>(hZ (R.le (h.trans (H.trans v))) (S.le v) (by omega) (by decide)).mono ?_⟩;rintro r j9 T rfl;refine ⟨_,rfl,fun i ng U=>mW rfl rfl (g2.le (f.trans (u.trans (h.trans (H.trans (v.trans (T.trans U))))))) ?_ rfl,fun i oo x=>mW rfl rfl (g2.le (f.trans (u.trans (h.trans (H.trans (v.trans (T.trans x))))))) ?_ rfl⟩
  ·have:w.den=1:=jJ.1 (by simpa using i);rw [BP.2 this];exact RD.nil
  ·have:w.den≠1:=fun e=>by rw [jJ.2 e] at i;simp at i
   unfold sr;rw [if_neg this];exact R.le (h.trans (H.trans (v.trans (T.trans x))))
 ·have y:g=1:=jJ.1 (by simpa using Y);have b:w.num=z:=by rw [M,y];simp
  have A:w.den=d:=by rw [a,y];simp
  rintro r DB I ⟨b0,b5,b6,rfl,S⟩;refine ⟨_,_,_,rfl,fun pZ B=>(hZ (hy.le (G.trans (I.trans B))) (S.le B) (by omega) (by decide)).mono ?_⟩;rintro r rf W rfl;refine ⟨_,rfl,fun i ng U=>mW b A (hx.le (G.trans (I.trans (B.trans (W.trans U))))) ?_ rfl,fun i oo x=>mW b A (hx.le (G.trans (I.trans (B.trans (W.trans x))))) ?_ rfl⟩
  ·have:d=1:=jJ.1 (by simpa using i);unfold sr;rw [if_pos this];exact RD.nil
  ·have:d≠1:=fun e=>by rw [jJ.2 e] at i;simp at i
   unfold sr;rw [if_neg this];exact hy.le (G.trans (I.trans (B.trans (W.trans x))))
theorem eE {V:View}(n:Int)(h0:-9223372036854775808<=n)(h1:n<=9223372036854775807) :
  Acts prog 71 #[.int .i64 n] V fun r V'=>RQ V' r (n:Rat):=by
 refine Ho n V _ fun b e=>(yw n h0 h1).mono ?_;rintro r V2 f ⟨p,m,c,rfl,g⟩;exact ⟨_,_,_,_,rfl,fun h a=>mW (z:=n) (d:=1) rfl rfl (g.le a) RD.nil rfl⟩
theorem te {V:View}(q:Rat){p p':OA}{n c n' c':Nat}(h1:RD V p n c (af q.num.natAbs)) :
  Acts prog 103 #[.agg #[.bool (decide (q.num<0)),.slice p n c,.slice p' n' c']] V fun r V'=>r=.int .i64 q.num.sign:=by
 refine JR _ p n c p' n' c' V _ fun b a=>(kr q.num (h1.le a)).mono ?_;rintro r V2 d rfl;exact ⟨_,rfl,fun e f=>rfl⟩
theorem jG {V:View}(q:Rat){p p':OA}{n c n' c':Nat}(h1:RD V p n c (af q.num.natAbs))(h2:RD V p' n' c' (sr q.den)) :
  Acts prog 64 #[.agg #[.bool (decide (q.num<0)),.slice p n c,.slice p' n' c']] V fun r V'=>RQ V' r (-q):=by
 refine Fa _ p n c p' n' c' V _ fun f a=>(gC q.num (h1.le a)).mono ?_;rintro r V2 e ⟨h,i,j,rfl,g⟩;exact ⟨_,_,_,_,rfl,fun k b=>mW (q:=-q) (z:=-q.num) (d:=q.den) (by rfl) (by rfl) (g.le b) ((h2.le a).le (e.trans b)) rfl⟩
end Go.Proofs.Tryz
namespace Go.Eng
open Go.Big
theorem RI.inv {V:View}{b:Bool}{p:OA}{n c:Nat}{z:Int}(h:RI V (.agg #[.bool b,.slice p n c]) z):b=decide (z<0)/\RD V p n c (af z.natAbs):=by
 obtain ⟨d,f,g,e,a⟩:=h;simp at e;obtain ⟨rfl,rfl,rfl,rfl⟩:=e;exact ⟨rfl,a⟩
end Go.Eng
namespace Go.Proofs.Tryz
open Go.Eng Go.Big
theorem fC {V:View}{v:Value}{q:Rat}(h:RR V v q){k:Nat}(hs:Sz k q)(hk:k<=1099511627776) :
  Acts prog 139 #[v] V fun r V'=>RI V' r q.num:=by
 rcases h with ⟨rfl,hw⟩|⟨a,b,p,n,c,u,w,x,rfl,i,j,y,l,z,hw⟩
 ·have:=hw.1;refine nd _ _ _ V _ ⟨(fun d=>nomatch d),fun _ m f=>(iR _ (by omega) (by omega)).mono ?_⟩;rintro r V2 o ⟨p,n,c,rfl,g⟩;exact ⟨_,_,_,_,rfl,fun s e=>⟨_,_,_,rfl,g.le e⟩⟩
 ·obtain ⟨rfl,t⟩:=l.inv;refine nd _ _ _ V _ ⟨fun _=>⟨rfl,rfl,decide (q.num<0),p,n,c,a.add 0,rfl,?_,?_,fun m f=>(ik _ (t.le f) (Nat.le_trans (ae hs.1) hk)).mono ?_⟩,fun d=>nomatch d⟩
  ·exact i
  ·simpa [Addr.add] using j
  ·rintro r V2 o ⟨p,n,c,rfl,g⟩;rw [aA] at g ⊢;exact ⟨_,_,_,_,rfl,fun s e=>⟨_,_,_,rfl,g.le e⟩⟩
theorem eO {V:View}{v:Value}{q:Rat}(h:RR V v q){k:Nat}(hs:Sz k q)(hk:k<=1099511627776) :
  Acts prog 207 #[v] V fun r V'=>∃p n c,r=.slice p n c/\RN V' p n c q.den:=by
 rcases h with ⟨rfl,hw⟩|⟨a,b,p,n,c,s,t,u,rfl,w,x,i,y,j,hw⟩
 ·have:=hw.2;have z:=q.den_nz;refine mY _ _ _ V _ ⟨(fun d=>nomatch d),fun _ l f=>?_⟩;rw [i64w (by omega),aG (by omega)];refine (dz _ (by omega) (by omega)).mono ?_;rintro r V2 m ⟨p,n,c,rfl,g⟩;rw [show ((q.den:Int)-1+1).toNat=q.den from by omega] at g;exact ⟨_,_,_,rfl,fun o e=>⟨_,_,_,rfl,g.le e⟩⟩
 ·refine mY _ _ _ V _ ⟨fun _=>⟨rfl,rfl,_,_,_,⟨_,rfl,i⟩,fun l f=>(im (j.le f) (Nat.le_trans (ae hs.2) hk)).mono ?_⟩,fun d=>nomatch d⟩;rintro r V2 m ⟨p,n,c,rfl,g⟩;rw [ab] at g;exact ⟨_,_,_,rfl,fun o e=>⟨_,_,_,rfl,g.le e⟩⟩
theorem ij {V:View}(n:Int)(h0:-9223372036854775808<n)(h1:n<=9223372036854775807) :
  Acts prog 205 #[.int .i64 n] V fun r V'=>r=.int .u64 (n.natAbs:Int):=by
 refine Da n V _ ⟨fun a b c=>?_,fun a b c=>?_⟩
 ·have a:n<0:=by simpa using a
  rw [i64w (by omega),aG (by omega)];congr 1;omega
 ·have a:0<=n:=by simpa using a
  rw [aG (by omega)];congr 1;omega
theorem tR {V:View}(x y:Nat)(hx:x<18446744073709551616)(hy:y<18446744073709551616) :
  Acts prog 204 #[.int .u64 (x:Int),.int .u64 (y:Int)] V fun r V'=>r=.int .u64 (Nat.gcd x y:Int):=by
 refine Db _ _ V _ ⟨fun z V'=>∃a b:Nat,z=((a:Int),(b:Int))/\Nat.gcd a b=Nat.gcd x y,fun z=>z.2.toNat,
  ⟨((x:Int),(y:Int)),by (try dsimp only);and_intros<;>trivial,x,y,rfl,rfl⟩,?_⟩
 rintro _ g h ⟨a,b,rfl,c⟩;dsimp only;refine ⟨by trivial,fun d=>?_,fun d i j=>?_⟩
 ·have d:b≠0:=by rw [bne_iff_ne] at d;omega
  have e:a%b<b:=Nat.mod_lt _ (by omega);have f:(a:Int).tmod (b:Int)=((a%b:Nat):Int):=by rw [Int.tmod_eq_emod_of_nonneg (by omega),←Int.natCast_emod]
  rw [f];exact ⟨by omega,((b:Int),((a%b:Nat):Int)),by (try dsimp only);rw [Int.toNat_natCast,Int.toNat_natCast];exact e,by (try dsimp only);and_intros<;>trivial,b,a%b,rfl,by rw [uz,c]⟩
 ·have d:b=0:=by rw [bne_eq_false_iff_eq] at d;omega
  subst d;rw [Nat.gcd_zero_right] at c;rw [c]
theorem fE {V:View}(a b:Int)(ha:a.natAbs<4611686018427387904)(hb:b.natAbs<4611686018427387904) :
  Acts prog 226 #[.int .i64 a,.int .i64 b] V fun r V'=>∃z:Int,r=.tuple #[.int .i64 z,.bool (decide ((a*b).natAbs<4611686018427387904))]/\((a*b).natAbs<4611686018427387904->z=a*b):=by
 refine xl a b V _ fun k l=>(ij a (by omega) (by omega)).mono ?_;rintro r V2 m rfl;refine ⟨_,rfl,fun n o=>(ij b (by omega) (by omega)).mono ?_⟩;rintro r q s rfl;refine ⟨_,rfl,fun t u=>(Ks _ _ (by omega) (by omega)).mono ?_⟩;rintro r v w rfl;have g:(a*b).natAbs=a.natAbs*b.natAbs:=Int.natAbs_mul a b
 have f:a*b=if (decide (a<0)==decide (b<0)) then ((a.natAbs*b.natAbs:Nat):Int) else -((a.natAbs*b.natAbs:Nat):Int):=by
  rw [Int.natCast_mul];by_cases c:a<0<;>by_cases d:b<0
  ·rw [decide_eq_true c,decide_eq_true d,show (a.natAbs:Int)=-a from by omega,show (b.natAbs:Int)=-b from by omega];simp [Int.neg_mul,Int.mul_neg]
  ·rw [decide_eq_true c,decide_eq_false d,if_neg (by decide),show (a.natAbs:Int)=-a from by omega,show (b.natAbs:Int)=b from by omega];simp [Int.neg_mul]
  ·rw [decide_eq_false c,decide_eq_true d,if_neg (by decide),show (a.natAbs:Int)=a from by omega,show (b.natAbs:Int)=-b from by omega];simp [Int.mul_neg]
  ·rw [decide_eq_false c,decide_eq_false d,show (a.natAbs:Int)=a from by omega,show (b.natAbs:Int)=b from by omega];simp
 rw [g];generalize a.natAbs*b.natAbs=p at *;refine ⟨_,_,rfl,fun e i j=>?_,fun e=>⟨fun c i j=>?_,fun c=>⟨fun d i j=>?_,fun d i j=>?_⟩⟩⟩
 ·have e:18446744073709551616<=p:=by rw [bne_iff_ne] at e;omega
  rw [decide_eq_false (by omega)];exact ⟨_,rfl,fun h=>by omega⟩
 ·have c:4611686018427387904<=p:=by
   rw [decide_eq_true_eq] at c;omega
  rw [decide_eq_false (by omega)];exact ⟨_,rfl,fun h=>by omega⟩
 ·have e:p / 18446744073709551616=0:=by rw [bne_eq_false_iff_eq] at e;omega
  have c:p<4611686018427387904:=by rw [decide_eq_false_iff_not] at c;omega
  rw [decide_eq_true c,i64w (x:=((p%18446744073709551616:Nat):Int)) (by omega),i64w (by omega)];refine ⟨_,rfl,fun _=>?_⟩;have d:(decide (a<0)==decide (b<0))=false:=by simpa using d
  rw [f,d,if_neg (by decide)];omega
 ·have e:p / 18446744073709551616=0:=by rw [bne_eq_false_iff_eq] at e;omega
  have c:p<4611686018427387904:=by rw [decide_eq_false_iff_not] at c;omega
  rw [decide_eq_true c,i64w (x:=((p%18446744073709551616:Nat):Int)) (by omega)];refine ⟨_,rfl,fun _=>?_⟩;have d:(decide (a<0)==decide (b<0))=true:=by simpa using d
  rw [f,d,if_pos rfl];omega
theorem mQ {V:View}(n:Int)(d:Nat)(hn:n.natAbs<4611686018427387904)(hd:d<4611686018427387904)(hd0:d≠0) :
  Acts prog 227 #[.int .i64 n,.int .i64 (d:Int)] V fun r V'=>RR V' r (mkRat n d):=by
 refine vJ n _ V _ fun o p=>(ij n (by omega) (by omega)).mono ?_;rintro r V2 q rfl;rw [aG (x:=(d:Int)) (by omega)];refine ⟨_,rfl,fun s t=>(tR _ _ (by omega) (by omega)).mono ?_⟩;rintro r u v rfl;have g:Nat.gcd n.natAbs d<=d:=Nat.le_of_dvd (by omega) (Nat.gcd_dvd_right _ _);have w:0<Nat.gcd n.natAbs d:=Nat.gcd_pos_of_pos_right _ (by omega);have c:=Rat.num_mkRat n d;have a:=Rat.den_mkRat n d;rw [if_neg hd0,Nat.gcd_comm] at c a;have b:(Nat.gcd n.natAbs d:Int)∣n:=Int.ofNat_dvd_left.2 (Nat.gcd_dvd_left _ _);have h:d / Nat.gcd n.natAbs d<=d:=Nat.div_le_self _ _
 have i:(n / (Nat.gcd n.natAbs d:Int)).natAbs<=n.natAbs:=by
  rw [Int.natAbs_ediv_of_dvd b,Int.natAbs_natCast];exact Nat.div_le_self _ _
 have f:Wd (mkRat n d):=by unfold Wd;rw [c,a];omega
 refine ⟨_,rfl,?_⟩;rw [i64w (x:=((Nat.gcd n.natAbs d:Nat):Int)) (by omega)];refine ⟨fun e=>⟨by omega,by omega,fun j k=>.inl ⟨?_,f⟩⟩,fun e j k=>.inl ⟨?_,f⟩⟩
 ·rw [c,a];have l:n.tdiv (Nat.gcd n.natAbs d:Int)=n / (Nat.gcd n.natAbs d:Int):=Int.tdiv_eq_ediv_of_dvd b;have m:(d:Int).tdiv (Nat.gcd n.natAbs d:Int)=((d / Nat.gcd n.natAbs d:Nat):Int):=by rw [Int.tdiv_eq_ediv_of_nonneg (by omega),←Int.natCast_ediv]
  rw [l,m];generalize n / (Nat.gcd n.natAbs d:Int)=nn at *;generalize d / Nat.gcd n.natAbs d=dd at *;rw [i64w (by omega),i64w (x:=(dd:Int)) (by omega),i64w (by omega)]
 ·have e:Nat.gcd n.natAbs d=1:=by rw [decide_eq_false_iff_not] at e;omega
  rw [c,a,e,i64w (by omega)];simp
theorem mkRat_one (z:Int):mkRat z 1=(z:Rat):=by
 apply Rat.ext
 ·rw [Rat.num_mkRat];simp
 ·rw [Rat.den_mkRat];simp
theorem RD.one {V:View}{bk:Nat}{ty:TypeId}{m:Nat×Nat}(h:V.bg bk (.cells #[.int .u32 1] ty m)):RD V (some ⟨bk,0,none⟩) 1 1 [1]:=
 RD.bg (ds:=[1]) h (by simp [bM]) rfl (Nat.le_refl _)
theorem kh {V:View}(b:Bool){p:OA}{n c:Nat}{ds:List Nat}(h:RD V p n c ds)(hm:ds.length<=1099511627776) :
  Acts prog 160 #[.agg #[.bool b,.slice p n c]] V fun r V'=>RR V' r (aQ b ds:Rat):=by
 refine xk b p n c V _ fun j f k g=>(bY b (h.le f) (RD.one g) hm (by simp)).mono ?_;rintro r V2 l a;have e:mkRat (aQ b ds) (val [1])=(aQ b ds:Rat):=mkRat_one _;rw [e] at a;obtain ⟨n,d,p,rfl⟩:=a.shape;exact ⟨_,_,_,rfl,fun _ m i=>a.le i⟩
theorem uD {z:Int}(h:z.natAbs<4611686018427387904):Wd (z:Rat):=⟨h,by show (1:Nat)<_;decide⟩
theorem ig {V:View}(n:Int)(h0:-9223372036854775808<=n)(h1:n<=9223372036854775807) :
  Acts prog 164 #[.int .i64 n] V fun r V'=>RR V' r (n:Rat):=by
 have LX:∀b:View,V.Le b->Acts prog 179 #[.int .i64 n] b fun j V2=>∃HG:Bool,∃(Jc:OA)(IW HN:Nat),j=.agg #[.bool HG,.slice Jc IW HN]/\(∀a:View,V2.Le a->∀OT:Nat,a.bg OT (.cells #[.int .u32 1] 225 (0,0))->Acts prog 144 #[.agg #[.bool HG,.slice Jc IW HN],.slice (some ⟨OT,0,none⟩) 1 1] a fun l i=>∃Xo:Int,∃Xp:Int,∃W7:OA,l=.agg #[.int .i64 Xo,.int .i64 Xp,.pointer W7]/\∀J7_:C->Value,(∀V5:View,i.Le V5->RR V5 (.agg #[.int .i64 Xo,.int .i64 Xp,.pointer W7]) (n:Rat))):=by
  intro b o;refine (iR n h0 h1).mono ?_;rintro r V2 u ⟨p,m,c,rfl,g⟩;refine ⟨_,_,_,_,rfl,fun a f v q=>(bY _ (g.le f) (RD.one q) (Nat.le_trans (ae (k:=64) (by omega)) (by omega)) (by simp)).mono ?_⟩;rintro r i w h;have e:mkRat (aQ (decide (n<0)) (af n.natAbs)) (val [1])=(n:Rat):=by rw [aA];exact mkRat_one _
  rw [e] at h;obtain ⟨n,d,p,rfl⟩:=h.shape;exact ⟨_,_,_,rfl,fun _ a f=>h.le f⟩
 refine C8 n V _ ⟨fun _=>LX,fun s=>⟨fun _=>LX,fun t b o=>.inl ⟨rfl,uD ?_⟩⟩⟩;rw [decide_eq_false_iff_not] at s t;omega
theorem fD {V:View}{v:Value}{q:Rat}(h:RR V v q){k:Nat}(hs:Sz k q)(hk:k<=1099511627776) :
  Acts prog 146 #[v] V fun r V'=>r=.int .i64 q.num.sign:=by
 rcases h with ⟨rfl,hw⟩|⟨a,b,p,n,c,o,s,t,rfl,i,j,u,l,w,hw⟩
 ·refine mc _ _ _ V _ ⟨(fun e=>nomatch e),fun _=>⟨fun h f d=>?_,fun h=>⟨fun g f d=>?_,fun g f d=>?_⟩⟩⟩
  ·rw [Int.sign_eq_neg_one_of_neg (by simpa using h)]
  ·rw [Int.sign_eq_one_of_pos (by simpa using g)]
  ·have:q.num=0:=by rw [decide_eq_false_iff_not] at h g;omega
   rw [this];rfl
 ·obtain ⟨rfl,m⟩:=l.inv;refine mc _ _ _ V _ ⟨fun _=>⟨rfl,rfl,decide (q.num<0),p,n,c,a.add 0,rfl,?_,?_,fun f d=>(lq _ (m.le d) (Nat.le_trans (ae hs.1) hk)).mono ?_⟩,(fun e=>nomatch e)⟩
  ·exact i
  ·simpa [Addr.add] using j
  ·rintro r V2 x rfl;rw [aA];exact ⟨_,rfl,fun y z=>rfl⟩
theorem Bw {V:View}{v:Value}{q:Rat}(h:RR V v q):Acts prog 161 #[v] V fun r V'=>r=.bool (decide (q=0)):=by
 rcases h with ⟨rfl,hw⟩|⟨a,b,p,n,c,i,j,k,rfl,l,m,o,s,t,hw⟩
 ·refine me _ _ _ V _ ⟨fun _ f g=>?_,(fun d=>nomatch d)⟩;congr 1;rw [Bool.eq_iff_iff,beq_iff_eq,decide_eq_true_eq];exact Rat.num_eq_zero
 ·refine me _ _ _ V _ ⟨(fun d=>nomatch d),fun _ f g=>?_⟩;congr 1;symm;rw [decide_eq_false_iff_not];intro e;subst e;exact hw ⟨by decide,by decide⟩
theorem iQ {V:View}{v:Value}{q:Rat}(h:RR V v q){k:Nat}(hs:Sz k q)(hk:k<=1099511627776) :
  Acts prog 214 #[v] V fun r V'=>RR V' r (-q):=by
 rcases h with ⟨rfl,hw⟩|⟨a,b,p,n,c,i,j,l,rfl,s,t,u,w,x,hw⟩
 ·have:=hw.1;refine m_ _ _ _ V _ ⟨(fun d=>nomatch d),fun _ y e=>.inl ⟨?_,by unfold Wd;rw [Rat.neg_num,Rat.neg_den,Int.natAbs_neg];exact hw⟩⟩;rw [i64w (by omega),Rat.neg_num,Rat.neg_den,Int.zero_sub]
 ·obtain ⟨rfl,z⟩:=w.inv;refine m_ _ _ _ V _ ⟨fun _=>⟨rfl,rfl,decide (q.num<0),p,n,c,a.add 0,rfl,?_,?_,rfl,rfl,i,j,l,⟨_,rfl,u⟩,fun y e=>(wK _ (z.le e) (Nat.le_trans (ae hs.1) hk)).mono ?_⟩,(fun d=>nomatch d)⟩
  ·exact s
  ·simpa [Addr.add] using t
  ·rintro r V2 A m;rw [aA] at m;obtain ⟨B,C,D,rfl,g⟩:=m;refine ⟨_,_,_,_,rfl,fun F o E f=>.inr ⟨⟨E,0,none⟩,decide (-q.num<0),B,C,D,i,j,l,rfl,?_,?_,?_,?_,?_,?_⟩⟩
   ·rw [add_zero'];exact blk_at (xs:=[_,_,_]) f rfl
   ·rw [add_zero'];exact blk_at (xs:=[_,_,_]) f rfl
   ·rw [add_zero'];exact blk_at (xs:=[_,_,_]) f rfl
   ·exact ⟨_,_,_,rfl,g.le o⟩
   ·exact x.le (e.trans (A.trans o))
   ·unfold Wd;rw [Rat.neg_num,Rat.neg_den,Int.natAbs_neg];exact hw
theorem _root_.Go.Eng.Sz.neg {k:Nat}{q:Rat}(h:Sz k q):Sz k (-q):=by unfold Sz;rw [Rat.neg_num,Rat.neg_den,Int.natAbs_neg];exact h
theorem uR (z:Int)(g:Nat)(h:(g:Int)∣z):(z / g).natAbs<=z.natAbs:=by
 rw [Int.natAbs_ediv_of_dvd h,Int.natAbs_natCast];exact Nat.div_le_self _ _
theorem _root_.Go.Eng.Sz.mkRat {k:Nat}{z:Int}{d:Nat}(h1:z.natAbs<2^k)(h2:d<2^k)(hk:0<k):Sz k (mkRat z d):=by
 have a:1<2^k:=Nat.one_lt_two_pow (by omega);unfold Sz;rw [Rat.num_mkRat,Rat.den_mkRat];split
 ·exact ⟨Nat.two_pow_pos k,a⟩
 ·refine ⟨Nat.lt_of_le_of_lt (uR _ _ (Int.ofNat_dvd_left.2 (Nat.gcd_dvd_right _ _))) h1,Nat.lt_of_le_of_lt (Nat.div_le_self _ _) h2⟩
theorem bD {a b k m:Nat}(h1:a<2^k)(h2:b<2^m):a*b<2^(k+m):=by rw [Nat.pow_add];exact Nat.mul_lt_mul'' h1 h2
theorem tF {x y:Rat}{k m:Nat}(hx:Sz k x)(hy:Sz m y):(x.num*y.den).natAbs<2^(k+m)/\(y.num*x.den).natAbs<2^(k+m)/\(x.num*y.den+y.num*x.den).natAbs<2^(k+m+1)/\x.den*y.den<2^(k+m):=by
 have a:(x.num*y.den).natAbs<2^(k+m):=by rw [Int.natAbs_mul,Int.natAbs_natCast];exact bD hx.1 hy.2
 have b:(y.num*x.den).natAbs<2^(k+m):=by rw [Int.natAbs_mul,Int.natAbs_natCast,Nat.add_comm];exact bD hy.1 hx.2
 refine ⟨a,b,?_,bD hx.2 hy.2⟩;rw [Nat.pow_succ];omega
theorem _root_.Go.Eng.Sz.add {x y:Rat}{k m:Nat}(hx:Sz k x)(hy:Sz m y):Sz (k+m+1) (x+y):=by
 obtain ⟨-,-,a,b⟩:=tF hx hy;rw [Rat.add_def'];exact Go.Eng.Sz.mkRat a (Nat.lt_of_lt_of_le b (Nat.pow_le_pow_right (by omega) (by omega))) (by omega)
theorem _root_.Go.Eng.Sz.sub {x y:Rat}{k m:Nat}(hx:Sz k x)(hy:Sz m y):Sz (k+m+1) (x-y):=by
 rw [Rat.sub_eq_add_neg];exact hx.add hy.neg
theorem _root_.Go.Eng.Sz.mul {x y:Rat}{k m:Nat}(hx:Sz k x)(hy:Sz m y):Sz (k+m+1) (x*y):=by
 rw [Rat.mul_def'];refine (Go.Eng.Sz.mkRat (k:=k+m+1) ?_ ?_ (by omega))
 ·rw [Int.natAbs_mul];exact Nat.lt_of_lt_of_le (bD hx.1 hy.1) (Nat.pow_le_pow_right (by omega) (by omega))
 ·exact Nat.lt_of_lt_of_le (bD hx.2 hy.2) (Nat.pow_le_pow_right (by omega) (by omega))
theorem ke {V:View}{v w:Value}{x y:Rat}(hx:RR V v x)(hy:RR V w y){k m:Nat}(hk:Sz k x)(hm:Sz m y)(hkm:k+m<1099511627776) :
  Acts prog 188 #[v,w] V fun r V'=>RR V' r (x+y):=by
 obtain ⟨Q,R,S,rfl⟩:=hx.shape;obtain ⟨T,s1,s2,rfl⟩:=hy.shape;have o:x+y=mkRat (x.num*y.den+y.num*x.den) (x.den*y.den):=Rat.add_def' x y;obtain ⟨b1,b2,b3,b4⟩:=tF hk hm
 have gen:(∀R8:View,V.Le R8->Acts prog 139 #[.agg #[.int .i64 Q,.int .i64 R,.pointer S]] R8 fun T_ Vc=>∃ON:Bool,∃(Jd:OA)(IX HO:Nat),T_=.agg #[.bool ON,.slice Jd IX HO]/\(∀R9:View,Vc.Le R9->Acts prog 207 #[.agg #[.int .i64 T,.int .i64 s1,.pointer s2]] R9 fun Ua Vd=>∃(QC:OA)(Qn OW:Nat),Ua=.slice QC Qn OW/\(∀Ve:View,Vd.Le Ve->Acts prog 229 #[.agg #[.bool ON,.slice Jd IX HO],.agg #[.bool false,.slice QC Qn OW]] Ve fun Ub Xv=>∃OO:Bool,∃(Je:OA)(IY HP:Nat),Ub=.agg #[.bool OO,.slice Je IY HP]/\(∀Vf:View,Xv.Le Vf->Acts prog 139 #[.agg #[.int .i64 T,.int .i64 s1,.pointer s2]] Vf fun Uc Xw=>∃OP:Bool,∃(QF:OA)(Qq OZ:Nat),Uc=.agg #[.bool OP,.slice QF Qq OZ]/\(∀Vg:View,Xw.Le Vg->Acts prog 207 #[.agg #[.int .i64 Q,.int .i64 R,.pointer S]] Vg fun Ud Xx=>∃(Jf:OA)(IZ HR:Nat),Ud=.slice Jf IZ HR/\(∀Vh:View,Xx.Le Vh->Acts prog 229 #[.agg #[.bool OP,.slice QF Qq OZ],.agg #[.bool false,.slice Jf IZ HR]] Vh fun Ue Xy=>∃OQ:Bool,∃(Jg:OA)(I0 HS:Nat),Ue=.agg #[.bool OQ,.slice Jg I0 HS]/\(∀Vi:View,Xy.Le Vi->Acts prog 228 #[.agg #[.bool OO,.slice Je IY HP],.agg #[.bool OQ,.slice Jg I0 HS]] Vi fun Uf Xz=>∃OR:Bool,∃(QI:OA)(Qt O2:Nat),Uf=.agg #[.bool OR,.slice QI Qt O2]/\(∀Vj:View,Xz.Le Vj->Acts prog 207 #[.agg #[.int .i64 Q,.int .i64 R,.pointer S]] Vj fun Ug XA=>∃(QJ:OA)(Qu O3:Nat),Ug=.slice QJ Qu O3/\(∀Vk:View,XA.Le Vk->Acts prog 207 #[.agg #[.int .i64 T,.int .i64 s1,.pointer s2]] Vk fun Uh XB=>∃(Jh:OA)(Qv O4:Nat),Uh=.slice Jh Qv O4/\(∀Vl:View,XB.Le Vl->Acts prog 206 #[.slice QJ Qu O3,.slice Jh Qv O4] Vl fun Ui XC=>∃(QK:OA)(Qw O5:Nat),Ui=.slice QK Qw O5/\(∀Vm:View,XC.Le Vm->Acts prog 144 #[.agg #[.bool OR,.slice QI Qt O2],.slice QK Qw O5] Vm fun Uj XD=>∃Ra:Int,∃Rb:Int,∃QL:OA,Uj=.agg #[.int .i64 Ra,.int .i64 Rb,.pointer QL]/\(∀Vn:View,XD.Le Vn->RR Vn (.agg #[.int .i64 Ra,.int .i64 Rb,.pointer QL]) (x+y))))))))))))):=by
  intro u g;refine (fC (hx.le g) hk (by omega)).mono ?_;rintro r V2 i ⟨p1,n1,c1,rfl,B⟩;refine ⟨_,_,_,_,rfl,fun V3 j=>(eO (hy.le (g.trans (i.trans j))) hm (by omega)).mono ?_⟩;rintro r V4 C ⟨p2,n2,c2,rfl,D⟩;have q1:=ae hk.1;have q2:=ae hk.2;have q3:=ae hm.1;have q4:=ae hm.2;refine ⟨_,_,_,rfl,fun V5 z=>(gg _ false (B.le (j.trans (C.trans z))) (D.le z) (by omega)).mono ?_⟩;rintro r V6 K h6;rw [aA,nG,ab] at h6;obtain ⟨p3,n3,c3,rfl,A⟩:=h6;refine ⟨_,_,_,_,rfl,fun V7 E=>(fC (hy.le (g.trans (i.trans (j.trans (C.trans (z.trans (K.trans E))))))) hm (by omega)).mono ?_⟩;rintro r V8 L ⟨p4,n4,c4,rfl,M⟩;refine ⟨_,_,_,_,rfl,fun V9 F=>(eO (hx.le (g.trans (i.trans (j.trans (C.trans (z.trans (K.trans (E.trans (L.trans F))))))))) hk (by omega)).mono ?_⟩;rintro r U l ⟨p5,n5,c5,rfl,N⟩;refine ⟨_,_,_,rfl,fun W f=>(gg _ false (M.le (F.trans (l.trans f))) (N.le f) (by omega)).mono ?_⟩;rintro r a3 G H;rw [aA,nG,ab] at H;obtain ⟨p6,n6,c6,rfl,g6⟩:=H;have q5:=ae b1;have q6:=ae b2;refine ⟨_,_,_,_,rfl,fun a4 q=>(wJ _ _ (A.le (E.trans (L.trans (F.trans (l.trans (f.trans (G.trans q))))))) (g6.le q) (by omega) (by omega)).mono ?_⟩;rintro r a5 cO Hr;rw [aA,aA] at Hr;obtain ⟨p7,n7,c7,rfl,g7⟩:=Hr;have Hy:=g.trans (i.trans (j.trans (C.trans (z.trans (K.trans (E.trans (L.trans (F.trans (l.trans (f.trans (G.trans (q.trans cO))))))))))));refine ⟨_,_,_,_,rfl,fun a6 X=>(eO (hx.le (Hy.trans X)) hk (by omega)).mono ?_⟩;rintro r j9 cQ ⟨p8,n8,c8,rfl,g8⟩;refine ⟨_,_,_,rfl,fun ng Y=>(eO (hy.le (Hy.trans (X.trans (cQ.trans Y)))) hm (by omega)).mono ?_⟩;rintro r oo dk ⟨p9,n9,c9,rfl,g9⟩;refine ⟨_,_,_,rfl,fun se Z=>(fR (g8.le (Y.trans (dk.trans Z))) (g9.le Z) (by omega)).mono ?_⟩;rintro r DB gY ⟨Hv,a7,a8,rfl,I⟩;rw [ab,ab] at I;have q7:=ae b3;have q8:=ae b4;refine ⟨_,_,_,rfl,fun pZ fN=>(bY _ (g7.le (X.trans (cQ.trans (Y.trans (dk.trans (Z.trans (gY.trans fN))))))) (I.le fN) (by omega) (by omega)).mono ?_⟩;rintro r rf iN s;rw [aA,ab,←o] at s;obtain ⟨n,d,p,rfl⟩:=s.shape;exact ⟨_,_,_,rfl,fun tE fV=>s.le fV⟩
 have lift:∀u:View,V.Le u->∀V2:View,u.Le V2->V.Le V2:=fun _ h _ h'=>h.trans h';rcases hx with ⟨ex,wx⟩|⟨a,b,p,n,c,p',n',c',ex,-,-,-,-,-,wx⟩
 ·rcases hy with ⟨J,wy⟩|⟨a,b,p,n,c,p',n',c',J,-,-,-,-,-,wy⟩
  ·simp only [Value.agg.injEq,Array.mk.injEq,List.cons.injEq,Value.int.injEq,Value.pointer.injEq,true_and,and_true] at ex J;obtain ⟨rfl,rfl,rfl⟩:=ex;obtain ⟨rfl,rfl,rfl⟩:=J;obtain ⟨Q5,Xm⟩:=wx;obtain ⟨Q6,Xn⟩:=wy;have dx:=x.den_nz;have dy:=y.den_nz;have e1:i64.wrap ((x.den:Int)-1+1)=x.den:=by rw [i64w (by omega)];omega
   have e2:i64.wrap ((y.den:Int)-1+1)=y.den:=by rw [i64w (by omega)];omega
   refine jw _ _ _ _ _ _ V _ ⟨fun _=>⟨fun _ _=>True,⟨fun _=>⟨fun O=>⟨fun P u g=>?_,fun P=>?_⟩,fun O=>?_⟩,(fun h=>nomatch h)⟩,fun _ u g _=>⟨by trivial,fun V2 i=>gen V2 (g.trans i)⟩⟩,(fun h=>nomatch h)⟩
   ·have O:x.den=1:=by rw [beq_iff_eq] at O;omega
    have P:y.den=1:=by rw [beq_iff_eq] at P;omega
    rw [i64w (by omega)];refine (ig _ (by omega) (by omega)).mono ?_;rintro r V2 i t
    have e:((x.num+y.num:Int):Rat)=x+y:=by
     rw [o,O,P];simp only [Nat.mul_one,Int.natCast_one,Int.mul_one];exact (mkRat_one _).symm
    rw [e] at t;obtain ⟨n,d,p,rfl⟩:=t.shape;exact ⟨_,_,_,rfl,fun V3 j=>t.le j⟩
   all_goals
    rw [e1,e2];refine fun V4 C=>(fE _ _ Q5 (by omega)).mono ?_;rintro r V5 z ⟨z1,rfl,a0⟩;refine ⟨_,_,rfl,fun V6 K=>(fE _ _ Q6 (by omega)).mono ?_⟩;rintro r V7 E ⟨z2,rfl,a1⟩;refine ⟨_,_,rfl,fun V8 L=>(fE _ _ (by omega) (by omega)).mono ?_⟩;rintro r V9 F ⟨z3,rfl,a2⟩;refine ⟨_,_,rfl,fun B=>⟨fun D=>⟨fun A=>⟨fun M=>⟨fun N U l=>?_,fun _=>⟨(),by and_intros<;>rfl,trivial⟩⟩,fun _=>⟨(),by and_intros<;>rfl,trivial⟩⟩,fun _=>⟨(),by and_intros<;>rfl,trivial⟩⟩,fun _=>⟨(),by and_intros<;>rfl,trivial⟩⟩,fun _=>⟨(),by and_intros<;>rfl,trivial⟩⟩;rw [decide_eq_true_eq] at B D A M N;have k1:=a0 B;have k2:=a1 D;have k3:=a2 A;rw [←k1] at B;rw [←k2] at D;rw [←Int.natCast_mul,Int.natAbs_natCast] at A;rw [←Int.natCast_mul] at k3;rw [i64w (by omega)] at M N ⊢;rw [k3];refine (mQ _ _ (by omega) A (Nat.mul_ne_zero dx dy)).mono ?_;rintro r W f t;rw [k1,k2,←o] at t;obtain ⟨n,d,p,rfl⟩:=t.shape;exact ⟨_,_,_,rfl,fun V3 j=>t.le j⟩
  ·simp only [Value.agg.injEq,Array.mk.injEq,List.cons.injEq,Value.int.injEq,Value.pointer.injEq,true_and,and_true] at ex J;obtain ⟨rfl,rfl,rfl⟩:=ex;obtain ⟨rfl,rfl,rfl⟩:=J;exact jw _ _ _ _ _ _ V _ ⟨fun _=>⟨fun _ _=>True,⟨(fun h=>nomatch h),fun _=>⟨(),by and_intros<;>rfl,trivial⟩⟩,fun _ u g _=>⟨by trivial,fun V2 i=>gen V2 (g.trans i)⟩⟩,(fun h=>nomatch h)⟩
 ·simp only [Value.agg.injEq,Array.mk.injEq,List.cons.injEq,Value.int.injEq,Value.pointer.injEq,true_and,and_true] at ex;obtain ⟨rfl,rfl,rfl⟩:=ex;exact jw _ _ _ _ _ _ V _ ⟨(fun h=>nomatch h),fun _=>gen⟩
end Go.Proofs.Tryz
namespace Go.Big
def eY (x y:Rat):Int:=(x-y).num.sign
def gN (x y:Rat):Rat:=mkRat (Nat.gcd (x.num.natAbs*y.den) (y.num.natAbs*x.den):Nat) (x.den*y.den)
theorem Cw {q:Rat}:q.num<0↔q<0:=by
 have:=@Rat.num_nonneg q;rw [←Rat.not_le,←this];omega
theorem Cx {q:Rat}:0<q.num↔0<q:=by
 have b:=@Rat.num_nonneg q;have c:=@Rat.num_eq_zero q;rw [Rat.lt_iff_le_and_ne,←b];constructor
 ·intro h;exact ⟨by omega,fun e=>by rw [←e] at h;simp at h⟩
 ·rintro ⟨h,a⟩;have:q.num≠0:=fun e=>a (c.1 e).symm;omega
theorem zS {x y:Rat}:x<y↔eY x y=-1:=by
 unfold eY;rw [Int.sign_eq_neg_one_iff_neg,Cw,Rat.lt_iff_sub_pos x y,←Rat.neg_sub y x];constructor
 ·intro h;have:=Rat.neg_lt_neg h;simpa using this
 ·intro h;have:=Rat.neg_lt_neg h;rw [Rat.neg_neg] at this;simpa using this
theorem tg {x y:Rat}:y<x↔eY x y=1:=by
 unfold eY;rw [Int.sign_eq_one_iff_pos,Cx,Rat.lt_iff_sub_pos y x]
theorem iV {x y:Rat}:x=y↔eY x y=0:=by
 unfold eY;rw [Int.sign_eq_zero_iff_zero,Rat.num_eq_zero];constructor
 ·intro h;subst h;exact Rat.sub_self
 ·intro h;have:=congrArg (·+ y) h;simpa [Rat.sub_add_cancel,Rat.zero_add] using this
end Go.Big
namespace Go.Proofs.Tryz
open Go.Eng Go.Big
theorem zI {V:View}{v w:Value}{x y:Rat}(hx:RR V v x)(hy:RR V w y){k m:Nat}(hk:Sz k x)(hm:Sz m y)(hkm:k+m<1099511627776) :
  Acts prog 232 #[v,w] V fun r V'=>RR V' r (x-y):=by
 obtain ⟨h,i,j,rfl⟩:=hx.shape;obtain ⟨l,s1,s2,rfl⟩:=hy.shape;refine xj _ _ _ _ _ _ V _ fun o b=>(iQ (hy.le b) hm (by omega)).mono ?_;rintro r V2 f c;obtain ⟨n,d,p,rfl⟩:=c.shape;refine ⟨_,_,_,rfl,fun q e=>(ke (hx.le (b.trans (f.trans e))) (c.le e) hk hm.neg hkm).mono ?_⟩;rintro r s t a;rw [←Rat.sub_eq_add_neg] at a;obtain ⟨n,d,p,rfl⟩:=a.shape;exact ⟨_,_,_,rfl,fun u g=>a.le g⟩
theorem kf {V:View}{v w:Value}{x y:Rat}(hx:RR V v x)(hy:RR V w y){k m:Nat}(hk:Sz k x)(hm:Sz m y)(hkm:k+m<1099511627776) :
  Acts prog 208 #[v,w] V fun r V'=>r=.int .i64 (eY x y):=by
 obtain ⟨u,z,A,rfl⟩:=hx.shape;obtain ⟨B,s1,s2,rfl⟩:=hy.shape
 have gen:∀V14:View,V.Le V14->Acts prog 232 #[.agg #[.int .i64 u,.int .i64 z,.pointer A],.agg #[.int .i64 B,.int .i64 s1,.pointer s2]] V14 fun C i=>∃Xq:Int,∃Q7:Int,∃Qz:OA,C=.agg #[.int .i64 Xq,.int .i64 Q7,.pointer Qz]/\(∀j9:View,i.Le j9->Acts prog 146 #[.agg #[.int .i64 Xq,.int .i64 Q7,.pointer Qz]] j9 fun D E=>∃Q8:Int,D=.int .i64 Q8/\(∀oo:View,E.Le oo->Value.int .i64 Q8=.int .i64 (eY x y))):=by
  intro j f;refine (zI (hx.le f) (hy.le f) hk hm hkm).mono ?_;rintro r V2 O s;obtain ⟨n,d,p,rfl⟩:=s.shape;refine ⟨_,_,_,rfl,fun P F=>(fD (s.le F) (hk.sub hm) (by omega)).mono ?_⟩;rintro r Q R rfl;exact ⟨_,rfl,fun _ _=>rfl⟩
 rcases hx with ⟨ex,G⟩|⟨a,b,p,n,c,H,I,J,ex,-,-,-,-,-,G⟩
 ·rcases hy with ⟨g,K⟩|⟨a,b,p,n,c,H,I,J,g,-,-,-,-,-,K⟩
  ·simp only [Value.agg.injEq,Array.mk.injEq,List.cons.injEq,Value.int.injEq,Value.pointer.injEq,true_and,and_true] at ex g;obtain ⟨rfl,rfl,rfl⟩:=ex;obtain ⟨rfl,rfl,rfl⟩:=g
   have l:x.den=y.den->((x<y↔x.num<y.num)/\(y<x↔y.num<x.num)/\(x=y↔x.num=y.num)):=by
    intro e;have t:(0:Int)<y.den:=by have:=y.den_nz;omega
    refine ⟨?_,?_,fun h=>by rw [h],fun h=>Rat.ext h e⟩
    ·rw [Rat.lt_iff,e];exact ⟨fun h=>Int.lt_of_mul_lt_mul_right h (by omega),fun h=>Int.mul_lt_mul_of_pos_right h t⟩
    ·rw [Rat.lt_iff,e];exact ⟨fun h=>Int.lt_of_mul_lt_mul_right h (by omega),fun h=>Int.mul_lt_mul_of_pos_right h t⟩
   refine jx _ _ _ _ _ _ V _ ⟨fun _=>⟨fun _=>⟨fun o=>?_,fun _=>gen⟩,(fun h=>nomatch h)⟩,(fun h=>nomatch h)⟩;have o:x.den=y.den:=by rw [beq_iff_eq] at o;omega
   obtain ⟨L,M,N⟩:=l o;refine ⟨fun h j f=>?_,fun h=>⟨fun q j f=>?_,fun q j f=>?_⟩⟩
   ·rw [zS.1 (L.2 (by simpa using h))]
   ·rw [tg.1 (M.2 (by simpa using q))]
   ·rw [iV.1 (N.2 (by rw [decide_eq_false_iff_not] at h q;omega))]
  ·simp only [Value.agg.injEq,Array.mk.injEq,List.cons.injEq,Value.int.injEq,Value.pointer.injEq,true_and,and_true] at ex g;obtain ⟨rfl,rfl,rfl⟩:=ex;obtain ⟨rfl,rfl,rfl⟩:=g;exact jx _ _ _ _ _ _ V _ ⟨fun _=>⟨(fun h=>nomatch h),fun _=>gen⟩,(fun h=>nomatch h)⟩
 ·simp only [Value.agg.injEq,Array.mk.injEq,List.cons.injEq,Value.int.injEq,Value.pointer.injEq,true_and,and_true] at ex;obtain ⟨rfl,rfl,rfl⟩:=ex;exact jx _ _ _ _ _ _ V _ ⟨(fun h=>nomatch h),fun _=>gen⟩
theorem yk {V:View}{v w:Value}{x y:Rat}(hx:RR V v x)(hy:RR V w y){k m:Nat}(hk:Sz k x)(hm:Sz m y)(hkm:k+m<1099511627776) :
  Acts prog 163 #[v,w] V fun r V'=>r=.bool (decide (x=y)):=by
 obtain ⟨b,c,d,rfl⟩:=hx.shape;obtain ⟨e,s1,s2,rfl⟩:=hy.shape;refine sF _ _ _ _ _ _ V _ fun f a=>(kf (hx.le a) (hy.le a) hk hm hkm).mono ?_;rintro r V2 g rfl;refine ⟨_,rfl,fun h i=>?_⟩;congr 1;rw [Bool.eq_iff_iff,beq_iff_eq,decide_eq_true_eq,iV]
theorem BV {x y:Rat}{k m:Nat}(hx:Sz k x)(hy:Sz m y):x.num.natAbs*y.den<2^(k+m)/\y.num.natAbs*x.den<2^(k+m)/\Nat.gcd (x.num.natAbs*y.den) (y.num.natAbs*x.den)<2^(k+m)/\x.den*y.den<2^(k+m):=by
 have a:x.num.natAbs*y.den<2^(k+m):=bD hx.1 hy.2;have b:y.num.natAbs*x.den<2^(k+m):=by rw [Nat.add_comm];exact bD hy.1 hx.2
 refine ⟨a,b,?_,bD hx.2 hy.2⟩;rcases Nat.eq_zero_or_pos (x.num.natAbs*y.den) with e|e
 ·rw [e,Nat.gcd_zero_left];exact b
 ·exact Nat.lt_of_le_of_lt (Nat.le_of_dvd e (Nat.gcd_dvd_left _ _)) a
theorem mi {x y:Rat}{k m:Nat}(hx:Sz k x)(hy:Sz m y):Sz (k+m+1) (gN x y):=by
 obtain ⟨-,-,a,b⟩:=BV hx hy;have c:2^(k+m)<=2^(k+m+1):=Nat.pow_le_pow_right (by omega) (by omega);exact Go.Eng.Sz.mkRat (by rw [Int.natAbs_natCast];omega) (by omega) (by omega)
theorem kg {V:View}{v w:Value}{x y:Rat}(hx:RR V v x)(hy:RR V w y){k m:Nat}(hk:Sz k x)(hm:Sz m y)(hkm:k+m<1099511627776) :
  Acts prog 162 #[v,w] V fun r V'=>RR V' r (gN x y):=by
 obtain ⟨C,D,E,rfl⟩:=hx.shape;obtain ⟨F,s1,s2,rfl⟩:=hy.shape;obtain ⟨b1,b2,b3,b4⟩:=BV hk hm;have q1:=ae hk.1;have q2:=ae hk.2;have q3:=ae hm.1;have q4:=ae hm.2;have q5:=ae b1;have q6:=ae b2;have q7:=ae b3;have q8:=ae b4
 have gen:(∀Vo:View,V.Le Vo->Acts prog 207 #[.agg #[.int .i64 C,.int .i64 D,.pointer E]] Vo fun Uk XE=>∃(QA:OA)(Ql OU:Nat),Uk=.slice QA Ql OU/\(∀Vp:View,XE.Le Vp->Acts prog 207 #[.agg #[.int .i64 F,.int .i64 s1,.pointer s2]] Vp fun Ul XF=>∃(QB:OA)(Qm OV:Nat),Ul=.slice QB Qm OV/\(∀Vq:View,XF.Le Vq->Acts prog 206 #[.slice QA Ql OU,.slice QB Qm OV] Vq fun Um XG=>∃(Jd:OA)(IX HO:Nat),Um=.slice Jd IX HO/\(∀Vs:View,XG.Le Vs->Acts prog 139 #[.agg #[.int .i64 C,.int .i64 D,.pointer E]] Vs fun Un XH=>∃Sc:Bool,∃(QD:OA)(Qo OX:Nat),Un=.agg #[.bool Sc,.slice QD Qo OX]/\(∀Vt:View,XH.Le Vt->Acts prog 207 #[.agg #[.int .i64 F,.int .i64 s1,.pointer s2]] Vt fun Uo XI=>∃(Je:OA)(IY HP:Nat),Uo=.slice Je IY HP/\(∀Vu:View,XI.Le Vu->Acts prog 206 #[.slice QD Qo OX,.slice Je IY HP] Vu fun Up XJ=>∃(QE:OA)(Qp OY:Nat),Up=.slice QE Qp OY/\(∀Vv:View,XJ.Le Vv->Acts prog 139 #[.agg #[.int .i64 F,.int .i64 s1,.pointer s2]] Vv fun Uq XK=>∃Se:Bool,∃(Jf:OA)(IZ HR:Nat),Uq=.agg #[.bool Se,.slice Jf IZ HR]/\(∀Vw:View,XK.Le Vw->Acts prog 207 #[.agg #[.int .i64 C,.int .i64 D,.pointer E]] Vw fun Ur XL=>∃(QG:OA)(Qr O0:Nat),Ur=.slice QG Qr O0/\(∀Vx:View,XL.Le Vx->Acts prog 206 #[.slice Jf IZ HR,.slice QG Qr O0] Vx fun Us XM=>∃(Jg:OA)(I0 HS:Nat),Us=.slice Jg I0 HS/\(∀Vy:View,XM.Le Vy->Acts prog 183 #[.slice QE Qp OY,.slice Jg I0 HS] Vy fun Ut XN=>∃(QH:OA)(Qs O1:Nat),Ut=.slice QH Qs O1/\(∀Vz:View,XN.Le Vz->Acts prog 144 #[.agg #[.bool false,.slice QH Qs O1],.slice Jd IX HO] Vz fun Uu XO=>∃Q9:Int,∃Q_:Int,∃Jh:OA,Uu=.agg #[.int .i64 Q9,.int .i64 Q_,.pointer Jh]/\(∀OJ:View,XO.Le OJ->RR OJ (.agg #[.int .i64 Q9,.int .i64 Q_,.pointer Jh]) (gN x y))))))))))))):=by
  intro O l;refine (eO (hx.le l) hk (by omega)).mono ?_;rintro r V2 o ⟨p1,n1,c1,rfl,g1⟩;refine ⟨_,_,_,rfl,fun V3 z=>(eO (hy.le (l.trans (o.trans z))) hm (by omega)).mono ?_⟩;rintro r V4 G ⟨p2,n2,c2,rfl,g2⟩;refine ⟨_,_,_,rfl,fun V5 A=>(fR (g1.le (z.trans (G.trans A))) (g2.le A) (by omega)).mono ?_⟩;rintro r V6 P ⟨p3,n3,c3,rfl,Q⟩;rw [ab,ab] at Q;have H:=l.trans (o.trans (z.trans (G.trans (A.trans P))));refine ⟨_,_,_,rfl,fun V7 q=>(fC (hx.le (H.trans q)) hk (by omega)).mono ?_⟩;rintro r V8 I ⟨p4,n4,c4,rfl,g4⟩;refine ⟨_,_,_,_,rfl,fun V9 B=>(eO (hy.le (H.trans (q.trans (I.trans B)))) hm (by omega)).mono ?_⟩;rintro r a0 g ⟨p5,n5,c5,rfl,g5⟩;refine ⟨_,_,_,rfl,fun a1 f=>(fR (g4.le (B.trans (g.trans f))) (g5.le f) (by omega)).mono ?_⟩;rintro r a2 s ⟨p6,n6,c6,rfl,R⟩;rw [ab,ab] at R;have S:=H.trans (q.trans (I.trans (B.trans (g.trans (f.trans s)))));refine ⟨_,_,_,rfl,fun a3 i=>(fC (hy.le (S.trans i)) hm (by omega)).mono ?_⟩;rintro r a4 T ⟨p7,n7,c7,rfl,g7⟩;refine ⟨_,_,_,_,rfl,fun a5 J=>(eO (hx.le (S.trans (i.trans (T.trans J)))) hk (by omega)).mono ?_⟩;rintro r j9 U ⟨p8,n8,c8,rfl,g8⟩;refine ⟨_,_,_,rfl,fun ng K=>(fR (g7.le (J.trans (U.trans K))) (g8.le K) (by omega)).mono ?_⟩;rintro r oo dk ⟨p9,n9,c9,rfl,W⟩;rw [ab,ab] at W;have X:=i.trans (T.trans (J.trans (U.trans (K.trans dk))));refine ⟨_,_,_,rfl,fun se L=>(yr (R.le (X.trans L)) (W.le L) (by omega) (by omega)).mono ?_⟩;rintro r DB gY ⟨Hv,a6,a7,rfl,t⟩;rw [ab,ab] at t;refine ⟨_,_,_,rfl,fun pZ Y=>(bY false (t.le Y) (Q.le (q.trans (I.trans (B.trans (g.trans (f.trans (s.trans (X.trans (L.trans (gY.trans Y)))))))))) (by omega) (by omega)).mono ?_⟩;rintro r rf iN j;rw [nG,ab,ab] at j;obtain ⟨n,d,p,rfl⟩:=j.shape;exact ⟨_,_,_,rfl,fun tE fV=>j.le fV⟩
 rcases hx with ⟨ex,Z⟩|⟨a,b,p,n,c,p',n',c',ex,-,-,-,-,-,Z⟩
 ·rcases hy with ⟨u,wy⟩|⟨a,b,p,n,c,p',n',c',u,-,-,-,-,-,wy⟩
  ·simp only [Value.agg.injEq,Array.mk.injEq,List.cons.injEq,Value.int.injEq,Value.pointer.injEq,true_and,and_true] at ex u;obtain ⟨rfl,rfl,rfl⟩:=ex;obtain ⟨rfl,rfl,rfl⟩:=u;obtain ⟨Q5,Xm⟩:=Z;obtain ⟨Q6,Xn⟩:=wy;refine mb _ _ _ _ _ _ V _ ⟨fun _=>⟨fun _=>⟨fun M=>⟨fun _ _=>True,⟨fun N O l=>?_,fun _=>⟨(),by and_intros<;>rfl,trivial⟩⟩,fun _ O l _=>⟨by trivial,fun V2 o=>gen V2 (l.trans o)⟩⟩,fun _=>gen⟩,(fun h=>nomatch h)⟩,(fun h=>nomatch h)⟩;have M:x.den=1:=by rw [beq_iff_eq] at M;omega
   have N:y.den=1:=by rw [beq_iff_eq] at N;omega
   refine (ij _ (by omega) (by omega)).mono ?_;rintro r V2 o rfl;refine ⟨_,rfl,fun V3 z=>(ij _ (by omega) (by omega)).mono ?_⟩;rintro r V4 G rfl;refine ⟨_,rfl,fun V5 A=>(tR _ _ (by omega) (by omega)).mono ?_⟩;rintro r V6 P rfl;refine ⟨_,rfl,fun V7 q=>.inl ?_⟩
   have e:gN x y=((Nat.gcd x.num.natAbs y.num.natAbs:Nat):Int):=by
    unfold gN;rw [M,N,Nat.mul_one,Nat.mul_one,Nat.mul_one];exact mkRat_one _
   have hl:Nat.gcd x.num.natAbs y.num.natAbs<4611686018427387904:=by
    rcases Nat.eq_zero_or_pos x.num.natAbs with e|e
    ·rw [e,Nat.gcd_zero_left];exact Q6
    ·exact Nat.lt_of_le_of_lt (Nat.le_of_dvd e (Nat.gcd_dvd_left _ _)) Q5
   rw [e,i64w (by omega)];exact ⟨rfl,uD (by rw [Int.natAbs_natCast];exact hl)⟩
  ·simp only [Value.agg.injEq,Array.mk.injEq,List.cons.injEq,Value.int.injEq,Value.pointer.injEq,true_and,and_true] at ex u;obtain ⟨rfl,rfl,rfl⟩:=ex;obtain ⟨rfl,rfl,rfl⟩:=u;exact mb _ _ _ _ _ _ V _ ⟨fun _=>⟨(fun h=>nomatch h),fun _=>gen⟩,(fun h=>nomatch h)⟩
 ·simp only [Value.agg.injEq,Array.mk.injEq,List.cons.injEq,Value.int.injEq,Value.pointer.injEq,true_and,and_true] at ex;obtain ⟨rfl,rfl,rfl⟩:=ex;exact mb _ _ _ _ _ _ V _ ⟨(fun h=>nomatch h),fun _=>gen⟩
theorem qj {V:View}{p:OA}{n c x:Nat}(h:RN V p n c x) :
  Acts prog 69 #[.bool false,.slice p n c] V fun r V'=>RI V' r (x:Int):=by
 have:=eX false h
 rwa [if_neg (by decide)] at this
theorem b_ {x:Rat}{k:Nat}(h:Sz k x):(af x.num.natAbs).length<=k/\(af x.den).length<=k/\(af (x.den:Int).natAbs).length<=k:=⟨ae h.1,ae h.2,ae h.2⟩
theorem cS {V:View}{v w:Value}{x y:Rat}(hx:RQ V v x)(hy:RQ V w y){k m:Nat}(hk:Sz k x)(hm:Sz m y)(hkm:k+m<274877906944) :
  Acts prog 65 #[v,w] V fun r V'=>RQ V' r (x+y):=by
 obtain ⟨p,n,c,p',n',c',rfl,j,b⟩:=hx;obtain ⟨q,i,e,q',i',e',rfl,l,f⟩:=hy;have D:=lD b;have Bi:=lD f;obtain ⟨b1,b2,b3,b4⟩:=tF hk hm;obtain ⟨d1,d2,d3⟩:=b_ hk;obtain ⟨d4,d5,d6⟩:=b_ hm;have o:x+y=mkRat (x.num*y.den+y.num*x.den) (x.den*y.den):=Rat.add_def' x y;refine (fun tail=>Dr _ p n c p' n' c' _ q i e q' i' e' V _ ⟨fun E=>⟨fun F V1 s=>?_,fun _=>tail⟩,fun _=>tail⟩) ?_
 ·clear tail;have E:x.den=1:=D.1 (by simp at E;omega);have F:y.den=1:=Bi.1 (by simp at F;omega);refine (qi x.num y.num (j.le s) (l.le s) (by omega) (by omega)).mono ?_;rintro r V2 S ⟨p2,n2,c2,rfl,g⟩
  have e1:x+y=((x.num+y.num:Int):Rat):=by
   rw [o,E,F];simp [Rat.mkRat_one]
  rw [e1];exact ⟨_,_,_,_,rfl,fun V3 C=>mW (z:=x.num+y.num) (d:=1) rfl rfl (g.le C) RD.nil rfl⟩
 ·intro V1 s;refine (ch y _ (f.le s)).mono ?_;rintro r V2 S ⟨p1,n1,c1,rfl,g1⟩;refine ⟨_,_,_,rfl,fun V3 C=>(qj (g1.le C)).mono ?_⟩;rintro r V4 l4 ⟨p3,n3,c3,rfl,g3⟩;have t:=s.trans (S.trans (C.trans l4));refine ⟨_,_,_,_,rfl,fun V5 G=>(jF x.num y.den (j.le (t.trans G)) (g3.le G) (by omega)).mono ?_⟩;rintro r V6 l6 ⟨p5,n5,c5,rfl,g5⟩;have T:=t.trans (G.trans l6);refine ⟨_,_,_,_,rfl,fun V7 H=>(ch x _ (b.le (T.trans H))).mono ?_⟩;rintro r V8 U ⟨p7,n7,c7,rfl,g7⟩;have NB:=T.trans (H.trans U);refine ⟨_,_,_,rfl,fun V9 I=>(qj (g7.le I)).mono ?_⟩;rintro r a0 u ⟨p9,n9,c9,rfl,g9⟩;have W:=NB.trans (I.trans u);refine ⟨_,_,_,_,rfl,fun a1 a=>(jF y.num x.den (l.le (W.trans a)) (g9.le a) (by omega)).mono ?_⟩;rintro r a2 A ⟨La,a3,a4,rfl,J⟩;have KU:=W.trans (a.trans A);refine ⟨_,_,_,_,rfl,fun a5 h=>(qi _ _ (g5.le (H.trans (U.trans (I.trans (u.trans (a.trans (A.trans h))))))) (J.le h) (Nat.le_trans (ae b1) (by omega)) (Nat.le_trans (ae b2) (by omega))).mono ?_⟩;rintro r a6 cO ⟨a7,a8,a9,rfl,K⟩;have X:=KU.trans (h.trans cO);refine ⟨_,_,_,_,rfl,fun b0 L=>(ch x _ (b.le (X.trans L))).mono ?_⟩;rintro r j9 Y ⟨b5,b6,b7,rfl,M⟩;have GU:=X.trans (L.trans Y);refine ⟨_,_,_,rfl,fun ng N=>(ch y _ (f.le (GU.trans N))).mono ?_⟩;rintro r oo Z ⟨b8,b9,c0,rfl,O⟩;refine ⟨_,_,_,rfl,fun se P=>(bZ (M.le (N.trans (Z.trans P))) (O.le P) (by omega)).mono ?_⟩;rintro r DB gY ⟨c4,c6,c8,rfl,B⟩;rw [ab,ab] at B;refine ⟨_,_,_,rfl,fun pZ fN=>(ko _ (K.le (L.trans (Y.trans (N.trans (Z.trans (P.trans (gY.trans fN))))))) (B.le fN) (Nat.le_trans (ae b3) (by omega)) (Nat.le_trans (ae b4) (by omega)) (Nat.mul_ne_zero x.den_nz y.den_nz)).mono ?_⟩;rw [o];rintro r rf iN ⟨W4,d0,d7,W5,d8,VE,rfl,Q,R⟩;exact ⟨_,_,_,_,_,_,_,rfl,fun tE fV=>⟨_,_,_,_,_,_,rfl,Q.le fV,R.le fV⟩⟩
theorem fT {V:View}{v w:Value}{x y:Rat}(hx:RQ V v x)(hy:RQ V w y){k m:Nat}(hk:Sz k x)(hm:Sz m y)(hkm:k+m<274877906944) :
  Acts prog 102 #[v,w] V fun r V'=>RQ V' r (x-y):=by
 have a:=hx;obtain ⟨p,n,c,l,o,s,rfl,t,u⟩:=hx;obtain ⟨q,i,e,z,A,B,rfl,b,d⟩:=hy;refine Fb _ p n c l o s _ q i e z A B V _ fun F f=>(jG y (b.le f) (d.le f)).mono ?_;rintro r V2 C g;obtain ⟨G,H,I,J,K,L,rfl,M,N⟩:=id g;refine ⟨_,_,_,_,_,_,_,rfl,fun O h=>(cS (a.le (f.trans (C.trans h))) (g.le h) hk hm.neg hkm).mono ?_⟩;rw [←Rat.sub_eq_add_neg];rintro r P Q ⟨R,S,T,U,W,X,rfl,D,E⟩;exact ⟨_,_,_,_,_,_,_,rfl,fun Y j=>⟨_,_,_,_,_,_,rfl,D.le j,E.le j⟩⟩
theorem mj {V:View}{v w:Value}{x y:Rat}(hx:RQ V v x)(hy:RQ V w y){k m:Nat}(hk:Sz k x)(hm:Sz m y)(hkm:k+m<274877906944) :
  Acts prog 130 #[v,w] V fun r V'=>r=.int .i64 (eY x y):=by
 have a:=hx;have b:=hy;obtain ⟨p,n,c,f,g,h,rfl,j,l⟩:=hx;obtain ⟨q,i,e,o,s,t,rfl,u,z⟩:=hy;refine JQ _ p n c f g h _ q i e o s t V _ fun C d=>(fT (a.le d) (b.le d) hk hm hkm).mono ?_;rintro r V2 D ⟨E,F,G,H,I,J,rfl,A,K⟩;refine ⟨_,_,_,_,_,_,_,rfl,fun L B=>(te (x-y) (A.le B)).mono ?_⟩;rintro r M N rfl;exact ⟨_,rfl,fun O P=>rfl⟩
theorem aI {V:View}{v w:Value}{x y:Rat}(hx:RQ V v x)(hy:RQ V w y){k m:Nat}(hk:Sz k x)(hm:Sz m y)(hkm:k+m<274877906944) :
  Acts prog 66 #[v,w] V fun r V'=>RQ V' r (x*y):=by
 obtain ⟨p,n,c,K,L,M,rfl,b,f⟩:=hx;obtain ⟨q,i,e,N,O,P,rfl,h,j⟩:=hy;have s:=lD f;have Q:=lD j;obtain ⟨d1,d2,d3⟩:=b_ hk;obtain ⟨d4,d5,d6⟩:=b_ hm;have l:x*y=mkRat (x.num*y.num) (x.den*y.den):=Rat.mul_def' x y;have b1:(x.num*y.num).natAbs<2^(k+m):=by rw [Int.natAbs_mul];exact bD hk.1 hm.1
 have b2:x.den*y.den<2^(k+m):=bD hk.2 hm.2;refine (fun tail=>AY _ p n c K L M _ q i e N O P V _ ⟨fun t=>⟨fun u R a=>?_,fun _=>tail⟩,fun _=>tail⟩) ?_
 ·clear tail;have t:x.den=1:=s.1 (by simp at t;omega);have u:y.den=1:=Q.1 (by simp at u;omega);refine (jF x.num y.num (b.le a) (h.le a) (by omega)).mono ?_;rintro r V2 A ⟨S,T,U,rfl,g⟩
  have W:x*y=((x.num*y.num:Int):Rat):=by
   rw [l,t,u];simp [Rat.mkRat_one]
  rw [W];exact ⟨_,_,_,_,rfl,fun X o=>mW (z:=x.num*y.num) (d:=1) rfl rfl (g.le o) RD.nil rfl⟩
 ·intro R a;refine (jF x.num y.num (b.le a) (h.le a) (by omega)).mono ?_;rintro r V2 A ⟨S,T,U,rfl,Y⟩;refine ⟨_,_,_,_,rfl,fun X o=>(ch x _ (f.le (a.trans (A.trans o)))).mono ?_⟩;rintro r V4 F ⟨p4,n4,c4,rfl,Z⟩;refine ⟨_,_,_,rfl,fun V5 B=>(ch y _ (j.le (a.trans (A.trans (o.trans (F.trans B)))))).mono ?_⟩;rintro r V6 G ⟨p6,n6,c6,rfl,g6⟩;refine ⟨_,_,_,rfl,fun V7 C=>(bZ (Z.le (B.trans (G.trans C))) (g6.le C) (by omega)).mono ?_⟩;rintro r V8 l8 ⟨p8,n8,c8,rfl,H⟩;rw [ab,ab] at H;refine ⟨_,_,_,rfl,fun V9 I=>(ko _ (Y.le (o.trans (F.trans (B.trans (G.trans (C.trans (l8.trans I))))))) (H.le I) (Nat.le_trans (ae b1) (by omega)) (Nat.le_trans (ae b2) (by omega)) (Nat.mul_ne_zero x.den_nz y.den_nz)).mono ?_⟩;rw [l];rintro r rf iN ⟨W4,a0,a1,W5,a2,VE,rfl,D,E⟩;exact ⟨_,_,_,_,_,_,_,rfl,fun tE J=>⟨_,_,_,_,_,_,rfl,D.le J,E.le J⟩⟩
end Go.Proofs.Tryz
namespace Go.Eng
open Go.Big
def RP (V:View)(v:Value)(x y:Rat):Prop:=∃p n c p' n' c' q m e q' m' e',v=.agg #[.bool (decide (x.num<0)),.slice p n c,.slice p' n' c',.bool (decide (y.num<0)),.slice q m e,.slice q' m' e'] /\
 RQ V (.agg #[.bool (decide (x.num<0)),.slice p n c,.slice p' n' c']) x/\RQ V (.agg #[.bool (decide (y.num<0)),.slice q m e,.slice q' m' e']) y
theorem RP.le {V V':View}{v:Value}{x y:Rat}(h:RP V v x y)(l:V.Le V'):RP V' v x y:=by
 obtain ⟨p,n,c,a,b,d,q,m,e,f,g,i,rfl,j,k⟩:=h;exact ⟨p,n,c,a,b,d,q,m,e,f,g,i,rfl,j.le l,k.le l⟩
theorem RQ.shape {V:View}{v:Value}{q:Rat}(h:RQ V v q):∃p n c p' n' c',v=.agg #[.bool (decide (q.num<0)),.slice p n c,.slice p' n' c']:=by
 obtain ⟨p,n,c,p',n',c',e,-⟩:=h;exact ⟨_,_,_,_,_,_,e⟩
end Go.Eng
namespace Go.Proofs.Tryz
open Go.Eng Go.Big
theorem rq {V:View}{p:OA}{n c:Nat}{ds:List Nat}(h:RD V p n c ds)(hm:ds.length<=1099511627776) :
  Acts prog 107 #[.slice p n c] V fun r V'=>∃p1 n1 c1,r=.slice p1 n1 c1/\RD V' p1 n1 c1 ds:=by
 have a:=h.len;refine A6 p n c V _ ⟨ay ds,h.sl,by simp [a],by omega,by omega,by simp,by simp [a],?_,?_⟩
 ·intro v e;simp only [ay,List.mem_map] at e;obtain ⟨d,-,rfl⟩:=e;rfl
 ·intro i J sp j f k l m b g;refine ⟨_,_,_,rfl,?_⟩;simp only [Nat.zero_add,Nat.zero_mul,List.take_zero,List.nil_append] at g f ⊢;exact copied h.fh a f g
theorem iS {V:View}{v:Value}{z:Int}(h:RI V v z)(hm:(af z.natAbs).length<=1099511627776) :
  Acts prog 72 #[v] V fun r V'=>RI V' r z:=by
 obtain ⟨p,n,c,rfl,h⟩:=h;refine AZ _ p n c V _ fun d a=>(rq (h.le a) hm).mono ?_;rintro r V2 e ⟨f,i,j,rfl,g⟩;exact ⟨_,_,_,rfl,fun k b=>⟨_,_,_,rfl,g.le b⟩⟩
theorem tV {V:View}(x y:Int)(h0:-9223372036854775808<=x)(h1:x<=9223372036854775807)(h2:-9223372036854775808<=y)(h3:y<=9223372036854775807) :
  Acts prog 29 #[.int .i64 x,.int .i64 y] V fun r V'=>RP V' r (x:Rat) (y:Rat):=by
 refine Dz x y V _ fun h i=>(eE x h0 h1).mono ?_;rintro r V2 j a;obtain ⟨p,n,c,k,l,o,rfl⟩:=a.shape;refine ⟨_,_,_,_,_,_,_,rfl,fun s f=>(eE y h2 h3).mono ?_⟩;rintro r t g b;obtain ⟨q,m,e,u,v,w,rfl⟩:=b.shape;exact ⟨_,_,_,_,_,_,_,rfl,fun z d=>⟨_,_,_,_,_,_,_,_,_,_,_,_,rfl,a.le (f.trans (g.trans d)),b.le d⟩⟩
theorem gE {V:View}{u v w:Value}{px py c qx qy:Rat}(hp:RP V u px py)(hc:RQ V v c)(hq:RP V w qx qy){k m:Nat}(s1:Sz k px)(s2:Sz k py)(s3:Sz m c)(s4:Sz m qx)(s5:Sz m qy)(hkm:k+(m+m+1)<274877906944) :
  Acts prog 91 #[u,v,w] V fun r V'=>RP V' r (px+c*qx) (py+c*qy):=by
 obtain ⟨x,y,z,A,B,C,D,E,F,G,H,I,rfl,e,f⟩:=hp;obtain ⟨J,K,L,M,N,O,rfl⟩:=hc.shape;obtain ⟨P,Q,R,S,T,U,W,X,Y,Z,m4,e4,rfl,g,h⟩:=hq;refine A8 _ x y z A B C _ D E F G H I _ J K L M N O _ P Q R S T U _ W X Y Z m4 e4 V _ fun V1 b=>(aI (hc.le b) (g.le b) s3 s4 (by omega)).mono ?_;rintro r V2 l n;obtain ⟨a1,a2,a3,a4,a5,a6,rfl⟩:=n.shape;refine ⟨_,_,_,_,_,_,_,rfl,fun V3 i=>(cS (e.le (b.trans (l.trans i))) (n.le i) s1 (s3.mul s4) (by omega)).mono ?_⟩;rintro r V4 l4 o;obtain ⟨b1,b2,b3,b4,b5,b6,rfl⟩:=o.shape;have a:=b.trans (l.trans (i.trans l4));refine ⟨_,_,_,_,_,_,_,rfl,fun V5 d=>(aI (hc.le (a.trans d)) (h.le (a.trans d)) s3 s5 (by omega)).mono ?_⟩;rintro r V6 p q;obtain ⟨d1,d2,d3,d4,d5,d6,rfl⟩:=q.shape;refine ⟨_,_,_,_,_,_,_,rfl,fun V7 j=>(cS (f.le (a.trans (d.trans (p.trans j)))) (q.le j) s2 (s3.mul s5) (by omega)).mono ?_⟩;rintro r V8 l8 s;obtain ⟨f1,f2,f3,f4,f5,f6,rfl⟩:=s.shape;exact ⟨_,_,_,_,_,_,_,rfl,fun V9 t=>⟨_,_,_,_,_,_,_,_,_,_,_,_,rfl,o.le (d.trans (p.trans (j.trans (l8.trans t)))),s.le t⟩⟩
theorem Lz:Sz 1 ((-1:Int):Rat):=by unfold Sz;decide
theorem BE {V:View}{u w:Value}{px py qx qy:Rat}(hp:RP V u px py)(hq:RP V w qx qy){k m:Nat}(s1:Sz k px)(s2:Sz k py)(s4:Sz m qx)(s5:Sz m qy)(hm:1<=m)(hkm:k+(m+m+1)<274877906944) :
  Acts prog 63 #[u,w] V fun r V'=>RP V' r (px-qx) (py-qy):=by
 have e:=hp;have f:=hq;obtain ⟨j,l,n,o,p,q,s,t,v,x,y,z,rfl,-,-⟩:=hp;obtain ⟨A,B,d,C,D,E,F,G,H,I,J,K,rfl,-,-⟩:=hq;refine Bc _ j l n o p q _ s t v x y z _ A B d C D E _ F G H I J K V _ fun S L=>(eE (-1) (by omega) (by omega)).mono ?_;rintro r V2 M h;obtain ⟨T,U,W,X,Y,Z,rfl⟩:=h.shape;have c:=L.trans M;refine ⟨_,_,_,_,_,_,_,rfl,fun V3 g=>(gE (e.le (c.trans g)) (h.le g) (f.le (c.trans g)) s1 s2 (Lz.mono hm) s4 s5 hkm).mono ?_⟩
 have d:∀a b:Rat,a+((-1:Int):Rat)*b=a-b:=by
  intro a b;have:((-1:Int):Rat)=-1:=rfl;rw [this,Rat.neg_mul,Rat.one_mul,Rat.sub_eq_add_neg]
 rw [d,d];rintro r V4 l4 ⟨b1,b2,b3,b4,b5,b6,b7,b8,b9,N,O,P,rfl,Q,R⟩;exact ⟨_,_,_,_,_,_,_,_,_,_,_,_,_,_,rfl,fun V5 i=>⟨_,_,_,_,_,_,_,_,_,_,_,_,rfl,Q.le i,R.le i⟩⟩
theorem zN {V:View}{u w:Value}{px py qx qy:Rat}(hp:RP V u px py)(hq:RP V w qx qy){k m:Nat}(s1:Sz k px)(s2:Sz k py)(s4:Sz m qx)(s5:Sz m qy)(hkm:k+m<274877906944) :
  Acts prog 135 #[u,w] V fun r V'=>r=.bool (decide (px=qx/\py=qy)):=by
 obtain ⟨l,n,o,p,q,s,t,v,x,y,z,A,rfl,c,d⟩:=hp;obtain ⟨B,C,D,E,F,G,H,I,J,K,L,M,rfl,f,g⟩:=hq;refine xK _ l n o p q s _ t v x y z A _ B C D E F G _ H I J K L M V _ fun O b=>(mj (c.le b) (f.le b) s1 s4 hkm).mono ?_;rintro r V2 j rfl;refine ⟨_,rfl,fun a N i=>(mj (d.le (b.trans (j.trans i))) (g.le (b.trans (j.trans i))) s2 s5 hkm).mono ?_,fun a N i=>?_⟩
 ·have a:px=qx:=iV.2 (by simpa using a);rintro r P Q rfl;refine ⟨_,rfl,fun R S=>?_⟩;congr 1;rw [Bool.eq_iff_iff,decide_eq_true_eq,beq_iff_eq,←iV];exact ⟨fun h=>⟨a,h⟩,fun h=>h.2⟩
 ·have a:¬px=qx:=fun e=>by rw [iV.1 e] at a;simp at a
  rw [decide_eq_false fun h=>a h.1]
end Go.Proofs.Tryz
namespace Go.Eng
open Go.Big
def RL (V:View)(v:Value)(a b c:Int):Prop:=∃p n s p' n' s' q m e,v=.agg #[.bool (decide (a<0)),.slice p n s,.bool (decide (b<0)),.slice p' n' s',.bool (decide (c<0)),.slice q m e] /\
 RD V p n s (af a.natAbs)/\RD V p' n' s' (af b.natAbs)/\RD V q m e (af c.natAbs)
theorem RL.le {V V':View}{v:Value}{a b c:Int}(h:RL V v a b c)(l:V.Le V'):RL V' v a b c:=by
 obtain ⟨p,n,s,d,f,g,q,m,e,rfl,i,j,k⟩:=h;exact ⟨p,n,s,d,f,g,q,m,e,rfl,i.le l,j.le l,k.le l⟩
end Go.Eng
namespace Go.Proofs.Tryz
open Go.Eng Go.Big
theorem BF {V:View}{v:Value}{a b c:Int}(hx:RL V v a b c)(h1:(af a.natAbs).length<=1099511627776)(h2:(af b.natAbs).length<=1099511627776)(h3:(af c.natAbs).length<=1099511627776) :
  Acts prog 30 #[v] V fun r V'=>RL V' r a b c:=by
 obtain ⟨p,n,s,l,o,t,q,m,e,rfl,u,w,x⟩:=hx;refine Be _ p n s _ l o t _ q m e V _ fun B d=>(iS ⟨_,_,_,rfl,u.le d⟩ h1).mono ?_;rintro r V2 i ⟨C,D,E,rfl,y⟩;refine ⟨_,_,_,_,rfl,fun F f=>(iS ⟨_,_,_,rfl,w.le (d.trans (i.trans f))⟩ h2).mono ?_⟩;rintro r G j ⟨H,I,J,rfl,z⟩;refine ⟨_,_,_,_,rfl,fun K g=>(iS ⟨_,_,_,rfl,x.le (d.trans (i.trans (f.trans (j.trans g))))⟩ h3).mono ?_⟩;rintro r L k ⟨M,N,O,rfl,A⟩;exact ⟨_,_,_,_,rfl,fun P h=>⟨_,_,_,_,_,_,_,_,_,rfl,y.le (f.trans (j.trans (g.trans (k.trans h)))),z.le (g.trans (k.trans h)),A.le h⟩⟩
theorem uo {z:Int}{g:Nat}(hg:0<g)(hd:g∣z.natAbs):(if decide (z<0)=true then -((z.natAbs / g:Nat):Int) else ((z.natAbs / g:Nat):Int))=z / (g:Int):=by
 obtain ⟨k,a⟩:=hd;have b:z.natAbs / g=k:=by rw [a,Nat.mul_div_cancel_left _ hg]
 rw [b]
 have c:z=(g:Int)*(if decide (z<0)=true then -(k:Int) else k):=by
  split
  ·rename_i h;rw [decide_eq_true_eq] at h;rw [Int.mul_neg,←Int.natCast_mul,←a];omega
  ·rename_i h;rw [decide_eq_true_eq] at h;rw [←Int.natCast_mul,←a];omega
 generalize (if decide (z<0)=true then -(k:Int) else k)=t at *;rw [c,Int.mul_ediv_cancel_left _ (by omega)]
def iu (a b c:Int):Nat:=Nat.gcd (Nat.gcd a.natAbs b.natAbs) c.natAbs
theorem wO {V:View}{u v w:Value}{a b c:Int}(ha:RI V u a)(hb:RI V v b)(hc:RI V w c)(h1:(af a.natAbs).length<=274877906944)(h2:(af b.natAbs).length<=274877906944)(h3:(af c.natAbs).length<=274877906944) :
  Acts prog 70 #[u,v,w] V fun r V'=>(a=0/\b=0->∃l,r=.tuple #[l,.bool false]/\RL V' l 0 0 0) /\
   (¬(a=0/\b=0)->∃l,r=.tuple #[l,.bool true]/\RL V' l (a / (iu a b c:Int)) (b / (iu a b c:Int)) (c / (iu a b c:Int))):=by
 obtain ⟨p,n,s,rfl,ha⟩:=ha;obtain ⟨T,U,W,rfl,hb⟩:=hb;obtain ⟨q,m,e,rfl,hc⟩:=hc;refine vZ _ p n s _ T U W _ q m e V _ fun V1 y=>(kn (ha.le y) (hb.le y) h1 h2).mono ?_;rintro r V2 N ⟨p1,n1,c1,rfl,O⟩;have hp:=fI O.len;have g:Nat.gcd a.natAbs b.natAbs=0↔a=0/\b=0:=by rw [Nat.gcd_eq_zero_iff];omega
 refine ⟨_,_,_,rfl,fun B V3 l3=>⟨fun _=>⟨_,rfl,_,_,_,_,_,_,_,_,_,rfl,RD.nil,RD.nil,RD.nil⟩,fun h=>?_⟩,fun B V4 C=>?_⟩
 ·exact absurd (g.1 (by simp at B;omega)) h
 have D:¬(a=0/\b=0):=fun h=>by have:=g.2 h;simp at B;omega
 have k:0<Nat.gcd a.natAbs b.natAbs:=by have:=g;omega
 have o:(af (Nat.gcd a.natAbs b.natAbs)).length<=274877906944:=by
  rcases Nat.eq_zero_or_pos a.natAbs with h|h
  ·rw [h,Nat.gcd_zero_left];exact h2
  ·exact Nat.le_trans (aB (Nat.gcd_le_left _ h)) h1
 refine (kn (O.le C) (hc.le (y.trans (N.trans C))) o h3).mono ?_;rintro r V5 X ⟨p2,n2,c2,rfl,z⟩;have i:=y.trans (N.trans (C.trans X));have Y:Nat.gcd (Nat.gcd a.natAbs b.natAbs) c.natAbs=iu a b c:=rfl;have d:0<iu a b c:=Nat.gcd_pos_of_pos_left _ k;have E:(af (iu a b c)).length<=274877906944:=Nat.le_trans (aB (Nat.gcd_le_left _ k)) o;have Z:iu a b c∣a.natAbs:=Nat.dvd_trans (Nat.gcd_dvd_left _ _) (Nat.gcd_dvd_left _ _);have db:iu a b c∣b.natAbs:=Nat.dvd_trans (Nat.gcd_dvd_left _ _) (Nat.gcd_dvd_right _ _);have dc:iu a b c∣c.natAbs:=Nat.gcd_dvd_right _ _;have sa:=uo d Z;have sb:=uo d db;have sc:=uo d dc;rw [Y] at z;generalize iu a b c=G at *;refine ⟨_,_,_,rfl,fun V6 F=>(dM (ha.le (i.trans F)) (z.le F) h1 E d).mono ?_⟩;rintro r V7 l7 ⟨p3,n3,c3,p4,n4,c4,rfl,g3,-⟩;have H:=F.trans l7;refine ⟨_,_,_,_,_,_,rfl,fun V8 A=>(dM (hb.le (i.trans (H.trans A))) (z.le (H.trans A)) h2 E d).mono ?_⟩;rintro r V9 P ⟨p5,n5,c5,p6,n6,c6,rfl,g5,-⟩;have Q:=H.trans (A.trans P);refine ⟨_,_,_,_,_,_,rfl,fun a0 f=>(dM (hc.le (i.trans (Q.trans f))) (z.le (Q.trans f)) h3 E d).mono ?_⟩;rintro r a1 t ⟨p7,n7,c7,p8,n8,c8,rfl,g7,-⟩;refine ⟨_,_,_,_,_,_,rfl,fun a2 j=>(eX _ (g3.le (A.trans (P.trans (f.trans (t.trans j)))))).mono ?_⟩;rw [sa];rintro r a3 x ⟨p9,n9,c9,rfl,g9⟩;refine ⟨_,_,_,_,rfl,fun a4 I=>(eX _ (g5.le (f.trans (t.trans (j.trans (x.trans I)))))).mono ?_⟩;rw [sb];rintro r a5 R ⟨Hv,a6,a7,rfl,J⟩;refine ⟨_,_,_,_,rfl,fun j9 K=>(eX _ (g7.le (j.trans (x.trans (I.trans (R.trans K)))))).mono ?_⟩;rw [sc];rintro r ng S ⟨La,a8,a9,rfl,L⟩;refine ⟨_,_,_,_,rfl,fun oo M=>⟨fun h=>absurd h D,fun _=>⟨_,rfl,_,_,_,_,_,_,_,_,_,rfl,?_,?_,?_⟩⟩⟩
 ·exact g9.le (I.trans (R.trans (K.trans (S.trans M))))
 ·exact J.le (K.trans (S.trans M))
 ·exact L.le M
abbrev L3:=Int×Int×Int
def okL (x:L3):Bool:=decide (¬(x.1=0/\x.2.1=0))&&decide (iu x.1 x.2.1 x.2.2=1)
def Bd (x:L3):Prop:=x.1.natAbs<2^1000/\x.2.1.natAbs<2^1000/\x.2.2.natAbs<2^1000
inductive Tr where
 | leaf (i:Bool)|node (l:L3) (a b:Tr)
 deriving DecidableEq
structure Nd where
 ln:L3
 left:Int
 right:Int
 deriving DecidableEq
def Tr.size:Tr->Nat
 | .leaf _=>0
 | .node _ a b=>a.size+b.size+1
def Tr.Nx:Tr->Bool
 | .leaf _=>true
 | .node ..=>false
def Tr.All (p:L3->Prop):Tr->Prop
 | .leaf _=>True
 | .node l a b=>p l/\a.All p/\b.All p
theorem Tr.All.imp {p q:L3->Prop}(h:∀x,p x->q x):∀{t:Tr},t.All p->t.All q
 | .leaf _,_=>trivial
 | .node _ _ _,⟨h1,h2,h3⟩=>⟨h _ h1,Tr.All.imp h h2,Tr.All.imp h h3⟩
def rt (k:Nat):Tr->Int
 | .leaf i=>if i then -2 else -1
 | .node ..=>(k:Int)
def wr:Nat->Tr->List Nd
 | _,.leaf _=>[]
 | k,.node l a b=>⟨l,rt (k+1) a,rt (k+1+a.size) b⟩::(wr (k+1) a++wr (k+1+a.size) b)
theorem dS:∀(t:Tr)(k:Nat),(wr k t).length=t.size
 | .leaf _,_=>rfl
 | .node _ a b,k=>by simp only [wr,List.length_cons,List.length_append,dS a,dS b,Tr.size]
def OH (l:List Nd):Int->Tr->List Nat->Prop
 | n,.leaf i,I=>n=(if i then -2 else -1)/\I=[]
 | n,.node ln a b,I=>∃(k:Nat)(x:Nd)(A B:List Nat),n=(k:Int)/\l[k]?=some x/\x.ln=ln/\OH l x.left a A/\OH l x.right b B/\I=k::(A++B)
theorem EL:∀(t:Tr)(l pre post:List Nd)(k:Nat),l=pre++(wr k t++post)->pre.length=k->OH l (rt k t) t (List.range' k t.size)
 | .leaf i,l,pre,post,k,_,_=>⟨rfl,rfl⟩
 | .node ln a b,l,pre,post,k,hl,hp=>by
  refine ⟨k,⟨ln,rt (k+1) a,rt (k+1+a.size) b⟩,List.range' (k+1) a.size,List.range' (k+1+a.size) b.size,rfl,?_,rfl,?_,?_,?_⟩
  ·subst hl;rw [List.getElem?_append_right (by omega)];simp [hp,wr]
  ·refine EL a l (pre++[⟨ln,rt (k+1) a,rt (k+1+a.size) b⟩]) (wr (k+1+a.size) b++post) (k+1) ?_ (by simp [hp]);rw [hl];simp [wr]
  ·refine EL b l (pre++(⟨ln,rt (k+1) a,rt (k+1+a.size) b⟩::wr (k+1) a)) post (k+1+a.size) ?_ (by simp [hp,dS];omega);rw [hl];simp [wr]
  ·simp only [Tr.size];rw [List.range'_succ,←List.range'_append_1]
structure RS where
 seen:List Bool
 jy:Nat
 bad:Bool
def du (l:List Nd):Nat->Int->RS->Tr×RS
 | 0,_,s=>(.leaf false,s)
 | f+1,n,s=>
  if n=-2 then (.leaf true,s) else if n=-1 then (.leaf false,s) else if n<0 then (.leaf false,{ s with bad:=true })
  else match l[n.toNat]?,s.seen[n.toNat]? with
   | some x,some false=>
    if okL x.ln then
     let r1:=du l f x.left ⟨s.seen.set n.toNat true,s.jy+1,s.bad⟩
     let r2:=du l f x.right r1.2
     (.node x.ln r1.1 r2.1,r2.2)
    else (.leaf false,⟨s.seen.set n.toNat true,s.jy+1,true⟩)
   | _,_=>(.leaf false,{ s with bad:=true })
theorem count_set {l:List Bool}{k:Nat}(h:l[k]?=some false):(l.set k true).count false+1=l.count false:=by
 induction l generalizing k with
 | nil=>simp at h
 | cons x r ih=>
  cases k with
  | zero=>simp at h;subst h;simp
  | succ k=>
   simp at h;have:=ih h;simp only [List.set_cons_succ,List.count_cons];omega
theorem oZ (l:List Nd):∀(f:Nat)(n:Int)(s:RS),(du l f n s).2.seen.count false<=s.seen.count false/\(du l f n s).2.seen.length=s.seen.length
 | 0,_,_=>⟨Nat.le_refl _,rfl⟩
 | f+1,n,s=>by
  simp only [du];split
  ·exact ⟨Nat.le_refl _,rfl⟩
  ·split
   ·exact ⟨Nat.le_refl _,rfl⟩
   ·split
    ·exact ⟨Nat.le_refl _,rfl⟩
    ·split
     ·rename_i x hx hs;have hc:=count_set hs;split
      ·obtain ⟨c,a⟩:=oZ l f x.left ⟨s.seen.set n.toNat true,s.jy+1,s.bad⟩;obtain ⟨d,b⟩:=oZ l f x.right (du l f x.left ⟨s.seen.set n.toNat true,s.jy+1,s.bad⟩).2;dsimp only at c a d b ⊢;exact ⟨by omega,by rw [b,a,List.length_set]⟩
      ·dsimp only;exact ⟨by omega,by simp⟩
     ·exact ⟨Nat.le_refl _,rfl⟩
theorem tv (l:List Nd):∀(f:Nat)(n:Int)(s:RS),(du l f n s).2.jy+(du l f n s).2.seen.count false=s.jy+s.seen.count false
 | 0,_,_=>rfl
 | f+1,n,s=>by
  simp only [du];split
  ·rfl
  ·split
   ·rfl
   ·split
    ·rfl
    ·split
     ·rename_i x hx hs;have hc:=count_set hs;split
      ·have a:=tv l f x.left ⟨s.seen.set n.toNat true,s.jy+1,s.bad⟩;have b:=tv l f x.right (du l f x.left ⟨s.seen.set n.toNat true,s.jy+1,s.bad⟩).2;dsimp only at a b ⊢;omega
      ·dsimp only;omega
     ·rfl
theorem Ap {p:L3->Prop}{l:List Nd}(hl:∀x∈l,p x.ln):∀(f:Nat)(n:Int)(s:RS),(du l f n s).1.All p
 | 0,_,_=>trivial
 | f+1,n,s=>by
  simp only [du];split
  ·trivial
  ·split
   ·trivial
   ·split
    ·trivial
    ·split
     ·rename_i x hx hs;split
      ·exact ⟨hl x (List.mem_of_getElem? hx),Ap hl f _ _,Ap hl f _ _⟩
      ·trivial
     ·trivial
theorem va (l:List Nd):∀(f:Nat)(n:Int)(s:RS),(du l f n s).1.size+s.jy<=(du l f n s).2.jy
 | 0,_,_=>by simp [du,Tr.size]
 | f+1,n,s=>by
  simp only [du];split
  ·simp [Tr.size]
  ·split
   ·simp [Tr.size]
   ·split
    ·simp [Tr.size]
    ·split
     ·split
      ·rename_i x hx hs hok;have h1:=va l f x.left ⟨s.seen.set n.toNat true,s.jy+1,s.bad⟩;have a:=va l f x.right (du l f x.left ⟨s.seen.set n.toNat true,s.jy+1,s.bad⟩).2;dsimp only at h1 a ⊢;simp only [Tr.size];omega
      ·simp [Tr.size]
     ·simp [Tr.size]
def nL (s:List Bool)(I:List Nat):List Bool:=I.foldl (fun s k=>s.set k true) s
theorem vo:∀(I:List Nat)(s:List Bool)(k:Nat),k∉I->(nL s I)[k]?=s[k]?
 | [],_,_,_=>rfl
 | i::r,s,k,h=>by
  have:=vo r (s.set i true) k (fun a=>h (List.mem_cons_of_mem _ a));unfold nL at this ⊢;rw [List.foldl_cons,this,List.getElem?_set_ne (fun e=>h (by simp [e]))]
theorem As (l:List Nd):∀(t:Tr)(f:Nat)(n:Int)(s:RS)(I:List Nat),OH l n t I->I.Nodup->(∀k∈I,s.seen[k]?=some false)->t.All (fun x=>okL x=true)->t.size<f->du l f n s=(t,⟨nL s.seen I,s.jy+t.size,s.bad⟩)
 | .leaf i,f,n,s,I,⟨h1,h2⟩,_,_,_,hf=>by
  subst h2;obtain ⟨f,rfl⟩:∃g,f=g+1:=⟨f-1,by simp [Tr.size] at hf;omega⟩
  cases i with
  | true=>simp only [if_true] at h1;subst h1;simp [du,nL,Tr.size]
  | false=>
   have h1:n=-1:=by simpa using h1
   subst h1;simp [du,nL,Tr.size]
 | .node ln a b,f,n,s,I,⟨k,x,A,B,h1,h2,h3,h4,h5,h6⟩,hnd,hun,hok,hf=>by
  subst h1 h3 h6;obtain ⟨f,rfl⟩:∃g,f=g+1:=⟨f-1,by simp [Tr.size] at hf;omega⟩;rw [List.nodup_cons,List.nodup_append] at hnd;obtain ⟨p,q,r,u⟩:=hnd;have d:=hun k (by simp);simp only [Tr.size] at hf
  have v:=As l a f x.left ⟨s.seen.set k true,s.jy+1,s.bad⟩ A h4 q (fun j c=>by
   have:k≠j:=fun e=>p (by rw [e];simp [c]);dsimp only;rw [List.getElem?_set_ne this];exact hun j (by simp [c])) hok.2.1 (by omega)
  have w:=As l b f x.right ⟨nL (s.seen.set k true) A,s.jy+1+a.size,s.bad⟩ B h5 r (fun j c=>by
   have:k≠j:=fun e=>p (by rw [e];simp [c]);dsimp only;rw [vo A _ j (fun h=>u j h j c rfl),List.getElem?_set_ne this];exact hun j (by simp [c])) hok.2.2 (by omega)
  have m:¬((k:Int)=-2):=by omega
  have o:¬((k:Int)=-1):=by omega
  have y:¬((k:Int)<0):=by omega
  have z:du l (f+1) (k:Int) s=(.node x.ln (du l f x.left ⟨s.seen.set k true,s.jy+1,s.bad⟩).1 (du l f x.right (du l f x.left ⟨s.seen.set k true,s.jy+1,s.bad⟩).2).1,(du l f x.right (du l f x.left ⟨s.seen.set k true,s.jy+1,s.bad⟩).2).2):=by
   rw [du];rw [if_neg m,if_neg o,if_neg y];simp only [Int.toNat_natCast,h2,d,hok.1,if_true]
  rw [z,v];dsimp only;rw [w];simp only [nL,List.foldl_cons,List.foldl_append,Tr.size,Prod.mk.injEq,RS.mk.injEq,true_and];first|omega|exact ⟨by omega,trivial⟩
def ofT (l:List Nd)(root:Int):Option Tr:=
 if 65536<l.length then none else
 let r:=du l (l.length+1) root ⟨List.replicate l.length false,0,false⟩
 if r.2.bad=true\/r.2.jy≠l.length then none else some r.1
theorem K7 {l:List Nd}{n:Int}{t:Tr}{I:List Nat}(h:OH l n t I)(hn:I.Nodup)(hI:∀k∈I,k<l.length)(hs:t.size=l.length)(hok:t.All fun x=>okL x=true)(hl:l.length<=65536):ofT l n=some t:=by
 unfold ofT;rw [if_neg (by omega)];rw [As l t (l.length+1) n _ I h hn (fun k a=>by simp [hI k a]) hok (by omega)];simp [hs]
theorem NM {t:Tr}(hok:t.All fun x=>okL x=true)(hl:t.size<=65536):ofT (wr 0 t) (rt 0 t)=some t:=by
 have h:=EL t (wr 0 t) [] [] 0 (by simp) rfl;refine K7 h List.nodup_range' (fun k a=>?_) (dS t 0).symm hok (by rw [dS];exact hl);rw [dS];have:=List.mem_range'_1.1 a;omega
theorem ofT_all {p:L3->Prop}{l:List Nd}{n:Int}{t:Tr}(hl:∀x∈l,p x.ln)(h:ofT l n=some t):t.All p:=by
 unfold ofT at h;split at h
 ·cases h
 ·dsimp only at h;split at h
  ·cases h
  ·cases h;exact Ap hl _ _ _
theorem ofT_size {l:List Nd}{n:Int}{t:Tr}(h:ofT l n=some t):t.size<=65536:=by
 unfold ofT at h;split at h
 ·cases h
 ·dsimp only at h;split at h
  ·cases h
  ·rename_i b a;cases h;have:=va l (l.length+1) n ⟨List.replicate l.length false,0,false⟩;dsimp only at this
   have c:(du l (l.length+1) n ⟨List.replicate l.length false,0,false⟩).2.jy=l.length:=by
    rcases Nat.lt_or_ge 0 1 with _|h
    ·by_cases e:(du l (l.length+1) n ⟨List.replicate l.length false,0,false⟩).2.jy=l.length
     ·exact e
     ·exact absurd (.inr e) a
    ·omega
   omega
def Zm (n Sm i:Nat):Nat:=n-1-(i+Sm)%n
def mv (n Sm:Nat)(i:Int):Int:=if i<0 then i else (Zm n Sm i.toNat:Int)
end Go.Proofs.Tryz
namespace Go.Eng
open Go.Big
def r_ (V:View)(v:Value)(a b c:Rat):Prop:=∃(x1 x2:Int)(p:OA)(y1 y2:Int)(q:OA)(z1 z2:Int)(r:OA),v=.agg #[.int .i64 x1,.int .i64 x2,.pointer p,.int .i64 y1,.int .i64 y2,.pointer q,.int .i64 z1,.int .i64 z2,.pointer r] /\
 RR V (.agg #[.int .i64 x1,.int .i64 x2,.pointer p]) a/\RR V (.agg #[.int .i64 y1,.int .i64 y2,.pointer q]) b/\RR V (.agg #[.int .i64 z1,.int .i64 z2,.pointer r]) c
def Ki (v:Value):Prop:=∃(x1 x2:Int)(x3:OA)(y1 y2:Int)(y3:OA)(z1 z2:Int)(z3:OA),v=.agg #[.int .i64 x1,.int .i64 x2,.pointer x3,.int .i64 y1,.int .i64 y2,.pointer y3,.int .i64 z1,.int .i64 z2,.pointer z3]
theorem r_.le {V V':View}{v:Value}{a b c:Rat}(h:r_ V v a b c)(l:V.Le V'):r_ V' v a b c:=by
 obtain ⟨d,e,p,f,g,q,i,j,r,rfl,k,m,n⟩:=h;exact ⟨d,e,p,f,g,q,i,j,r,rfl,k.le l,m.le l,n.le l⟩
end Go.Eng
namespace Go.Proofs.Tryz
open Go.Eng Go.Big
theorem Gn {V:View}{v:Value}{a b c:Rat}(h:r_ V v a b c){k:Nat}(s1:Sz k a)(s2:Sz k b)(s3:Sz k c)(hk:k<=1099511627776) :
  Acts prog 96 #[v] V fun r V'=>RL V' r a.num b.num c.num:=by
 obtain ⟨w,x,p,y,z,q,A,B,r,rfl,m,n,o⟩:=h;refine xo _ _ _ _ _ _ _ _ _ V _ fun C d=>(fC (m.le d) s1 hk).mono ?_;rintro r V2 i ⟨D,E,F,rfl,s⟩;refine ⟨_,_,_,_,rfl,fun G e=>(fC (n.le (d.trans (i.trans e))) s2 hk).mono ?_⟩;rintro r H j ⟨I,J,K,rfl,t⟩;refine ⟨_,_,_,_,rfl,fun L f=>(fC (o.le (d.trans (i.trans (e.trans (j.trans f))))) s3 hk).mono ?_⟩;rintro r M l ⟨N,O,P,rfl,u⟩;exact ⟨_,_,_,_,rfl,fun Q g=>⟨_,_,_,_,_,_,_,_,_,rfl,s.le (e.trans (j.trans (f.trans (l.trans g)))),t.le (f.trans (l.trans g)),u.le g⟩⟩
def uY (b1:Bool)(xs:List Nat)(b2:Bool)(ys:List Nat)(b3:Bool)(zs:List Nat):Bool:=
 kW b1 xs&&kW b2 ys&&kW b3 zs&&!(decide ((aQ b1 xs:Rat)=0)&&decide ((aQ b2 ys:Rat)=0))&&decide (gN (gN (aQ b1 xs) (aQ b2 ys)) (aQ b3 zs)=((1:Int):Rat))
theorem qI {V:View}{ok:Bool}{A B C:Rat}(h:ok=false):∃v,Value.tuple #[.agg #[.int .i64 0,.int .i64 0,.pointer none,.int .i64 0,.int .i64 0,.pointer none,.int .i64 0,.int .i64 0,.pointer none],.bool false]=.tuple #[v,.bool ok]/\Ki v/\(ok=true->r_ V v A B C):=by
 subst h;exact ⟨_,rfl,⟨_,_,_,_,_,_,_,_,_,rfl⟩,fun h=>nomatch h⟩
theorem JM:Sz 1 ((1:Int):Rat):=by unfold Sz;decide
theorem tS {V:View}(b1 b2 b3:Bool){p q s:OA}{n c m e i j:Nat}{xs ys zs:List Nat}(hx:RD V p n c xs)(hy:RD V q m e ys)(hz:RD V s i j zs)
  (h1:xs.length<=1099511627776)(h2:ys.length<=1099511627776)(h3:zs.length<=1099511627776){k:Nat}(s1:Sz k (aQ b1 xs:Rat))(s2:Sz k (aQ b2 ys:Rat))(s3:Sz k (aQ b3 zs:Rat))(hk:4*k+4<1099511627776) :
  Acts prog 132 #[.agg #[.bool b1,.slice p n c,.bool b2,.slice q m e,.bool b3,.slice s i j]] V fun r V'=>∃v,r=.tuple #[v,.bool (uY b1 xs b2 ys b3 zs)]/\Ki v/\(uY b1 xs b2 ys b3 zs=true->r_ V' v (aQ b1 xs) (aQ b2 ys) (aQ b3 zs)):=by
 refine Dc _ p n c _ q m e _ s i j V _ fun V1 J=>(fQ b1 (hx.le J) h1).mono ?_;rintro r V2 L rfl;refine ⟨_,rfl,fun l V3 l3=>qI ?_,fun l V4 M=>(fQ b2 (hy.le (J.trans (L.trans M))) h2).mono ?_⟩
 ·have l:kW b1 xs=false:=by simpa using l
  simp [uY,l]
 have l:kW b1 xs=true:=by simpa using l
 rintro r V5 Y rfl;refine ⟨_,rfl,fun o V6 l6=>qI ?_,fun o V7 Z=>(fQ b3 (hz.le (J.trans (L.trans (M.trans (Y.trans Z))))) h3).mono ?_⟩
 ·have o:kW b2 ys=false:=by simpa using o
  simp [uY,o]
 have o:kW b2 ys=true:=by simpa using o
 rintro r V8 l8 rfl;have NB:=J.trans (L.trans (M.trans (Y.trans (Z.trans l8))));refine ⟨_,rfl,fun f0 V9 l9=>qI ?_,fun f0 a0 D=>(kh b1 (hx.le (NB.trans D)) h1).mono ?_⟩
 ·have f0:kW b3 zs=false:=by simpa using f0
  simp [uY,f0]
 have f0:kW b3 zs=true:=by simpa using f0
 rintro r a1 N t;obtain ⟨x1,x2,x3,rfl⟩:=t.shape;have PO:=NB.trans (D.trans N);refine ⟨_,_,_,rfl,fun a2 w=>(kh b2 (hy.le (PO.trans w)) h2).mono ?_⟩;rintro r a3 E u;obtain ⟨y1,y2,y3,rfl⟩:=u.shape;have TE:=PO.trans (w.trans E);refine ⟨_,_,_,rfl,fun a4 O=>(kh b3 (hz.le (TE.trans O)) h3).mono ?_⟩;rintro r g dh rc;obtain ⟨z1,z2,z3,rfl⟩:=rc.shape
 replace t:=t.le (w.trans (E.trans (O.trans dh)))
 replace u:=u.le (O.trans dh)
 have F:uY b1 xs b2 ys b3 zs=(!(decide ((aQ b1 xs:Rat)=0)&&decide ((aQ b2 ys:Rat)=0))&&decide (gN (gN (aQ b1 xs) (aQ b2 ys)) (aQ b3 zs)=((1:Int):Rat))):=by
  simp only [uY,l,o,f0,Bool.true_and]
 rw [F];clear F l o f0 hx hy hz;generalize (aQ b1 xs:Rat)=A at *;generalize (aQ b2 ys:Rat)=B at *;generalize (aQ b3 zs:Rat)=C at *;refine ⟨_,_,_,rfl,fun j9 K=>(Bw (t.le K)).mono ?_⟩;rintro r ng P rfl;refine ⟨_,rfl,fun t0 oo dk=>(Bw (u.le (K.trans (P.trans dk)))).mono ?_,fun t0 Q R=>?_⟩
 ·rintro r se d_ rfl;refine ⟨_,rfl,fun S DB gY=>qI (by rw [t0,S];rfl),fun S Q R=>?_⟩;have lb:g.Le Q:=K.trans (P.trans (dk.trans (d_.trans R)));have T:(decide (A=0)&&decide (B=0))=false:=by rw [S,Bool.and_false]
  rw [T];refine (kg (t.le lb) (u.le lb) s1 s2 (by omega)).mono ?_;rintro r rf G rg;obtain ⟨g1,g2,g3,rfl⟩:=rg.shape;refine ⟨_,_,_,rfl,fun tE x=>(kg (rg.le x) (rc.le (lb.trans (G.trans x))) (mi s1 s2) s3 (by omega)).mono ?_⟩;rintro r Ge U H;obtain ⟨h1,h2,h3,rfl⟩:=H.shape;refine ⟨_,_,_,rfl,fun DH d=>(ig 1 (by omega) (by omega)).mono ?_⟩;rintro r LS f I;obtain ⟨i1,i2,i3,rfl⟩:=I.shape;refine ⟨_,_,_,rfl,fun Oh a=>(yk (H.le (d.trans (f.trans a))) (I.le a) (mi (mi s1 s2) s3) JM (by omega)).mono ?_⟩;rintro r W X rfl;have y:g.Le W:=lb.trans (G.trans (x.trans (U.trans (d.trans (f.trans (a.trans X))))));refine ⟨_,rfl,fun b Rj Af=>qI ?_,fun b Kl z=>?_⟩
  ·rw [Bool.not_eq_true'] at b;rw [b];rfl
  ·have b:decide (gN (gN A B) C=((1:Int):Rat))=true:=by
    cases h:decide (gN (gN A B) C=((1:Int):Rat))
    ·rw [h] at b;cases b
    ·rfl
   rw [b];exact ⟨_,rfl,⟨_,_,_,_,_,_,_,_,_,rfl⟩,fun _=>⟨_,_,_,_,_,_,_,_,_,rfl,t.le (y.trans z),u.le (y.trans z),rc.le (y.trans z)⟩⟩
 ·have lb:g.Le Q:=K.trans (P.trans R);have T:(decide (A=0)&&decide (B=0))=false:=by rw [t0,Bool.false_and]
  rw [T];refine (kg (t.le lb) (u.le lb) s1 s2 (by omega)).mono ?_;rintro r rf G rg;obtain ⟨g1,g2,g3,rfl⟩:=rg.shape;refine ⟨_,_,_,rfl,fun tE x=>(kg (rg.le x) (rc.le (lb.trans (G.trans x))) (mi s1 s2) s3 (by omega)).mono ?_⟩;rintro r Ge U H;obtain ⟨h1,h2,h3,rfl⟩:=H.shape;refine ⟨_,_,_,rfl,fun DH d=>(ig 1 (by omega) (by omega)).mono ?_⟩;rintro r LS f I;obtain ⟨i1,i2,i3,rfl⟩:=I.shape;refine ⟨_,_,_,rfl,fun Oh a=>(yk (H.le (d.trans (f.trans a))) (I.le a) (mi (mi s1 s2) s3) JM (by omega)).mono ?_⟩;rintro r W X rfl;have y:g.Le W:=lb.trans (G.trans (x.trans (U.trans (d.trans (f.trans (a.trans X))))));refine ⟨_,rfl,fun b Rj Af=>qI ?_,fun b Kl z=>?_⟩
  ·rw [Bool.not_eq_true'] at b;rw [b];rfl
  ·have b:decide (gN (gN A B) C=((1:Int):Rat))=true:=by
    cases h:decide (gN (gN A B) C=((1:Int):Rat))
    ·rw [h] at b;cases b
    ·rfl
   rw [b];exact ⟨_,rfl,⟨_,_,_,_,_,_,_,_,_,rfl⟩,fun _=>⟨_,_,_,_,_,_,_,_,_,rfl,t.le (y.trans z),u.le (y.trans z),rc.le (y.trans z)⟩⟩
def K9:List Int->Int
 | []=>0
 | x::r=>if x=0 then K9 r else x
def Nv (l:List Int):List Value:=l.map fun x=>Value.int .i64 x
theorem NP {l:List Int}:K9 l=0↔∀x∈l,x=0:=by
 induction l with
 | nil=>simp [K9]
 | cons x r ih=>
  simp only [K9,List.mem_cons,forall_eq_or_imp];split
  ·rename_i h;simp [h,ih]
  ·rename_i h;simp [h]
theorem HW {V:View}{p:OA}{n c:Nat}{l:List Int}(hl:n=l.length)(hs:V.sl p (Nv l))(hm:l.length<=1099511627776) :
  Acts prog 245 #[.slice p n c] V fun r V'=>r=.int .i64 (K9 l):=by
 refine Hn p n c V _ ⟨fun z V'=>0<=z/\z<=n/\K9 l=K9 (l.drop z.toNat),fun z=>n-z.toNat,⟨0,by (try dsimp only);and_intros<;>first|exact True.intro|rfl,by (try dsimp only);omega,by (try dsimp only);omega,rfl⟩,?_⟩;rintro i m j ⟨e,f,he⟩;dsimp only at f he ⊢;obtain ⟨i,rfl⟩:=Int.eq_ofNat_of_zero_le e;simp only [Int.toNat_natCast] at he;refine ⟨by trivial,fun b=>?_,fun b o q=>?_⟩
 ·have b:i<n:=by simpa using b
  have d:i<l.length:=by omega
  obtain ⟨k,h,g⟩:=(j.sl hs) i (.int .i64 l[i]) (by simp [Nv,d]);rw [List.drop_eq_getElem_cons d,K9] at he;refine ⟨by rw [h];rfl,⟨by omega,by omega⟩,l[i],⟨k.add i,by rw [h];simp [addrAdd],g⟩,fun a V2 s=>?_,fun a=>?_⟩
  ·have a:l[i]≠0:=by simpa using a
   rw [if_neg a] at he;rw [he]
  ·have a:l[i]=0:=by simpa using a
   rw [if_pos a] at he;have w:i64.wrap ((i:Int)+1)=((i+1:Nat):Int):=by rw [i64w (by omega)];omega
   simp only [w];refine ⟨((i+1:Nat):Int),?_,by (try dsimp only);and_intros<;>first|exact True.intro|rfl,by (try dsimp only);omega,by (try dsimp only);omega,?_⟩
   ·(try dsimp only);omega
   ·exact he
 ·have b:i=n:=by simp at b;omega
  rw [List.drop_of_length_le (by omega)] at he;rw [he];rfl
theorem Gp {V:View}{v w:Value}{a b c a' b' c':Rat}(hx:r_ V v a b c)(hy:r_ V w a' b' c'){k m:Nat}(s1:Sz k a)(s2:Sz k b)(s3:Sz k c)(t1:Sz m a')(t2:Sz m b')(t3:Sz m c')(hk:k+m<1099511627776) :
  Acts prog 231 #[v,w] V fun r V'=>r=.int .i64 (K9 [eY a a',eY b b',eY c c']):=by
 obtain ⟨A,B,p,C,D,q,E,F,r,rfl,j,n,o⟩:=hx;obtain ⟨G,H,I,J,K,L,M,N,O,rfl,s,t,u⟩:=hy;refine xr _ _ _ _ _ _ _ _ _ _ _ _ _ _ _ _ _ _ V _ fun P d=>(kf (j.le d) (s.le d) s1 t1 hk).mono ?_;rintro r V2 f rfl;refine ⟨_,rfl,fun Q g=>(kf (n.le (d.trans (f.trans g))) (t.le (d.trans (f.trans g))) s2 t2 hk).mono ?_⟩;rintro r R x rfl;have e:=d.trans (f.trans (g.trans x));refine ⟨_,rfl,fun S h=>(kf (o.le (e.trans h)) (u.le (e.trans h)) s3 t3 hk).mono ?_⟩;rintro r T U rfl;refine ⟨_,rfl,fun W X Y y=>(HW (l:=[eY a a',eY b b',eY c c']) rfl (fun i v z=>⟨_,rfl,by rw [add_zero'];exact blk_at (xs:=Nv [eY a a',eY b b',eY c c']) y z⟩) (by simp)).mono ?_⟩;rintro r Z l8 rfl;exact ⟨_,rfl,fun _ V9 l9=>rfl⟩
theorem Bz {V:View}{v w:Value}{a b c a' b' c':Rat}(hx:r_ V v a b c)(hy:r_ V w a' b' c'){k m:Nat}(s1:Sz k a)(s2:Sz k b)(s3:Sz k c)(t1:Sz m a')(t2:Sz m b')(t3:Sz m c')(hk:k+m<1099511627776) :
  Acts prog 197 #[v,w] V fun r V'=>r=.bool (decide (a=a'/\b=b'/\c=c')):=by
 have d:=hx;have e:=hy;obtain ⟨g,h,p,i,j,q,l,n,r,rfl,-,-,-⟩:=hx;obtain ⟨o,s,t,u,x,y,z,A,B,rfl,-,-,-⟩:=hy;refine sJ _ _ _ _ _ _ _ _ _ _ _ _ _ _ _ _ _ _ V _ fun C f=>(Gp (d.le f) (e.le f) s1 s2 s3 t1 t2 t3 hk).mono ?_;rintro r V2 D rfl;refine ⟨_,rfl,fun E F=>?_⟩;congr 1;rw [Bool.eq_iff_iff,decide_eq_true_eq,beq_iff_eq,NP];simp [←iV]
theorem addadd (a:Addr)(i j:Nat):(a.add i).add j=a.add (i+j):=by
 unfold Addr.add;by_cases b:i=0
 ·subst b;simp
 ·by_cases c:j=0
  ·subst c;simp [b]
  ·simp [b,c,Nat.add_assoc]
theorem rdc {V:View}{b:Nat}{xs:List Value}{ty:TypeId}{m:Nat×Nat}(h:V.bg b (.cells xs.toArray ty m))(i:Nat){v:Value}(hv:xs[i]?=some v):∃a,addrAdd (some ⟨b,0,none⟩) i=some a/\V.at a v:=
 ⟨⟨b,i,none⟩,by simp [addrAdd,add_zero'],blk_at h hv⟩
theorem Cy {a b c:Int}:uY (decide (a<0)) (af a.natAbs) (decide (b<0)) (af b.natAbs) (decide (c<0)) (af c.natAbs)=okL (a,b,c):=by
 have d:∀z:Int,kW (decide (z<0)) (af z.natAbs)=true:=by
  intro z;unfold kW;rw [ab];simp only [decide_true,Bool.true_and];by_cases h:z<0
  ·simp only [h,decide_true,Bool.not_true,Bool.false_or,decide_eq_true_eq];intro e;have:=bw.1 e;omega
  ·simp [h]
 have j:gN (gN (a:Rat) (b:Rat)) (c:Rat)=((iu a b c:Nat):Int):=by
  have g:∀x y:Int,gN (x:Rat) (y:Rat)=((Nat.gcd x.natAbs y.natAbs:Nat):Int):=by
   intro x y;unfold gN;have k:((x:Rat)).num=x:=rfl;have l:((y:Rat)).num=y:=rfl;have m:((x:Rat)).den=1:=rfl;have n:((y:Rat)).den=1:=rfl;rw [k,l,m,n];simp only [Nat.mul_one];exact Rat.mkRat_one _
  rw [g,g];rfl
 unfold uY okL;rw [d,d,d,aA,aA,aA,j];have o:∀z:Int,((z:Rat)=0)↔z=0:=fun z=>by exact Rat.intCast_eq_zero_iff
 simp only [Bool.true_and,o];rw [Bool.eq_iff_iff];simp only [Bool.and_eq_true,Bool.not_eq_true',Bool.and_eq_false_iff,decide_eq_false_iff_not,decide_eq_true_eq]
 have p:(((iu a b c:Nat):Int):Rat)=((1:Int):Rat)↔iu a b c=1:=by
  rw [Rat.intCast_inj];omega
 rw [p];constructor
 ·rintro ⟨h,f⟩;exact ⟨fun e=>by rcases h with h|h;exact h e.1;exact h e.2,f⟩
 ·rintro ⟨h,f⟩;refine ⟨?_,f⟩;by_cases i:a=0
  ·exact .inr fun q=>h ⟨i,q⟩
  ·exact .inl i
theorem AK {z:Int}{k:Nat}(h:z.natAbs<2^k)(hk:0<k):Sz k (z:Rat):=⟨h,Nat.one_lt_two_pow (by omega)⟩
theorem Bd.af {x:L3}(h:Bd x):(af x.1.natAbs).length<=1000/\(af x.2.1.natAbs).length<=1000/\(af x.2.2.natAbs).length<=1000:=⟨ae h.1,ae h.2.1,ae h.2.2⟩
theorem Bd.sz {x:L3}(h:Bd x):Sz 1000 (x.1:Rat)/\Sz 1000 (x.2.1:Rat)/\Sz 1000 (x.2.2:Rat):=⟨AK h.1 (by omega),AK h.2.1 (by omega),AK h.2.2 (by omega)⟩
theorem BA {V:View}{v:Value}{x:L3}(h:RL V v x.1 x.2.1 x.2.2)(hb:Bd x) :
  Acts prog 132 #[v] V fun r V'=>∃w,r=.tuple #[w,.bool (okL x)]/\Ki w/\(okL x=true->r_ V' w x.1 x.2.1 x.2.2):=by
 obtain ⟨p,n,s,f,g,i,q,m,e,rfl,b,c,d⟩:=h;obtain ⟨d1,d2,d3⟩:=hb.af;obtain ⟨s1,s2,s3⟩:=hb.sz;have a:=tS (V:=V) (decide (x.1<0)) (decide (x.2.1<0)) (decide (x.2.2<0)) b c d (by omega) (by omega) (by omega) (k:=1000) (by rw [aA];exact s1) (by rw [aA];exact s2) (by rw [aA];exact s3) (by omega);rw [Cy,aA,aA,aA] at a;exact a
def RT (V:View):OA->Tr->Prop
 | p,.leaf i=>∃(b:Nat)(c0 c1 c2 c3 c4 c5 c6 c7 c8:Value)(r:OA),p=some ⟨b,0,none⟩/\V.bg b (.cells #[c0,c1,c2,c3,c4,c5,c6,c7,c8,.pointer none,.pointer r,.bool i] 122 (0,0))
 | p,.node l x y=>∃(b:Nat)(x1 x2:Int)(x3:OA)(y1 y2:Int)(y3:OA)(z1 z2:Int)(z3:OA)(pl pr:OA)(i:Bool),p=some ⟨b,0,none⟩ /\
   V.bg b (.cells #[.int .i64 x1,.int .i64 x2,.pointer x3,.int .i64 y1,.int .i64 y2,.pointer y3,.int .i64 z1,.int .i64 z2,.pointer z3,.pointer pl,.pointer pr,.bool i] 122 (0,0)) /\
   r_ V (.agg #[.int .i64 x1,.int .i64 x2,.pointer x3,.int .i64 y1,.int .i64 y2,.pointer y3,.int .i64 z1,.int .i64 z2,.pointer z3]) l.1 l.2.1 l.2.2/\RT V pl x/\RT V pr y
theorem RT.le {V V':View}(h:V.Le V'):∀{t:Tr} {p:OA},RT V p t->RT V' p t
 | .leaf i,p,⟨b,c0,c1,c2,c3,c4,c5,c6,c7,c8,r,e,hb⟩=>⟨b,c0,c1,c2,c3,c4,c5,c6,c7,c8,r,e,h _ _ hb⟩
 | .node l x y,p,⟨b,x1,x2,x3,y1,y2,y3,z1,z2,z3,pl,pr,i,e,hb,hl,hx,hy⟩=>⟨b,x1,x2,x3,y1,y2,y3,z1,z2,z3,pl,pr,i,e,h _ _ hb,hl.le h,RT.le h hx,RT.le h hy⟩
theorem RT.TB {V:View}{t:Tr}{p:OA}(h:RT V p t):p.isSome=true:=by
 cases t with
 | leaf i=>obtain ⟨b,a,c,d,e,f,g,j,k,m,r,rfl,n⟩:=h;rfl
 | node l x y=>obtain ⟨b,o,q,s,u,v,w,z,A,B,pl,C,i,rfl,-⟩:=h;rfl
theorem fP {V:View}(i:Bool):Acts prog 175 #[.bool i] V fun r V'=>∃p,r=.pointer p/\RT V' p (.leaf i):=
 C7 i V _ fun c d b a=>⟨_,rfl,b,_,_,_,_,_,_,_,_,_,_,rfl,a⟩
theorem c_bsp_IsLeaf {V:View}{p:OA}{t:Tr}(h:RT V p t):Acts prog 137 #[.pointer p] V fun r V'=>r=.bool t.Nx:=by
 cases t with
 | leaf i=>
  obtain ⟨b,g,j,k,m,n,o,q,s,u,r,rfl,c⟩:=h;exact kV _ V _ ⟨rfl,rfl,_,rdc c 9 rfl,fun d e=>rfl⟩
 | node l x y=>
  obtain ⟨b,v,w,z,A,B,C,D,E,F,pl,G,i,rfl,c,H,f,I⟩:=h;refine kV _ V _ ⟨rfl,rfl,_,rdc c 9 rfl,fun d e=>?_⟩;have:=f.TB
  cases pl with
  | none=>cases this
  | some a=>rfl
theorem Gm {V:View}{v:Value}{l:L3}{p q:OA}{x y:Tr}(hl:r_ V v l.1 l.2.1 l.2.2)(hx:RT V p x)(hy:RT V q y) :
  Acts prog 176 #[v,.pointer p,.pointer q] V fun r V'=>∃p',r=.pointer p'/\RT V' p' (.node l x y):=by
 have a:=hl;obtain ⟨e,f,g,h,i,j,k,m,n,rfl,-⟩:=hl;exact EU _ _ _ _ _ _ _ _ _ p q V _ fun o c b d=>⟨_,rfl,b,_,_,_,_,_,_,_,_,_,_,_,_,rfl,d,a.le c,hx.le c,hy.le c⟩
def J8 (V:View)(v:Value)(l:L3):Prop:=RL V v l.1 l.2.1 l.2.2\/okL l=false/\∃b1 p n c xs b2 q m e ys b3 s i j zs,v=.agg #[.bool b1,.slice p n c,.bool b2,.slice q m e,.bool b3,.slice s i j]/\RD V p n c xs/\RD V q m e ys/\RD V s i j zs /\
 uY b1 xs b2 ys b3 zs=false/\(xs.length<=1000000/\ys.length<=1000000/\zs.length<=1000000)/\Sz 1000000 (aQ b1 xs:Rat)/\Sz 1000000 (aQ b2 ys:Rat)/\Sz 1000000 (aQ b3 zs:Rat)
theorem J8.le {V V':View}{v:Value}{l:L3}(h:J8 V v l)(e:V.Le V'):J8 V' v l:=by
 rcases h with h|⟨a,b1,p,n,c,xs,b2,q,m,b,d,b3,s,i,j,f,g,k,o,r,t⟩
 ·exact .inl (h.le e)
 ·exact .inr ⟨a,b1,p,n,c,xs,b2,q,m,b,d,b3,s,i,j,f,g,k.le e,o.le e,r.le e,t⟩
theorem J8.ok {V:View}{v:Value}{l:L3}(h:J8 V v l)(ho:okL l=true):RL V v l.1 l.2.1 l.2.2:=by
 rcases h with h|⟨h,-⟩
 ·exact h
 ·rw [ho] at h;cases h
theorem zJ {V:View}{v:Value}{x:L3}(h:J8 V v x)(hb:Bd x) :
  Acts prog 132 #[v] V fun r V'=>∃w,r=.tuple #[w,.bool (okL x)]/\Ki w/\(okL x=true->r_ V' w x.1 x.2.1 x.2.2):=by
 rcases h with h|⟨a,b1,p,n,c,xs,b2,q,m,l,o,b3,s,i,j,t,rfl,b,d,e,f,⟨u,y,z⟩,s1,s2,s3⟩
 ·exact BA h hb
 ·refine (tS b1 b2 b3 b d e (by omega) (by omega) (by omega) s1 s2 s3 (by omega)).mono ?_;rintro r V2 A ⟨w,rfl,g,k⟩;rw [f] at k ⊢;rw [a];exact ⟨w,rfl,g,fun h=>by cases h⟩
def NR (V:View)(vs:List Value)(l:List Nd):Prop:=∀(i:Nat)(d:Nd),l[i]?=some d->∃(b1:Bool)(p1:OA)(n1 c1:Nat)(b2:Bool)(p2:OA)(n2 c2:Nat)(b3:Bool)(p3:OA)(n3 c3:Nat),
 (∀j v,([.bool b1,.slice p1 n1 c1,.bool b2,.slice p2 n2 c2,.bool b3,.slice p3 n3 c3,.int .i64 d.left,.int .i64 d.right]:List Value)[j]?=some v->vs[i*8+j]?=some v) /\
 J8 V (.agg #[.bool b1,.slice p1 n1 c1,.bool b2,.slice p2 n2 c2,.bool b3,.slice p3 n3 c3]) d.ln
theorem NR.le {V V':View}{vs:List Value}{l:List Nd}(h:NR V vs l)(hl:V.Le V'):NR V' vs l:=fun i d a=>by
 obtain ⟨b1,b,c,e,b2,f,g,j,b3,k,m,n,o,p⟩:=h i d a;exact ⟨b1,b,c,e,b2,f,g,j,b3,k,m,n,o,p.le hl⟩
structure NS (V:View) (p:OA) (n c:Nat) (l:List Nd):Prop where
 len:n=l.length
 cap:n<=c
 row:∃vs,V.sl p vs/\NR V vs l
 G3:p.isNone=true->c=0
theorem NS.le {V V':View}{p:OA}{n c:Nat}{l:List Nd}(h:NS V p n c l)(hl:V.Le V'):NS V' p n c l:=by
 obtain ⟨a,b,⟨d,e,f⟩,g⟩:=h;exact ⟨a,b,⟨d,hl.sl e,f.le hl⟩,g⟩
theorem NS.nil {V:View}:NS V none 0 0 []:=⟨rfl,Nat.le_refl _,⟨[],fun i v h=>by simp at h,fun i d h=>by simp at h⟩,fun _=>rfl⟩
theorem NS.TB {V:View}{p:OA}{n c:Nat}{l:List Nd}(h:NS V p n c l)(hn:n≠0):p.isSome=true:=by
 cases p with
 | none=>have:=h.G3 rfl;have:=h.cap;omega
 | some a=>rfl
def lg (l:List Bool):List Value:=l.map .bool
theorem Gj {l:List Bool}{i:Nat}{b:Bool}(h:l[i]?=some b):(lg l)[i]?=some (.bool b):=by simp [lg,h]
end Go.Proofs.Tryz
