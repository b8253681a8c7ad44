import Derived.Test.YthpmdmkmfoaamaaGreatDoorG12
import Derived.Test.YthpmdmkmfoaamaaGreatDoorG7
set_option linter.unusedVariables false
open Go.IntKind (i64 u64 u32)
namespace Go.bK
open Go.fV
def sJ (d:Nat):List Nat:=if d=1 then [] else ai d
def RQ (V:View)(v:Value)(q:Rat):Prop:=∃p n c p' n' c',v=.agg #[.bool (decide (q.num<0)),.slice p n c,.slice p' n' c'] /\
 RD V p n c (ai q.num.natAbs)/\RD V p' n' c' (sJ q.den)
theorem RQ.le {V V':View}{v:Value}{q:Rat}(h:RQ V v q)(l:V.Le V'):RQ V' v q:=by
 obtain ⟨p,n,c,p',n',c',e,h1,h2⟩:=h
 exact ⟨p,n,c,p',n',c',e,h1.le l,h2.le l⟩
theorem A0 {q:Rat}:sJ q.den=[]↔q.den=1:=by
 unfold sJ
 split
 ·rename_i h;simp [h]
 ·rename_i h
  rw [bC]
  have:=q.den_nz
  omega
end Go.bK
namespace Go.Proofs.Tryz
open Go.bK Go.fV
theorem mo {V:View}{q:Rat}{p:OA}{n c:Nat}(h:RD V p n c (sJ q.den)):n=0↔q.den=1:=by
 rw [←A0,h.len,List.length_eq_zero_iff]
theorem bY {V:View}(q:Rat){p p':OA}{n c n' c':Nat}(b:Bool)(h2:RD V p' n' c' (sJ q.den)) :
  ab prog 77 #[.agg #[.bool b,.slice p n c,.slice p' n' c']] V fun r V'=>∃p1 n1 c1,r=.slice p1 n1 c1/\RN V' p1 n1 c1 q.den:=by
 have hl:=mo h2
 refine DD b p n c p' n' c' V _ ⟨fun h0 V1 l1=>mZ.mono ?_,fun h0 V1 l1=>⟨_,_,_,rfl,?_⟩⟩
 ·rintro r V2 l2 ⟨p1,n1,c1,rfl,g⟩
  have:q.den=1:=hl.1 (by simp at h0;omega)
  rw [this]
  exact ⟨_,_,_,rfl,fun V3 l3=>⟨_,_,_,rfl,g.le l3⟩⟩
 ·have:q.den≠1:=fun e=>by have:=hl.2 e;simp at h0;omega
  unfold sJ at h2
  rw [if_neg this] at h2
  exact h2.le l1
theorem lM {V:View}{q:Rat}{z:Int}{d:Nat}{p p':OA}{n c n' c':Nat}(hn:q.num=z)(hd:q.den=d)(h1:RD V p n c (ai z.natAbs))(h2:RD V p' n' c' (sJ d)){b:Bool}(hb:b=decide (z<0)) :
  RQ V (.agg #[.bool b,.slice p n c,.slice p' n' c']) q:=by
 subst hn hd hb
 exact ⟨_,_,_,_,_,_,rfl,h1,h2⟩
theorem kS {V:View}(z:Int){d:Nat}{p q:OA}{n c m e:Nat}(hx:RN V p n c z.natAbs)(hy:RN V q m e d)(hm:(ai z.natAbs).length<=274877906944)(hn:(ai d).length<=274877906944)(hd:d≠0) :
  ab prog 74 #[.agg #[.bool (decide (z<0)),.slice p n c],.slice q m e] V fun r V'=>RQ V' r (mkRat z d):=by
 refine B7 _ p n c q m e V _ fun V1 l1=>(hJ (hx.le l1) (hy.le l1) hm hn).mono ?_
 rintro r V2 l2 ⟨p1,n1,c1,rfl,hg⟩
 have hgd:=Nat.gcd_dvd_right z.natAbs d
 have hgx:=Nat.gcd_dvd_left z.natAbs d
 have JD:0<Nat.gcd z.natAbs d:=Nat.gcd_pos_of_pos_right _ (by omega)
 have hgl:(ai (Nat.gcd z.natAbs d)).length<=274877906944:=Nat.le_trans (aI (Nat.le_of_dvd (by omega) hgd)) hn
 have sK:(mkRat z d).num=z / (Nat.gcd d z.natAbs:Nat):=by rw [Rat.num_mkRat,if_neg hd]
 have hden:(mkRat z d).den=d / Nat.gcd d z.natAbs:=by rw [Rat.den_mkRat,if_neg hd]
 rw [Nat.gcd_comm d] at sK hden
 generalize hG:Nat.gcd z.natAbs d=g at *
 generalize mkRat z d=w at *
 refine ⟨_,_,_,rfl,fun V3 l3=>mZ.mono ?_⟩
 rintro r V4 l4 ⟨p2,n2,c2,rfl,h1⟩
 refine ⟨_,_,_,rfl,fun V5 l5=>(iz (hg.le (l3.trans (l4.trans l5))) (h1.le l5) (by omega) (by decide)).mono ?_⟩
 rintro r V6 l6 rfl
 replace hx:=hx.le (l1.trans (l2.trans (l3.trans (l4.trans (l5.trans l6)))))
 replace hy:=hy.le (l1.trans (l2.trans (l3.trans (l4.trans (l5.trans l6)))))
 replace hg:=hg.le (l3.trans (l4.trans (l5.trans l6)))
 refine ⟨_,rfl,fun h0 V7 l7=>(cF (hx.le l7) (hg.le l7) hm hgl JD).mono ?_,fun h0 tq dR=>mZ.mono ?_⟩
 ·rintro r V8 l8 ⟨p4,n4,c4,p5,n5,c5,rfl,g1,-⟩
  have hnd:(mkRat z d).num.natAbs=(mkRat z d).num.natAbs:=rfl
  obtain ⟨k,hk⟩:=hgx
  have hk1:z.natAbs / g=k:=by rw [hk,Nat.mul_div_cancel_left _ JD]
  rw [hk1] at g1
  have hz:z=(g:Int)*(if z<0 then -(k:Int) else k):=by
   split
   ·rw [Int.mul_neg,←Int.natCast_mul,←hk];omega
   ·rw [←Int.natCast_mul,←hk];omega
  have hwn:w.num=(if z<0 then -(k:Int) else k):=by
   rw [sK]
   generalize (if z<0 then -(k:Int) else k)=t at *
   rw [hz,Int.mul_ediv_cancel_left _ (by omega)]
  refine ⟨_,_,_,_,_,_,rfl,fun V9 l9=>(cx _ (g1.le l9)).mono ?_⟩
  have Rl:(if decide (z<0)=true then -(k:Int) else k)=w.num:=by
   rw [hwn];simp
  rw [Rl]
  rintro r g_ l10 ⟨p7,n7,c7,rfl,g2⟩
  refine ⟨_,_,_,_,rfl,fun gW bI=>(cF (hy.le (l7.trans (l8.trans (l9.trans (l10.trans bI))))) (hg.le (l7.trans (l8.trans (l9.trans (l10.trans bI))))) hn hgl JD).mono ?_⟩
  rintro r lH cw ⟨p8,n8,c8,p9,n9,c9,rfl,g3,-⟩
  rw [←hden] at g3
  refine ⟨_,_,_,_,_,_,rfl,fun lU cd=>mZ.mono ?_⟩
  rintro r po dN ⟨HK,n10,c10,rfl,g4⟩
  have hdl:(ai w.den).length<=274877906944:=by rw [hden];exact Nat.le_trans (aI (Nat.div_le_self _ _)) hn
  refine ⟨_,_,_,rfl,fun nF dk=>(iz (g3.le (cd.trans (dN.trans dk))) (g4.le dk) (by omega) (by decide)).mono ?_⟩
  rintro r mW dm rfl
  refine ⟨_,rfl,fun h9 nN cP=>lM rfl rfl (g2.le (bI.trans (cw.trans (cd.trans (dN.trans (dk.trans (dm.trans cP))))))) ?_ rfl,fun h9 qI dZ=>lM rfl rfl (g2.le (bI.trans (cw.trans (cd.trans (dN.trans (dk.trans (dm.trans dZ))))))) ?_ rfl⟩
  ·have:w.den=1:=km.1 (by simpa using h9)
   rw [A0.2 this];exact RD.nil
  ·have:w.den≠1:=fun e=>by rw [km.2 e] at h9;simp at h9
   unfold sJ
   rw [if_neg this]
   exact g3.le (cd.trans (dN.trans (dk.trans (dm.trans dZ))))
 ·have hg1:g=1:=km.1 (by simpa using h0)
  have hwn:w.num=z:=by rw [sK,hg1];simp
  have hwd:w.den=d:=by rw [hden,hg1];simp
  rintro r An iQ ⟨Y6,n12,c12,rfl,g4⟩
  refine ⟨_,_,_,rfl,fun tu eh=>(iz (hy.le (dR.trans (iQ.trans eh))) (g4.le eh) (by omega) (by decide)).mono ?_⟩
  rintro r wi kq rfl
  refine ⟨_,rfl,fun h9 nN cP=>lM hwn hwd (hx.le (dR.trans (iQ.trans (eh.trans (kq.trans cP))))) ?_ rfl,fun h9 qI dZ=>lM hwn hwd (hx.le (dR.trans (iQ.trans (eh.trans (kq.trans dZ))))) ?_ rfl⟩
  ·have:d=1:=km.1 (by simpa using h9)
   unfold sJ
   rw [if_pos this];exact RD.nil
  ·have:d≠1:=fun e=>by rw [km.2 e] at h9;simp at h9
   unfold sJ
   rw [if_neg this]
   exact hy.le (dR.trans (iQ.trans (eh.trans (kq.trans dZ))))
theorem ki {V:View}(n:Int)(h0:-9223372036854775808<=n)(h1:n<=9223372036854775807) :
  ab prog 64 #[.int .i64 n] V fun r V'=>RQ V' r (n:Rat):=by
 refine Fi n V _ fun V1 l1=>(xT n h0 h1).mono ?_
 rintro r V2 l2 ⟨p,m,c,rfl,g⟩
 exact ⟨_,_,_,_,rfl,fun V3 l3=>lM (z:=n) (d:=1) rfl rfl (g.le l3) RD.nil rfl⟩
theorem tv {V:View}(q:Rat){p p':OA}{n c n' c':Nat}(h1:RD V p n c (ai q.num.natAbs)) :
  ab prog 59 #[.agg #[.bool (decide (q.num<0)),.slice p n c,.slice p' n' c']] V fun r V'=>r=.int .i64 q.num.sign:=by
 refine HA _ p n c p' n' c' V _ fun V1 l1=>(kU q.num (h1.le l1)).mono ?_
 rintro r V2 l2 rfl
 exact ⟨_,rfl,fun V3 l3=>rfl⟩
theorem m_ {V:View}(q:Rat){p p':OA}{n c n' c':Nat}(h1:RD V p n c (ai q.num.natAbs))(h2:RD V p' n' c' (sJ q.den)) :
  ab prog 61 #[.agg #[.bool (decide (q.num<0)),.slice p n c,.slice p' n' c']] V fun r V'=>RQ V' r (-q):=by
 refine DH _ p n c p' n' c' V _ fun V1 l1=>(gq q.num (h1.le l1)).mono ?_
 rintro r V2 l2 ⟨p1,n1,c1,rfl,g⟩
 exact ⟨_,_,_,_,rfl,fun V3 l3=>lM (q:=-q) (z:=-q.num) (d:=q.den) (by rfl) (by rfl) (g.le l3) ((h2.le l1).le (l2.trans l3)) rfl⟩
end Go.Proofs.Tryz
namespace Go.bK
open Go.fV
theorem RI.inv {V:View}{b:Bool}{p:OA}{n c:Nat}{z:Int}(h:RI V (.agg #[.bool b,.slice p n c]) z):b=decide (z<0)/\RD V p n c (ai z.natAbs):=by
 obtain ⟨p1,n1,c1,e,hn⟩:=h
 simp at e
 obtain ⟨rfl,rfl,rfl,rfl⟩:=e
 exact ⟨rfl,hn⟩
end Go.bK
namespace Go.Proofs.Tryz
open Go.bK Go.fV
theorem jm {V:View}{v:Value}{q:Rat}(h:RR V v q){k:Nat}(hs:Sz k q)(hk:k<=1099511627776) :
  ab prog 143 #[v] V fun r V'=>RI V' r q.num:=by
 rcases h with ⟨rfl,hw⟩|⟨a,b,p,n,c,p',n',c',rfl,h1,h2,h3,h4,h5,hw⟩
 ·have:=hw.1
  refine oe _ _ _ V _ ⟨(fun h0=>nomatch h0),fun _ V1 l1=>(jn _ (by omega) (by omega)).mono ?_⟩
  rintro r V2 l2 ⟨p,n,c,rfl,g⟩
  exact ⟨_,_,_,_,rfl,fun V3 l3=>⟨_,_,_,rfl,g.le l3⟩⟩
 ·obtain ⟨rfl,hn⟩:=h4.inv
  refine oe _ _ _ V _ ⟨fun _=>⟨rfl,rfl,decide (q.num<0),p,n,c,a.add 0,rfl,?_,?_,fun V1 l1=>(iI _ (hn.le l1) (Nat.le_trans (af hs.1) hk)).mono ?_⟩,fun h0=>nomatch h0⟩
  ·exact h1
  ·simpa [Addr.add] using h2
  ·rintro r V2 l2 ⟨p,n,c,rfl,g⟩
   rw [aH] at g ⊢
   exact ⟨_,_,_,_,rfl,fun V3 l3=>⟨_,_,_,rfl,g.le l3⟩⟩
theorem eE {V:View}{v:Value}{q:Rat}(h:RR V v q){k:Nat}(hs:Sz k q)(hk:k<=1099511627776) :
  ab prog 204 #[v] V fun r V'=>∃p n c,r=.slice p n c/\RN V' p n c q.den:=by
 rcases h with ⟨rfl,hw⟩|⟨a,b,p,n,c,p',n',c',rfl,h1,h2,h3,h4,h5,hw⟩
 ·have:=hw.2
  have hd:=q.den_nz
  refine nZ _ _ _ V _ ⟨(fun h0=>nomatch h0),fun _ V1 l1=>?_⟩
  rw [ar (by omega),aL (by omega)]
  refine (dE _ (by omega) (by omega)).mono ?_
  rintro r V2 l2 ⟨p,n,c,rfl,g⟩
  rw [show ((q.den:Int)-1+1).toNat=q.den from by omega] at g
  exact ⟨_,_,_,rfl,fun V3 l3=>⟨_,_,_,rfl,g.le l3⟩⟩
 ·refine nZ _ _ _ V _ ⟨fun _=>⟨rfl,rfl,_,_,_,⟨_,rfl,h3⟩,fun V1 l1=>(iK (h5.le l1) (Nat.le_trans (af hs.2) hk)).mono ?_⟩,fun h0=>nomatch h0⟩
  rintro r V2 l2 ⟨p,n,c,rfl,g⟩
  rw [ag] at g
  exact ⟨_,_,_,rfl,fun V3 l3=>⟨_,_,_,rfl,g.le l3⟩⟩
theorem iH {V:View}(n:Int)(h0:-9223372036854775808<n)(h1:n<=9223372036854775807) :
  ab prog 209 #[.int .i64 n] V fun r V'=>r=.int .u64 (n.natAbs:Int):=by
 refine BX n V _ ⟨fun h2 V1 l1=>?_,fun h2 V1 l1=>?_⟩
 ·have h2:n<0:=by simpa using h2
  rw [ar (by omega),aL (by omega)];congr 1;omega
 ·have h2:0<=n:=by simpa using h2
  rw [aL (by omega)];congr 1;omega
theorem ub {V:View}(x y:Nat)(hx:x<18446744073709551616)(hy:y<18446744073709551616) :
  ab prog 208 #[.int .u64 (x:Int),.int .u64 (y:Int)] V fun r V'=>r=.int .u64 (Nat.gcd x y:Int):=by
 refine BZ _ _ V _ ⟨fun z V'=>∃a b:Nat,z=((a:Int),(b:Int))/\Nat.gcd a b=Nat.gcd x y,fun z=>z.2.toNat,
  ⟨((x:Int),(y:Int)),by (try dsimp only);and_intros<;>trivial,x,y,rfl,rfl⟩,?_⟩
 rintro _ mW dm ⟨a,b,rfl,nk⟩
 dsimp only
 refine ⟨by trivial,fun h3=>?_,fun h3 nN cP=>?_⟩
 ·have h3:b≠0:=by rw [bne_iff_ne] at h3;omega
  have hlt:a%b<b:=Nat.mod_lt _ (by omega)
  have e4:(a:Int).tmod (b:Int)=((a%b:Nat):Int):=by rw [Int.tmod_eq_emod_of_nonneg (by omega),←Int.natCast_emod]
  rw [e4]
  exact ⟨by omega,((b:Int),((a%b:Nat):Int)),by (try dsimp only);rw [Int.toNat_natCast,Int.toNat_natCast];exact hlt,by (try dsimp only);and_intros<;>trivial,b,a%b,rfl,by rw [uD,nk]⟩
 ·have h3:b=0:=by rw [bne_eq_false_iff_eq] at h3;omega
  subst h3
  rw [Nat.gcd_zero_right] at nk
  rw [nk]
theorem fg {V:View}(a b:Int)(ha:a.natAbs<4611686018427387904)(hb:b.natAbs<4611686018427387904) :
  ab prog 200 #[.int .i64 a,.int .i64 b] V fun r V'=>∃z:Int,r=.tuple #[.int .i64 z,.bool (decide ((a*b).natAbs<4611686018427387904))]/\((a*b).natAbs<4611686018427387904->z=a*b):=by
 refine wZ a b V _ fun V1 l1=>(iH a (by omega) (by omega)).mono ?_
 rintro r V2 l2 rfl
 refine ⟨_,rfl,fun V3 l3=>(iH b (by omega) (by omega)).mono ?_⟩
 rintro r V4 l4 rfl
 refine ⟨_,rfl,fun V5 l5=>(H3 _ _ (by omega) (by omega)).mono ?_⟩
 rintro r V6 l6 rfl
 have nk:(a*b).natAbs=a.natAbs*b.natAbs:=Int.natAbs_mul a b
 have hsg:a*b=if (decide (a<0)==decide (b<0)) then ((a.natAbs*b.natAbs:Nat):Int) else -((a.natAbs*b.natAbs:Nat):Int):=by
  rw [Int.natCast_mul]
  by_cases h1:a<0<;>by_cases h2:b<0
  ·rw [decide_eq_true h1,decide_eq_true h2,show (a.natAbs:Int)=-a from by omega,show (b.natAbs:Int)=-b from by omega];simp [Int.neg_mul,Int.mul_neg]
  ·rw [decide_eq_true h1,decide_eq_false h2,if_neg (by decide),show (a.natAbs:Int)=-a from by omega,show (b.natAbs:Int)=b from by omega];simp [Int.neg_mul]
  ·rw [decide_eq_false h1,decide_eq_true h2,if_neg (by decide),show (a.natAbs:Int)=a from by omega,show (b.natAbs:Int)=-b from by omega];simp [Int.mul_neg]
  ·rw [decide_eq_false h1,decide_eq_false h2,show (a.natAbs:Int)=a from by omega,show (b.natAbs:Int)=b from by omega];simp
 rw [nk]
 generalize a.natAbs*b.natAbs=p at *
 refine ⟨_,_,rfl,fun h0 V7 l7=>?_,fun h0=>⟨fun h1 V7 l7=>?_,fun h1=>⟨fun h2 V7 l7=>?_,fun h2 V7 l7=>?_⟩⟩⟩
 ·have h0:18446744073709551616<=p:=by rw [bne_iff_ne] at h0;omega
  rw [decide_eq_false (by omega)]
  exact ⟨_,rfl,fun h=>by omega⟩
 ·have h1:4611686018427387904<=p:=by
   rw [decide_eq_true_eq] at h1;omega
  rw [decide_eq_false (by omega)]
  exact ⟨_,rfl,fun h=>by omega⟩
 ·have h0:p / 18446744073709551616=0:=by rw [bne_eq_false_iff_eq] at h0;omega
  have h1:p<4611686018427387904:=by rw [decide_eq_false_iff_not] at h1;omega
  rw [decide_eq_true h1,ar (x:=((p%18446744073709551616:Nat):Int)) (by omega),ar (by omega)]
  refine ⟨_,rfl,fun _=>?_⟩
  have h2:(decide (a<0)==decide (b<0))=false:=by simpa using h2
  rw [hsg,h2,if_neg (by decide)];omega
 ·have h0:p / 18446744073709551616=0:=by rw [bne_eq_false_iff_eq] at h0;omega
  have h1:p<4611686018427387904:=by rw [decide_eq_false_iff_not] at h1;omega
  rw [decide_eq_true h1,ar (x:=((p%18446744073709551616:Nat):Int)) (by omega)]
  refine ⟨_,rfl,fun _=>?_⟩
  have h2:(decide (a<0)==decide (b<0))=true:=by simpa using h2
  rw [hsg,h2,if_pos rfl];omega
theorem nP {V:View}(n:Int)(d:Nat)(hn:n.natAbs<4611686018427387904)(hd:d<4611686018427387904)(hd0:d≠0) :
  ab prog 201 #[.int .i64 n,.int .i64 (d:Int)] V fun r V'=>RR V' r (mkRat n d):=by
 refine vD n _ V _ fun V1 l1=>(iH n (by omega) (by omega)).mono ?_
 rintro r V2 l2 rfl
 rw [aL (x:=(d:Int)) (by omega)]
 refine ⟨_,rfl,fun V3 l3=>(ub _ _ (by omega) (by omega)).mono ?_⟩
 rintro r V4 l4 rfl
 have hgl:Nat.gcd n.natAbs d<=d:=Nat.le_of_dvd (by omega) (Nat.gcd_dvd_right _ _)
 have JD:0<Nat.gcd n.natAbs d:=Nat.gcd_pos_of_pos_right _ (by omega)
 have sK:=Rat.num_mkRat n d
 have hden:=Rat.den_mkRat n d
 rw [if_neg hd0,Nat.gcd_comm] at sK hden
 have hdvd:(Nat.gcd n.natAbs d:Int)∣n:=Int.ofNat_dvd_left.2 (Nat.gcd_dvd_left _ _)
 have hdl:d / Nat.gcd n.natAbs d<=d:=Nat.div_le_self _ _
 have hnl:(n / (Nat.gcd n.natAbs d:Int)).natAbs<=n.natAbs:=by
  rw [Int.natAbs_ediv_of_dvd hdvd,Int.natAbs_natCast];exact Nat.div_le_self _ _
 have hW:Wd (mkRat n d):=by unfold Wd;rw [sK,hden];omega
 refine ⟨_,rfl,?_⟩
 rw [ar (x:=((Nat.gcd n.natAbs d:Nat):Int)) (by omega)]
 refine ⟨fun h0=>⟨by omega,by omega,fun V5 l5=>.inl ⟨?_,hW⟩⟩,fun h0 V5 l5=>.inl ⟨?_,hW⟩⟩
 ·rw [sK,hden]
  have e1:n.tdiv (Nat.gcd n.natAbs d:Int)=n / (Nat.gcd n.natAbs d:Int):=Int.tdiv_eq_ediv_of_dvd hdvd
  have e2:(d:Int).tdiv (Nat.gcd n.natAbs d:Int)=((d / Nat.gcd n.natAbs d:Nat):Int):=by rw [Int.tdiv_eq_ediv_of_nonneg (by omega),←Int.natCast_ediv]
  rw [e1,e2]
  generalize n / (Nat.gcd n.natAbs d:Int)=nn at *
  generalize d / Nat.gcd n.natAbs d=dd at *
  rw [ar (by omega),ar (x:=(dd:Int)) (by omega),ar (by omega)]
 ·have h0:Nat.gcd n.natAbs d=1:=by rw [decide_eq_false_iff_not] at h0;omega
  rw [sK,hden,h0,ar (by omega)]
  simp
theorem mkRat_one (z:Int):mkRat z 1=(z:Rat):=by
 apply Rat.ext
 ·rw [Rat.num_mkRat];simp
 ·rw [Rat.den_mkRat];simp
theorem RD.one {V:View}{bk:Nat}{ty:TypeId}{m:Nat×Nat}(h:V.bE bk (.cells #[.int .u32 1] ty m)):RD V (some ⟨bk,0,none⟩) 1 1 [1]:=
 RD.bE (ds:=[1]) h (by simp [bV]) rfl (Nat.le_refl _)
theorem kP {V:View}(b:Bool){p:OA}{n c:Nat}{ds:List Nat}(h:RD V p n c ds)(hm:ds.length<=1099511627776) :
  ab prog 172 #[.agg #[.bool b,.slice p n c]] V fun r V'=>RR V' r (aY b ds:Rat):=by
 refine wY b p n c V _ fun V1 l1 bk hb=>(cq b (h.le l1) (RD.one hb) hm (by simp)).mono ?_
 rintro r V2 l2 hr
 have e:mkRat (aY b ds) (val [1])=(aY b ds:Rat):=mkRat_one _
 rw [e] at hr
 obtain ⟨n,d,p,rfl⟩:=hr.shape
 exact ⟨_,_,_,rfl,fun _ V3 l3=>hr.le l3⟩
theorem uI {z:Int}(h:z.natAbs<4611686018427387904):Wd (z:Rat):=⟨h,by show (1:Nat)<_;decide⟩
theorem kO {V:View}(n:Int)(h0:-9223372036854775808<=n)(h1:n<=9223372036854775807) :
  ab prog 146 #[.int .i64 n] V fun r V'=>RR V' r (n:Rat):=by
 have Jv:∀V1:View,V.Le V1->ab prog 183 #[.int .i64 n] V1 fun Xv V2=>∃FE:Bool,∃(GV:OA)(Gz FJ:Nat),Xv=.agg #[.bool FE,.slice GV Gz FJ]/\(∀V3:View,V2.Le V3->∀MD:Nat,V3.bE MD (.cells #[.int .u32 1] 186 (0,0))->ab prog 157 #[.agg #[.bool FE,.slice GV Gz FJ],.slice (some ⟨MD,0,none⟩) 1 1] V3 fun Xw V4=>∃Vp:Int,∃Vq:Int,∃U9:OA,Xw=.agg #[.int .i64 Vp,.int .i64 Vq,.pointer U9]/\∀Yz:C->Value,(∀V5:View,V4.Le V5->RR V5 (.agg #[.int .i64 Vp,.int .i64 Vq,.pointer U9]) (n:Rat))):=by
  intro V1 l1
  refine (jn n h0 h1).mono ?_
  rintro r V2 l2 ⟨p,m,c,rfl,g⟩
  refine ⟨_,_,_,_,rfl,fun V3 l3 bk hb=>(cq _ (g.le l3) (RD.one hb) (Nat.le_trans (af (k:=64) (by omega)) (by omega)) (by simp)).mono ?_⟩
  rintro r V4 l4 hr
  have e:mkRat (aY (decide (n<0)) (ai n.natAbs)) (val [1])=(n:Rat):=by rw [aH];exact mkRat_one _
  rw [e] at hr
  obtain ⟨n,d,p,rfl⟩:=hr.shape
  exact ⟨_,_,_,rfl,fun _ V3 l3=>hr.le l3⟩
 refine BW n V _ ⟨fun _=>Jv,fun h2=>⟨fun _=>Jv,fun h3 V1 l1=>.inl ⟨rfl,uI ?_⟩⟩⟩
 rw [decide_eq_false_iff_not] at h2 h3
 omega
theorem fa {V:View}{v:Value}{q:Rat}(h:RR V v q){k:Nat}(hs:Sz k q)(hk:k<=1099511627776) :
  ab prog 128 #[v] V fun r V'=>r=.int .i64 q.num.sign:=by
 rcases h with ⟨rfl,hw⟩|⟨a,b,p,n,c,p',n',c',rfl,h1,h2,h3,h4,h5,hw⟩
 ·refine mO _ _ _ V _ ⟨(fun h0=>nomatch h0),fun _=>⟨fun h V1 l1=>?_,fun h=>⟨fun h' V1 l1=>?_,fun h' V1 l1=>?_⟩⟩⟩
  ·rw [Int.sign_eq_neg_one_of_neg (by simpa using h)]
  ·rw [Int.sign_eq_one_of_pos (by simpa using h')]
  ·have:q.num=0:=by rw [decide_eq_false_iff_not] at h h';omega
   rw [this];rfl
 ·obtain ⟨rfl,hn⟩:=h4.inv
  refine mO _ _ _ V _ ⟨fun _=>⟨rfl,rfl,decide (q.num<0),p,n,c,a.add 0,rfl,?_,?_,fun V1 l1=>(mg _ (hn.le l1) (Nat.le_trans (af hs.1) hk)).mono ?_⟩,(fun h0=>nomatch h0)⟩
  ·exact h1
  ·simpa [Addr.add] using h2
  ·rintro r V2 l2 rfl
   rw [aH]
   exact ⟨_,rfl,fun V3 l3=>rfl⟩
theorem AB {V:View}{v:Value}{q:Rat}(h:RR V v q):ab prog 173 #[v] V fun r V'=>r=.bool (decide (q=0)):=by
 rcases h with ⟨rfl,hw⟩|⟨a,b,p,n,c,p',n',c',rfl,h1,h2,h3,h4,h5,hw⟩
 ·refine mP _ _ _ V _ ⟨fun _ V1 l1=>?_,(fun h0=>nomatch h0)⟩
  congr 1
  rw [Bool.eq_iff_iff,beq_iff_eq,decide_eq_true_eq]
  exact Rat.num_eq_zero
 ·refine mP _ _ _ V _ ⟨(fun h0=>nomatch h0),fun _ V1 l1=>?_⟩
  congr 1
  symm;rw [decide_eq_false_iff_not]
  intro e;subst e;exact hw ⟨by decide,by decide⟩
theorem pD {V:View}{v:Value}{q:Rat}(h:RR V v q){k:Nat}(hs:Sz k q)(hk:k<=1099511627776) :
  ab prog 186 #[v] V fun r V'=>RR V' r (-q):=by
 rcases h with ⟨rfl,hw⟩|⟨a,b,p,n,c,p',n',c',rfl,h1,h2,h3,h4,h5,hw⟩
 ·have:=hw.1
  refine oa _ _ _ V _ ⟨(fun h0=>nomatch h0),fun _ V1 l1=>.inl ⟨?_,by unfold Wd;rw [Rat.neg_num,Rat.neg_den,Int.natAbs_neg];exact hw⟩⟩
  rw [ar (by omega),Rat.neg_num,Rat.neg_den,Int.zero_sub]
 ·obtain ⟨rfl,hn⟩:=h4.inv
  refine oa _ _ _ V _ ⟨fun _=>⟨rfl,rfl,decide (q.num<0),p,n,c,a.add 0,rfl,?_,?_,rfl,rfl,p',n',c',⟨_,rfl,h3⟩,fun V1 l1=>(wB _ (hn.le l1) (Nat.le_trans (af hs.1) hk)).mono ?_⟩,(fun h0=>nomatch h0)⟩
  ·exact h1
  ·simpa [Addr.add] using h2
  ·rintro r V2 l2 Fq
   rw [aH] at Fq
   obtain ⟨p2,n2,c2,rfl,g⟩:=Fq
   refine ⟨_,_,_,_,rfl,fun V3 l3 bk hb=>.inr ⟨⟨bk,0,none⟩,decide (-q.num<0),p2,n2,c2,p',n',c',rfl,?_,?_,?_,?_,?_,?_⟩⟩
   ·rw [add_zero'];exact cU (xs:=[_,_,_]) hb rfl
   ·rw [add_zero'];exact cU (xs:=[_,_,_]) hb rfl
   ·rw [add_zero'];exact cU (xs:=[_,_,_]) hb rfl
   ·exact ⟨_,_,_,rfl,g.le l3⟩
   ·exact h5.le (l1.trans (l2.trans l3))
   ·unfold Wd;rw [Rat.neg_num,Rat.neg_den,Int.natAbs_neg];exact hw
theorem _root_.Go.bK.Sz.neg {k:Nat}{q:Rat}(h:Sz k q):Sz k (-q):=by unfold Sz;rw [Rat.neg_num,Rat.neg_den,Int.natAbs_neg];exact h
theorem uX (z:Int)(g:Nat)(h:(g:Int)∣z):(z / g).natAbs<=z.natAbs:=by
 rw [Int.natAbs_ediv_of_dvd h,Int.natAbs_natCast];exact Nat.div_le_self _ _
theorem _root_.Go.bK.Sz.mkRat {k:Nat}{z:Int}{d:Nat}(h1:z.natAbs<2^k)(h2:d<2^k)(hk:0<k):Sz k (mkRat z d):=by
 have h3:1<2^k:=Nat.one_lt_two_pow (by omega)
 unfold Sz
 rw [Rat.num_mkRat,Rat.den_mkRat]
 split
 ·exact ⟨Nat.two_pow_pos k,h3⟩
 ·refine ⟨Nat.lt_of_le_of_lt (uX _ _ (Int.ofNat_dvd_left.2 (Nat.gcd_dvd_right _ _))) h1,Nat.lt_of_le_of_lt (Nat.div_le_self _ _) h2⟩
theorem bA {a b k m:Nat}(h1:a<2^k)(h2:b<2^m):a*b<2^(k+m):=by rw [Nat.pow_add];exact Nat.mul_lt_mul'' h1 h2
theorem tN {x y:Rat}{k m:Nat}(hx:Sz k x)(hy:Sz m y):(x.num*y.den).natAbs<2^(k+m)/\(y.num*x.den).natAbs<2^(k+m)/\(x.num*y.den+y.num*x.den).natAbs<2^(k+m+1)/\x.den*y.den<2^(k+m):=by
 have h1:(x.num*y.den).natAbs<2^(k+m):=by rw [Int.natAbs_mul,Int.natAbs_natCast];exact bA hx.1 hy.2
 have h2:(y.num*x.den).natAbs<2^(k+m):=by rw [Int.natAbs_mul,Int.natAbs_natCast,Nat.add_comm];exact bA hy.1 hx.2
 refine ⟨h1,h2,?_,bA hx.2 hy.2⟩
 rw [Nat.pow_succ];omega
theorem _root_.Go.bK.Sz.add {x y:Rat}{k m:Nat}(hx:Sz k x)(hy:Sz m y):Sz (k+m+1) (x+y):=by
 obtain ⟨-,-,h3,h4⟩:=tN hx hy
 rw [Rat.add_def']
 exact Go.bK.Sz.mkRat h3 (Nat.lt_of_lt_of_le h4 (Nat.pow_le_pow_right (by omega) (by omega))) (by omega)
theorem _root_.Go.bK.Sz.sub {x y:Rat}{k m:Nat}(hx:Sz k x)(hy:Sz m y):Sz (k+m+1) (x-y):=by
 rw [Rat.sub_eq_add_neg];exact hx.add hy.neg
theorem _root_.Go.bK.Sz.mul {x y:Rat}{k m:Nat}(hx:Sz k x)(hy:Sz m y):Sz (k+m+1) (x*y):=by
 rw [Rat.mul_def']
 refine (Go.bK.Sz.mkRat (k:=k+m+1) ?_ ?_ (by omega))
 ·rw [Int.natAbs_mul];exact Nat.lt_of_lt_of_le (bA hx.1 hy.1) (Nat.pow_le_pow_right (by omega) (by omega))
 ·exact Nat.lt_of_lt_of_le (bA hx.2 hy.2) (Nat.pow_le_pow_right (by omega) (by omega))
theorem pC {V:View}{v w:Value}{x y:Rat}(hx:RR V v x)(hy:RR V w y){k m:Nat}(hk:Sz k x)(hm:Sz m y)(hkm:k+m<1099511627776) :
  ab prog 168 #[v,w] V fun r V'=>RR V' r (x+y):=by
 obtain ⟨r0,r1,r2,rfl⟩:=hx.shape
 obtain ⟨s0,s1,s2,rfl⟩:=hy.shape
 have hxy:x+y=mkRat (x.num*y.den+y.num*x.den) (x.den*y.den):=Rat.add_def' x y
 obtain ⟨b1,b2,b3,b4⟩:=tN hk hm
 have gen:(∀P3:View,V.Le P3->ab prog 143 #[.agg #[.int .i64 r0,.int .i64 r1,.pointer r2]] P3 fun Sw Tv=>∃Mx:Bool,∃(GW:OA)(GA FK:Nat),Sw=.agg #[.bool Mx,.slice GW GA FK]/\(∀P4:View,Tv.Le P4->ab prog 204 #[.agg #[.int .i64 s0,.int .i64 s1,.pointer s2]] P4 fun Sx Tw=>∃(Oq:OA)(N8 MH:Nat),Sx=.slice Oq N8 MH/\(∀Tx:View,Tw.Le Tx->ab prog 202 #[.agg #[.bool Mx,.slice GW GA FK],.agg #[.bool false,.slice Oq N8 MH]] Tx fun Sy Vz=>∃My:Bool,∃(GX:OA)(GC FL:Nat),Sy=.agg #[.bool My,.slice GX GC FL]/\(∀Ty:View,Vz.Le Ty->ab prog 143 #[.agg #[.int .i64 s0,.int .i64 s1,.pointer s2]] Ty fun SA VA=>∃Mz:Bool,∃(Ov:OA)(Oa MK:Nat),SA=.agg #[.bool Mz,.slice Ov Oa MK]/\(∀Tz:View,VA.Le Tz->ab prog 204 #[.agg #[.int .i64 r0,.int .i64 r1,.pointer r2]] Tz fun SB VB=>∃(GY:OA)(GD FM:Nat),SB=.slice GY GD FM/\(∀TA:View,VB.Le TA->ab prog 202 #[.agg #[.bool Mz,.slice Ov Oa MK],.agg #[.bool false,.slice GY GD FM]] TA fun SC VC=>∃MA:Bool,∃(GZ:OA)(GG FN:Nat),SC=.agg #[.bool MA,.slice GZ GG FN]/\(∀TB:View,VC.Le TB->ab prog 205 #[.agg #[.bool My,.slice GX GC FL],.agg #[.bool MA,.slice GZ GG FN]] TB fun SD VD=>∃MB:Bool,∃(Oy:OA)(Od MN:Nat),SD=.agg #[.bool MB,.slice Oy Od MN]/\(∀TC:View,VD.Le TC->ab prog 204 #[.agg #[.int .i64 r0,.int .i64 r1,.pointer r2]] TC fun SE VE=>∃(Oz:OA)(Oe MO:Nat),SE=.slice Oz Oe MO/\(∀TD:View,VE.Le TD->ab prog 204 #[.agg #[.int .i64 s0,.int .i64 s1,.pointer s2]] TD fun SF VF=>∃(G1:OA)(Of MP:Nat),SF=.slice G1 Of MP/\(∀TE:View,VF.Le TE->ab prog 203 #[.slice Oz Oe MO,.slice G1 Of MP] TE fun SG VG=>∃(OB:OA)(Og MQ:Nat),SG=.slice OB Og MQ/\(∀TF:View,VG.Le TF->ab prog 157 #[.agg #[.bool MB,.slice Oy Od MN],.slice OB Og MQ] TF fun SH VH=>∃O6:Int,∃O7:Int,∃OC:OA,SH=.agg #[.int .i64 O6,.int .i64 O7,.pointer OC]/\(∀TG:View,VH.Le TG->RR TG (.agg #[.int .i64 O6,.int .i64 O7,.pointer OC]) (x+y))))))))))))):=by
  intro V1 l1
  refine (jm (hx.le l1) hk (by omega)).mono ?_
  rintro r V2 l2 ⟨p1,n1,c1,rfl,g1⟩
  refine ⟨_,_,_,_,rfl,fun V3 l3=>(eE (hy.le (l1.trans (l2.trans l3))) hm (by omega)).mono ?_⟩
  rintro r V4 l4 ⟨p2,n2,c2,rfl,g2⟩
  have q1:=af hk.1
  have q2:=af hk.2
  have q3:=af hm.1
  have q4:=af hm.2
  refine ⟨_,_,_,rfl,fun V5 l5=>(fY _ false (g1.le (l3.trans (l4.trans l5))) (g2.le l5) (by omega)).mono ?_⟩
  rintro r V6 l6 h6
  rw [aH,oG,ag] at h6
  obtain ⟨p3,n3,c3,rfl,g3⟩:=h6
  refine ⟨_,_,_,_,rfl,fun V7 l7=>(jm (hy.le (l1.trans (l2.trans (l3.trans (l4.trans (l5.trans (l6.trans l7))))))) hm (by omega)).mono ?_⟩
  rintro r V8 l8 ⟨p4,n4,c4,rfl,g4⟩
  refine ⟨_,_,_,_,rfl,fun V9 l9=>(eE (hx.le (l1.trans (l2.trans (l3.trans (l4.trans (l5.trans (l6.trans (l7.trans (l8.trans l9))))))))) hk (by omega)).mono ?_⟩
  rintro r g_ l10 ⟨p5,n5,c5,rfl,g5⟩
  refine ⟨_,_,_,rfl,fun gW bI=>(fY _ false (g4.le (l9.trans (l10.trans bI))) (g5.le bI) (by omega)).mono ?_⟩
  rintro r lH cw h12
  rw [aH,oG,ag] at h12
  obtain ⟨p6,n6,c6,rfl,g6⟩:=h12
  have q5:=af b1
  have q6:=af b2
  refine ⟨_,_,_,_,rfl,fun lU cd=>(wA _ _ (g3.le (l7.trans (l8.trans (l9.trans (l10.trans (bI.trans (cw.trans cd))))))) (g6.le cd) (by omega) (by omega)).mono ?_⟩
  rintro r po dN JB
  rw [aH,aH] at JB
  obtain ⟨p7,n7,c7,rfl,g7⟩:=JB
  have Jn:=l1.trans (l2.trans (l3.trans (l4.trans (l5.trans (l6.trans (l7.trans (l8.trans (l9.trans (l10.trans (bI.trans (cw.trans (cd.trans dN))))))))))))
  refine ⟨_,_,_,_,rfl,fun nF dk=>(eE (hx.le (Jn.trans dk)) hk (by omega)).mono ?_⟩
  rintro r mW dm ⟨p8,n8,c8,rfl,g8⟩
  refine ⟨_,_,_,rfl,fun nN cP=>(eE (hy.le (Jn.trans (dk.trans (dm.trans cP)))) hm (by omega)).mono ?_⟩
  rintro r qI dZ ⟨p9,n9,c9,rfl,g9⟩
  refine ⟨_,_,_,rfl,fun tq dR=>(fN (g8.le (cP.trans (dZ.trans dR))) (g9.le dR) (by omega)).mono ?_⟩
  rintro r An iQ ⟨HK,n10,c10,rfl,g10⟩
  rw [ag,ag] at g10
  have q7:=af b3
  have q8:=af b4
  refine ⟨_,_,_,rfl,fun tu eh=>(cq _ (g7.le (dk.trans (dm.trans (cP.trans (dZ.trans (dR.trans (iQ.trans eh))))))) (g10.le eh) (by omega) (by omega)).mono ?_⟩
  rintro r wi kq h22
  rw [aH,ag,←hxy] at h22
  obtain ⟨n,d,p,rfl⟩:=h22.shape
  exact ⟨_,_,_,rfl,fun tM fB=>h22.le fB⟩
 have lift:∀V1:View,V.Le V1->∀V2:View,V1.Le V2->V.Le V2:=fun _ h _ h'=>h.trans h'
 rcases hx with ⟨ex,wx⟩|⟨a,b,p,n,c,p',n',c',ex,-,-,-,-,-,wx⟩
 ·rcases hy with ⟨ey,wy⟩|⟨a,b,p,n,c,p',n',c',ey,-,-,-,-,-,wy⟩
  ·simp only [Value.agg.injEq,Array.mk.injEq,List.cons.injEq,Value.int.injEq,Value.pointer.injEq,true_and,and_true] at ex ey
   obtain ⟨rfl,rfl,rfl⟩:=ex
   obtain ⟨rfl,rfl,rfl⟩:=ey
   obtain ⟨O0,Vn⟩:=wx
   obtain ⟨O1,Vo⟩:=wy
   have dx:=x.den_nz
   have dy:=y.den_nz
   have e1:i64.wrap ((x.den:Int)-1+1)=x.den:=by rw [ar (by omega)];omega
   have e2:i64.wrap ((y.den:Int)-1+1)=y.den:=by rw [ar (by omega)];omega
   refine jX _ _ _ _ _ _ V _ ⟨fun _=>⟨fun _ _=>True,⟨fun _=>⟨fun h1=>⟨fun h2 V1 l1=>?_,fun h2=>?_⟩,fun h1=>?_⟩,(fun h=>nomatch h)⟩,fun _ V1 l1 _=>⟨by trivial,fun V2 l2=>gen V2 (l1.trans l2)⟩⟩,(fun h=>nomatch h)⟩
   ·have h1:x.den=1:=by rw [beq_iff_eq] at h1;omega
    have h2:y.den=1:=by rw [beq_iff_eq] at h2;omega
    rw [ar (by omega)]
    refine (kO _ (by omega) (by omega)).mono ?_
    rintro r V2 l2 hr
    have e:((x.num+y.num:Int):Rat)=x+y:=by
     rw [hxy,h1,h2]
     simp only [Nat.mul_one,Int.natCast_one,Int.mul_one]
     exact (mkRat_one _).symm
    rw [e] at hr
    obtain ⟨n,d,p,rfl⟩:=hr.shape
    exact ⟨_,_,_,rfl,fun V3 l3=>hr.le l3⟩
   all_goals
    rw [e1,e2]
    refine fun V4 l4=>(fg _ _ O0 (by omega)).mono ?_
    rintro r V5 l5 ⟨z1,rfl,hz1⟩
    refine ⟨_,_,rfl,fun V6 l6=>(fg _ _ O1 (by omega)).mono ?_⟩
    rintro r V7 l7 ⟨z2,rfl,hz2⟩
    refine ⟨_,_,rfl,fun V8 l8=>(fg _ _ (by omega) (by omega)).mono ?_⟩
    rintro r V9 l9 ⟨z3,rfl,hz3⟩
    refine ⟨_,_,rfl,fun g1=>⟨fun g2=>⟨fun g3=>⟨fun g4=>⟨fun g5 g_ l10=>?_,fun _=>⟨(),by and_intros<;>rfl,trivial⟩⟩,fun _=>⟨(),by and_intros<;>rfl,trivial⟩⟩,fun _=>⟨(),by and_intros<;>rfl,trivial⟩⟩,fun _=>⟨(),by and_intros<;>rfl,trivial⟩⟩,fun _=>⟨(),by and_intros<;>rfl,trivial⟩⟩
    rw [decide_eq_true_eq] at g1 g2 g3 g4 g5
    have k1:=hz1 g1
    have k2:=hz2 g2
    have k3:=hz3 g3
    rw [←k1] at g1
    rw [←k2] at g2
    rw [←Int.natCast_mul,Int.natAbs_natCast] at g3
    rw [←Int.natCast_mul] at k3
    rw [ar (by omega)] at g4 g5 ⊢
    rw [k3]
    refine (nP _ _ (by omega) g3 (Nat.mul_ne_zero dx dy)).mono ?_
    rintro r gW bI hr
    rw [k1,k2,←hxy] at hr
    obtain ⟨n,d,p,rfl⟩:=hr.shape
    exact ⟨_,_,_,rfl,fun V3 l3=>hr.le l3⟩
  ·simp only [Value.agg.injEq,Array.mk.injEq,List.cons.injEq,Value.int.injEq,Value.pointer.injEq,true_and,and_true] at ex ey
   obtain ⟨rfl,rfl,rfl⟩:=ex
   obtain ⟨rfl,rfl,rfl⟩:=ey
   exact jX _ _ _ _ _ _ V _ ⟨fun _=>⟨fun _ _=>True,⟨(fun h=>nomatch h),fun _=>⟨(),by and_intros<;>rfl,trivial⟩⟩,fun _ V1 l1 _=>⟨by trivial,fun V2 l2=>gen V2 (l1.trans l2)⟩⟩,(fun h=>nomatch h)⟩
 ·simp only [Value.agg.injEq,Array.mk.injEq,List.cons.injEq,Value.int.injEq,Value.pointer.injEq,true_and,and_true] at ex
  obtain ⟨rfl,rfl,rfl⟩:=ex
  exact jX _ _ _ _ _ _ V _ ⟨(fun h=>nomatch h),fun _=>gen⟩
end Go.Proofs.Tryz
namespace Go.fV
def sI (x y:Rat):Int:=(x-y).num.sign
def gQ (x y:Rat):Rat:=mkRat (Nat.gcd (x.num.natAbs*y.den) (y.num.natAbs*x.den):Nat) (x.den*y.den)
theorem GM {q:Rat}:q.num<0↔q<0:=by
 have:=@Rat.num_nonneg q
 rw [←Rat.not_le,←this];omega
theorem GN {q:Rat}:0<q.num↔0<q:=by
 have h1:=@Rat.num_nonneg q
 have h2:=@Rat.num_eq_zero q
 rw [Rat.lt_iff_le_and_ne,←h1]
 constructor
 ·intro h;exact ⟨by omega,fun e=>by rw [←e] at h;simp at h⟩
 ·rintro ⟨h,hne⟩
  have:q.num≠0:=fun e=>hne (h2.1 e).symm
  omega
theorem Ib {x y:Rat}:x<y↔sI x y=-1:=by
 unfold sI
 rw [Int.sign_eq_neg_one_iff_neg,GM,Rat.lt_iff_sub_pos x y,←Rat.neg_sub y x]
 constructor
 ·intro h;have:=Rat.neg_lt_neg h;simpa using this
 ·intro h;have:=Rat.neg_lt_neg h;rw [Rat.neg_neg] at this;simpa using this
theorem Ia {x y:Rat}:y<x↔sI x y=1:=by
 unfold sI
 rw [Int.sign_eq_one_iff_pos,GN,Rat.lt_iff_sub_pos y x]
theorem pI {x y:Rat}:x=y↔sI x y=0:=by
 unfold sI
 rw [Int.sign_eq_zero_iff_zero,Rat.num_eq_zero]
 constructor
 ·intro h;subst h;exact Rat.sub_self
 ·intro h
  have:=congrArg (·+ y) h
  simpa [Rat.sub_add_cancel,Rat.zero_add] using this
end Go.fV
namespace Go.Proofs.Tryz
open Go.bK Go.fV
theorem DU {V:View}{v w:Value}{x y:Rat}(hx:RR V v x)(hy:RR V w y){k m:Nat}(hk:Sz k x)(hm:Sz m y)(hkm:k+m<1099511627776) :
  ab prog 185 #[v,w] V fun r V'=>RR V' r (x-y):=by
 obtain ⟨r0,r1,r2,rfl⟩:=hx.shape
 obtain ⟨s0,s1,s2,rfl⟩:=hy.shape
 refine wX _ _ _ _ _ _ V _ fun V1 l1=>(pD (hy.le l1) hm (by omega)).mono ?_
 rintro r V2 l2 h2
 obtain ⟨n,d,p,rfl⟩:=h2.shape
 refine ⟨_,_,_,rfl,fun V3 l3=>(pC (hx.le (l1.trans (l2.trans l3))) (h2.le l3) hk hm.neg hkm).mono ?_⟩
 rintro r V4 l4 h4
 rw [←Rat.sub_eq_add_neg] at h4
 obtain ⟨n,d,p,rfl⟩:=h4.shape
 exact ⟨_,_,_,rfl,fun V5 l5=>h4.le l5⟩
theorem H5 {V:View}{v w:Value}{x y:Rat}(hx:RR V v x)(hy:RR V w y){k m:Nat}(hk:Sz k x)(hm:Sz m y)(hkm:k+m<1099511627776) :
  ab prog 181 #[v,w] V fun r V'=>r=.int .i64 (sI x y):=by
 obtain ⟨r0,r1,r2,rfl⟩:=hx.shape
 obtain ⟨s0,s1,s2,rfl⟩:=hy.shape
 have gen:∀po:View,V.Le po->ab prog 185 #[.agg #[.int .i64 r0,.int .i64 r1,.pointer r2],.agg #[.int .i64 s0,.int .i64 s1,.pointer s2]] po fun Su nF=>∃Vs:Int,∃O2:Int,∃Om:OA,Su=.agg #[.int .i64 Vs,.int .i64 O2,.pointer Om]/\(∀mW:View,nF.Le mW->ab prog 128 #[.agg #[.int .i64 Vs,.int .i64 O2,.pointer Om]] mW fun Sv nN=>∃O3:Int,Sv=.int .i64 O3/\(∀qI:View,nN.Le qI->Value.int .i64 O3=.int .i64 (sI x y))):=by
  intro V1 l1
  refine (DU (hx.le l1) (hy.le l1) hk hm hkm).mono ?_
  rintro r V2 l2 h2
  obtain ⟨n,d,p,rfl⟩:=h2.shape
  refine ⟨_,_,_,rfl,fun V3 l3=>(fa (h2.le l3) (hk.sub hm) (by omega)).mono ?_⟩
  rintro r V4 l4 rfl
  exact ⟨_,rfl,fun _ _=>rfl⟩
 rcases hx with ⟨ex,wx⟩|⟨a,b,p,n,c,p',n',c',ex,-,-,-,-,-,wx⟩
 ·rcases hy with ⟨ey,wy⟩|⟨a,b,p,n,c,p',n',c',ey,-,-,-,-,-,wy⟩
  ·simp only [Value.agg.injEq,Array.mk.injEq,List.cons.injEq,Value.int.injEq,Value.pointer.injEq,true_and,and_true] at ex ey
   obtain ⟨rfl,rfl,rfl⟩:=ex
   obtain ⟨rfl,rfl,rfl⟩:=ey
   have hlt:x.den=y.den->((x<y↔x.num<y.num)/\(y<x↔y.num<x.num)/\(x=y↔x.num=y.num)):=by
    intro e
    have hd:(0:Int)<y.den:=by have:=y.den_nz;omega
    refine ⟨?_,?_,fun h=>by rw [h],fun h=>Rat.ext h e⟩
    ·rw [Rat.lt_iff,e];exact ⟨fun h=>Int.lt_of_mul_lt_mul_right h (by omega),fun h=>Int.mul_lt_mul_of_pos_right h hd⟩
    ·rw [Rat.lt_iff,e];exact ⟨fun h=>Int.lt_of_mul_lt_mul_right h (by omega),fun h=>Int.mul_lt_mul_of_pos_right h hd⟩
   refine jY _ _ _ _ _ _ V _ ⟨fun _=>⟨fun _=>⟨fun h1=>?_,fun _=>gen⟩,(fun h=>nomatch h)⟩,(fun h=>nomatch h)⟩
   have h1:x.den=y.den:=by rw [beq_iff_eq] at h1;omega
   obtain ⟨g1,g2,g3⟩:=hlt h1
   refine ⟨fun h V1 l1=>?_,fun h=>⟨fun h' V1 l1=>?_,fun h' V1 l1=>?_⟩⟩
   ·rw [Ib.1 (g1.2 (by simpa using h))]
   ·rw [Ia.1 (g2.2 (by simpa using h'))]
   ·rw [pI.1 (g3.2 (by rw [decide_eq_false_iff_not] at h h';omega))]
  ·simp only [Value.agg.injEq,Array.mk.injEq,List.cons.injEq,Value.int.injEq,Value.pointer.injEq,true_and,and_true] at ex ey
   obtain ⟨rfl,rfl,rfl⟩:=ex
   obtain ⟨rfl,rfl,rfl⟩:=ey
   exact jY _ _ _ _ _ _ V _ ⟨fun _=>⟨(fun h=>nomatch h),fun _=>gen⟩,(fun h=>nomatch h)⟩
 ·simp only [Value.agg.injEq,Array.mk.injEq,List.cons.injEq,Value.int.injEq,Value.pointer.injEq,true_and,and_true] at ex
  obtain ⟨rfl,rfl,rfl⟩:=ex
  exact jY _ _ _ _ _ _ V _ ⟨(fun h=>nomatch h),fun _=>gen⟩
theorem xM {V:View}{v w:Value}{x y:Rat}(hx:RR V v x)(hy:RR V w y){k m:Nat}(hk:Sz k x)(hm:Sz m y)(hkm:k+m<1099511627776) :
  ab prog 175 #[v,w] V fun r V'=>r=.bool (decide (x=y)):=by
 obtain ⟨r0,r1,r2,rfl⟩:=hx.shape
 obtain ⟨s0,s1,s2,rfl⟩:=hy.shape
 refine sO _ _ _ _ _ _ V _ fun V1 l1=>(H5 (hx.le l1) (hy.le l1) hk hm hkm).mono ?_
 rintro r V2 l2 rfl
 refine ⟨_,rfl,fun V3 l3=>?_⟩
 congr 1
 rw [Bool.eq_iff_iff,beq_iff_eq,decide_eq_true_eq,pI]
theorem A7 {x y:Rat}{k m:Nat}(hx:Sz k x)(hy:Sz m y):x.num.natAbs*y.den<2^(k+m)/\y.num.natAbs*x.den<2^(k+m)/\Nat.gcd (x.num.natAbs*y.den) (y.num.natAbs*x.den)<2^(k+m)/\x.den*y.den<2^(k+m):=by
 have h1:x.num.natAbs*y.den<2^(k+m):=bA hx.1 hy.2
 have h2:y.num.natAbs*x.den<2^(k+m):=by rw [Nat.add_comm];exact bA hy.1 hx.2
 refine ⟨h1,h2,?_,bA hx.2 hy.2⟩
 rcases Nat.eq_zero_or_pos (x.num.natAbs*y.den) with e|e
 ·rw [e,Nat.gcd_zero_left];exact h2
 ·exact Nat.lt_of_le_of_lt (Nat.le_of_dvd e (Nat.gcd_dvd_left _ _)) h1
theorem fW {x y:Rat}{k m:Nat}(hx:Sz k x)(hy:Sz m y):Sz (k+m+1) (gQ x y):=by
 obtain ⟨-,-,h3,h4⟩:=A7 hx hy
 have h5:2^(k+m)<=2^(k+m+1):=Nat.pow_le_pow_right (by omega) (by omega)
 exact Go.bK.Sz.mkRat (by rw [Int.natAbs_natCast];omega) (by omega) (by omega)
theorem iG {V:View}{v w:Value}{x y:Rat}(hx:RR V v x)(hy:RR V w y){k m:Nat}(hk:Sz k x)(hm:Sz m y)(hkm:k+m<1099511627776) :
  ab prog 174 #[v,w] V fun r V'=>RR V' r (gQ x y):=by
 obtain ⟨r0,r1,r2,rfl⟩:=hx.shape
 obtain ⟨s0,s1,s2,rfl⟩:=hy.shape
 obtain ⟨b1,b2,b3,b4⟩:=A7 hk hm
 have q1:=af hk.1
 have q2:=af hk.2
 have q3:=af hm.1
 have q4:=af hm.2
 have q5:=af b1
 have q6:=af b2
 have q7:=af b3
 have q8:=af b4
 have gen:(∀TH:View,V.Le TH->ab prog 204 #[.agg #[.int .i64 r0,.int .i64 r1,.pointer r2]] TH fun SI VI=>∃(On:OA)(N6 MF:Nat),SI=.slice On N6 MF/\(∀TJ:View,VI.Le TJ->ab prog 204 #[.agg #[.int .i64 s0,.int .i64 s1,.pointer s2]] TJ fun SJ VJ=>∃(Oo:OA)(N7 MG:Nat),SJ=.slice Oo N7 MG/\(∀TL:View,VJ.Le TL->ab prog 203 #[.slice On N6 MF,.slice Oo N7 MG] TL fun SK VK=>∃(GW:OA)(GA FK:Nat),SK=.slice GW GA FK/\(∀TM:View,VK.Le TM->ab prog 143 #[.agg #[.int .i64 r0,.int .i64 r1,.pointer r2]] TM fun SL VL=>∃Qh:Bool,∃(Ot:OA)(N9 MI:Nat),SL=.agg #[.bool Qh,.slice Ot N9 MI]/\(∀TN:View,VL.Le TN->ab prog 204 #[.agg #[.int .i64 s0,.int .i64 s1,.pointer s2]] TN fun SM VM=>∃(GX:OA)(GC FL:Nat),SM=.slice GX GC FL/\(∀TO:View,VM.Le TO->ab prog 203 #[.slice Ot N9 MI,.slice GX GC FL] TO fun SN VN=>∃(Ou:OA)(N_ MJ:Nat),SN=.slice Ou N_ MJ/\(∀TP:View,VN.Le TP->ab prog 143 #[.agg #[.int .i64 s0,.int .i64 s1,.pointer s2]] TP fun SO VO=>∃Qi:Bool,∃(GY:OA)(GD FM:Nat),SO=.agg #[.bool Qi,.slice GY GD FM]/\(∀TQ:View,VO.Le TQ->ab prog 204 #[.agg #[.int .i64 r0,.int .i64 r1,.pointer r2]] TQ fun SP VQ=>∃(Ow:OA)(Ob ML:Nat),SP=.slice Ow Ob ML/\(∀TR:View,VQ.Le TR->ab prog 203 #[.slice GY GD FM,.slice Ow Ob ML] TR fun SQ VS=>∃(GZ:OA)(GG FN:Nat),SQ=.slice GZ GG FN/\(∀TS:View,VS.Le TS->ab prog 192 #[.slice Ou N_ MJ,.slice GZ GG FN] TS fun SR VT=>∃(Ox:OA)(Oc MM:Nat),SR=.slice Ox Oc MM/\(∀TT:View,VT.Le TT->ab prog 157 #[.agg #[.bool false,.slice Ox Oc MM],.slice GW GA FK] TT fun SS VU=>∃O4:Int,∃O5:Int,∃G1:OA,SS=.agg #[.int .i64 O4,.int .i64 O5,.pointer G1]/\(∀Ms:View,VU.Le Ms->RR Ms (.agg #[.int .i64 O4,.int .i64 O5,.pointer G1]) (gQ x y))))))))))))):=by
  intro V1 l1
  refine (eE (hx.le l1) hk (by omega)).mono ?_
  rintro r V2 l2 ⟨p1,n1,c1,rfl,g1⟩
  refine ⟨_,_,_,rfl,fun V3 l3=>(eE (hy.le (l1.trans (l2.trans l3))) hm (by omega)).mono ?_⟩
  rintro r V4 l4 ⟨p2,n2,c2,rfl,g2⟩
  refine ⟨_,_,_,rfl,fun V5 l5=>(fN (g1.le (l3.trans (l4.trans l5))) (g2.le l5) (by omega)).mono ?_⟩
  rintro r V6 l6 ⟨p3,n3,c3,rfl,g3⟩
  rw [ag,ag] at g3
  have L6:=l1.trans (l2.trans (l3.trans (l4.trans (l5.trans l6))))
  refine ⟨_,_,_,rfl,fun V7 l7=>(jm (hx.le (L6.trans l7)) hk (by omega)).mono ?_⟩
  rintro r V8 l8 ⟨p4,n4,c4,rfl,g4⟩
  refine ⟨_,_,_,_,rfl,fun V9 l9=>(eE (hy.le (L6.trans (l7.trans (l8.trans l9)))) hm (by omega)).mono ?_⟩
  rintro r g_ l10 ⟨p5,n5,c5,rfl,g5⟩
  refine ⟨_,_,_,rfl,fun gW bI=>(fN (g4.le (l9.trans (l10.trans bI))) (g5.le bI) (by omega)).mono ?_⟩
  rintro r lH cw ⟨p6,n6,c6,rfl,g6⟩
  rw [ag,ag] at g6
  have LS:=L6.trans (l7.trans (l8.trans (l9.trans (l10.trans (bI.trans cw)))))
  refine ⟨_,_,_,rfl,fun lU cd=>(jm (hy.le (LS.trans cd)) hm (by omega)).mono ?_⟩
  rintro r po dN ⟨p7,n7,c7,rfl,g7⟩
  refine ⟨_,_,_,_,rfl,fun nF dk=>(eE (hx.le (LS.trans (cd.trans (dN.trans dk)))) hk (by omega)).mono ?_⟩
  rintro r mW dm ⟨p8,n8,c8,rfl,g8⟩
  refine ⟨_,_,_,rfl,fun nN cP=>(fN (g7.le (dk.trans (dm.trans cP))) (g8.le cP) (by omega)).mono ?_⟩
  rintro r qI dZ ⟨p9,n9,c9,rfl,g9⟩
  rw [ag,ag] at g9
  have Tt:=cd.trans (dN.trans (dk.trans (dm.trans (cP.trans dZ))))
  refine ⟨_,_,_,rfl,fun tq dR=>(xQ (g6.le (Tt.trans dR)) (g9.le dR) (by omega) (by omega)).mono ?_⟩
  rintro r An iQ ⟨HK,n10,c10,rfl,g10⟩
  rw [ag,ag] at g10
  refine ⟨_,_,_,rfl,fun tu eh=>(cq false (g10.le eh) (g3.le (l7.trans (l8.trans (l9.trans (l10.trans (bI.trans (cw.trans (Tt.trans (dR.trans (iQ.trans eh)))))))))) (by omega) (by omega)).mono ?_⟩
  rintro r wi kq h22
  rw [oG,ag,ag] at h22
  obtain ⟨n,d,p,rfl⟩:=h22.shape
  exact ⟨_,_,_,rfl,fun tM fB=>h22.le fB⟩
 rcases hx with ⟨ex,wx⟩|⟨a,b,p,n,c,p',n',c',ex,-,-,-,-,-,wx⟩
 ·rcases hy with ⟨ey,wy⟩|⟨a,b,p,n,c,p',n',c',ey,-,-,-,-,-,wy⟩
  ·simp only [Value.agg.injEq,Array.mk.injEq,List.cons.injEq,Value.int.injEq,Value.pointer.injEq,true_and,and_true] at ex ey
   obtain ⟨rfl,rfl,rfl⟩:=ex
   obtain ⟨rfl,rfl,rfl⟩:=ey
   obtain ⟨O0,Vn⟩:=wx
   obtain ⟨O1,Vo⟩:=wy
   refine mN _ _ _ _ _ _ V _ ⟨fun _=>⟨fun _=>⟨fun h1=>⟨fun _ _=>True,⟨fun h2 V1 l1=>?_,fun _=>⟨(),by and_intros<;>rfl,trivial⟩⟩,fun _ V1 l1 _=>⟨by trivial,fun V2 l2=>gen V2 (l1.trans l2)⟩⟩,fun _=>gen⟩,(fun h=>nomatch h)⟩,(fun h=>nomatch h)⟩
   have h1:x.den=1:=by rw [beq_iff_eq] at h1;omega
   have h2:y.den=1:=by rw [beq_iff_eq] at h2;omega
   refine (iH _ (by omega) (by omega)).mono ?_
   rintro r V2 l2 rfl
   refine ⟨_,rfl,fun V3 l3=>(iH _ (by omega) (by omega)).mono ?_⟩
   rintro r V4 l4 rfl
   refine ⟨_,rfl,fun V5 l5=>(ub _ _ (by omega) (by omega)).mono ?_⟩
   rintro r V6 l6 rfl
   refine ⟨_,rfl,fun V7 l7=>.inl ?_⟩
   have e:gQ x y=((Nat.gcd x.num.natAbs y.num.natAbs:Nat):Int):=by
    unfold gQ
    rw [h1,h2,Nat.mul_one,Nat.mul_one,Nat.mul_one]
    exact mkRat_one _
   have hl:Nat.gcd x.num.natAbs y.num.natAbs<4611686018427387904:=by
    rcases Nat.eq_zero_or_pos x.num.natAbs with e|e
    ·rw [e,Nat.gcd_zero_left];exact O1
    ·exact Nat.lt_of_le_of_lt (Nat.le_of_dvd e (Nat.gcd_dvd_left _ _)) O0
   rw [e,ar (by omega)]
   exact ⟨rfl,uI (by rw [Int.natAbs_natCast];exact hl)⟩
  ·simp only [Value.agg.injEq,Array.mk.injEq,List.cons.injEq,Value.int.injEq,Value.pointer.injEq,true_and,and_true] at ex ey
   obtain ⟨rfl,rfl,rfl⟩:=ex
   obtain ⟨rfl,rfl,rfl⟩:=ey
   exact mN _ _ _ _ _ _ V _ ⟨fun _=>⟨(fun h=>nomatch h),fun _=>gen⟩,(fun h=>nomatch h)⟩
 ·simp only [Value.agg.injEq,Array.mk.injEq,List.cons.injEq,Value.int.injEq,Value.pointer.injEq,true_and,and_true] at ex
  obtain ⟨rfl,rfl,rfl⟩:=ex
  exact mN _ _ _ _ _ _ V _ ⟨(fun h=>nomatch h),fun _=>gen⟩
theorem qR {V:View}{p:OA}{n c x:Nat}(h:RN V p n c x) :
  ab prog 76 #[.bool false,.slice p n c] V fun r V'=>RI V' r (x:Int):=by
 have:=cx false h
 rwa [if_neg (by decide)] at this
theorem cu {x:Rat}{k:Nat}(h:Sz k x):(ai x.num.natAbs).length<=k/\(ai x.den).length<=k/\(ai (x.den:Int).natAbs).length<=k:=⟨af h.1,af h.2,af h.2⟩
theorem eH {V:View}{v w:Value}{x y:Rat}(hx:RQ V v x)(hy:RQ V w y){k m:Nat}(hk:Sz k x)(hm:Sz m y)(hkm:k+m<274877906944) :
  ab prog 24 #[v,w] V fun r V'=>RQ V' r (x+y):=by
 obtain ⟨p,n,c,p',n',c',rfl,hx1,hx2⟩:=hx
 obtain ⟨q,i,e,q',i',e',rfl,hy1,hy2⟩:=hy
 have hlx:=mo hx2
 have Ap:=mo hy2
 obtain ⟨b1,b2,b3,b4⟩:=tN hk hm
 obtain ⟨d1,d2,d3⟩:=cu hk
 obtain ⟨d4,d5,d6⟩:=cu hm
 have hxy:x+y=mkRat (x.num*y.den+y.num*x.den) (x.den*y.den):=Rat.add_def' x y
 refine (fun tail=>Cd _ p n c p' n' c' _ q i e q' i' e' V _ ⟨fun h0=>⟨fun h1 V1 l1=>?_,fun _=>tail⟩,fun _=>tail⟩) ?_
 ·clear tail
  have h0:x.den=1:=hlx.1 (by simp at h0;omega)
  have h1:y.den=1:=Ap.1 (by simp at h1;omega)
  refine (qQ x.num y.num (hx1.le l1) (hy1.le l1) (by omega) (by omega)).mono ?_
  rintro r V2 l2 ⟨p2,n2,c2,rfl,g⟩
  have e1:x+y=((x.num+y.num:Int):Rat):=by
   rw [hxy,h0,h1];simp [Rat.mkRat_one]
  rw [e1]
  exact ⟨_,_,_,_,rfl,fun V3 l3=>lM (z:=x.num+y.num) (d:=1) rfl rfl (g.le l3) RD.nil rfl⟩
 ·intro V1 l1
  refine (bY y _ (hy2.le l1)).mono ?_
  rintro r V2 l2 ⟨p1,n1,c1,rfl,g1⟩
  refine ⟨_,_,_,rfl,fun V3 l3=>(qR (g1.le l3)).mono ?_⟩
  rintro r V4 l4 ⟨p3,n3,c3,rfl,g3⟩
  have Cp:=l1.trans (l2.trans (l3.trans l4))
  refine ⟨_,_,_,_,rfl,fun V5 l5=>(iA x.num y.den (hx1.le (Cp.trans l5)) (g3.le l5) (by omega)).mono ?_⟩
  rintro r V6 l6 ⟨p5,n5,c5,rfl,g5⟩
  have KZ:=Cp.trans (l5.trans l6)
  refine ⟨_,_,_,_,rfl,fun V7 l7=>(bY x _ (hx2.le (KZ.trans l7))).mono ?_⟩
  rintro r V8 l8 ⟨p7,n7,c7,rfl,g7⟩
  have PB:=KZ.trans (l7.trans l8)
  refine ⟨_,_,_,rfl,fun V9 l9=>(qR (g7.le l9)).mono ?_⟩
  rintro r g_ l10 ⟨p9,n9,c9,rfl,g9⟩
  have NA:=PB.trans (l9.trans l10)
  refine ⟨_,_,_,_,rfl,fun gW bI=>(iA y.num x.den (hy1.le (NA.trans bI)) (g9.le bI) (by omega)).mono ?_⟩
  rintro r lH cw ⟨Lh,n11,c11,rfl,g11⟩
  have IA:=NA.trans (bI.trans cw)
  refine ⟨_,_,_,_,rfl,fun lU cd=>(qQ _ _ (g5.le (l7.trans (l8.trans (l9.trans (l10.trans (bI.trans (cw.trans cd))))))) (g11.le cd) (Nat.le_trans (af b1) (by omega)) (Nat.le_trans (af b2) (by omega))).mono ?_⟩
  rintro r po dN ⟨Y7,n13,c13,rfl,g13⟩
  have Gj:=IA.trans (cd.trans dN)
  refine ⟨_,_,_,_,rfl,fun nF dk=>(bY x _ (hx2.le (Gj.trans dk))).mono ?_⟩
  rintro r mW dm ⟨Y8,n15,c15,rfl,g15⟩
  have KW:=Gj.trans (dk.trans dm)
  refine ⟨_,_,_,rfl,fun nN cP=>(bY y _ (hy2.le (KW.trans cP))).mono ?_⟩
  rintro r qI dZ ⟨Y9,n17,c17,rfl,g17⟩
  refine ⟨_,_,_,rfl,fun tq dR=>(ct (g15.le (cP.trans (dZ.trans dR))) (g17.le dR) (by omega)).mono ?_⟩
  rintro r An iQ ⟨Y_,n19,c19,rfl,g19⟩
  rw [ag,ag] at g19
  refine ⟨_,_,_,rfl,fun tu eh=>(kS _ (g13.le (dk.trans (dm.trans (cP.trans (dZ.trans (dR.trans (iQ.trans eh))))))) (g19.le eh) (Nat.le_trans (af b3) (by omega)) (Nat.le_trans (af b4) (by omega)) (Nat.mul_ne_zero x.den_nz y.den_nz)).mono ?_⟩
  rw [hxy]
  rintro r wi kq ⟨U6,n21,c21,U7,n22,T4,rfl,g21,g22⟩
  exact ⟨_,_,_,_,_,_,_,rfl,fun tM fB=>⟨_,_,_,_,_,_,rfl,g21.le fB,g22.le fB⟩⟩
theorem kj {V:View}{v w:Value}{x y:Rat}(hx:RQ V v x)(hy:RQ V w y){k m:Nat}(hk:Sz k x)(hm:Sz m y)(hkm:k+m<274877906944) :
  ab prog 65 #[v,w] V fun r V'=>RQ V' r (x-y):=by
 have hx0:=hx
 obtain ⟨p,n,c,p',n',c',rfl,hx1,hx2⟩:=hx
 obtain ⟨q,i,e,q',i',e',rfl,hy1,hy2⟩:=hy
 refine DI _ p n c p' n' c' _ q i e q' i' e' V _ fun V1 l1=>(m_ y (hy1.le l1) (hy2.le l1)).mono ?_
 rintro r V2 l2 h2
 obtain ⟨p1,n1,c1,p2,n2,c2,rfl,g1,g2⟩:=id h2
 refine ⟨_,_,_,_,_,_,_,rfl,fun V3 l3=>(eH (hx0.le (l1.trans (l2.trans l3))) (h2.le l3) hk hm.neg hkm).mono ?_⟩
 rw [←Rat.sub_eq_add_neg]
 rintro r V4 l4 ⟨p3,n3,c3,p4,n4,c4,rfl,g3,g4⟩
 exact ⟨_,_,_,_,_,_,_,rfl,fun V5 l5=>⟨_,_,_,_,_,_,rfl,g3.le l5,g4.le l5⟩⟩
theorem DV {V:View}{v w:Value}{x y:Rat}(hx:RQ V v x)(hy:RQ V w y){k m:Nat}(hk:Sz k x)(hm:Sz m y)(hkm:k+m<274877906944) :
  ab prog 68 #[v,w] V fun r V'=>r=.int .i64 (sI x y):=by
 have hx0:=hx
 have hy0:=hy
 obtain ⟨p,n,c,p',n',c',rfl,hx1,hx2⟩:=hx
 obtain ⟨q,i,e,q',i',e',rfl,hy1,hy2⟩:=hy
 refine Hz _ p n c p' n' c' _ q i e q' i' e' V _ fun V1 l1=>(kj (hx0.le l1) (hy0.le l1) hk hm hkm).mono ?_
 rintro r V2 l2 ⟨p1,n1,c1,p2,n2,c2,rfl,g1,g2⟩
 refine ⟨_,_,_,_,_,_,_,rfl,fun V3 l3=>(tv (x-y) (g1.le l3)).mono ?_⟩
 rintro r V4 l4 rfl
 exact ⟨_,rfl,fun V5 l5=>rfl⟩
theorem aO {V:View}{v w:Value}{x y:Rat}(hx:RQ V v x)(hy:RQ V w y){k m:Nat}(hk:Sz k x)(hm:Sz m y)(hkm:k+m<274877906944) :
  ab prog 96 #[v,w] V fun r V'=>RQ V' r (x*y):=by
 obtain ⟨p,n,c,p',n',c',rfl,hx1,hx2⟩:=hx
 obtain ⟨q,i,e,q',i',e',rfl,hy1,hy2⟩:=hy
 have hlx:=mo hx2
 have Ap:=mo hy2
 obtain ⟨d1,d2,d3⟩:=cu hk
 obtain ⟨d4,d5,d6⟩:=cu hm
 have hxy:x*y=mkRat (x.num*y.num) (x.den*y.den):=Rat.mul_def' x y
 have b1:(x.num*y.num).natAbs<2^(k+m):=by rw [Int.natAbs_mul];exact bA hk.1 hm.1
 have b2:x.den*y.den<2^(k+m):=bA hk.2 hm.2
 refine (fun tail=>zY _ p n c p' n' c' _ q i e q' i' e' V _ ⟨fun h0=>⟨fun h1 V1 l1=>?_,fun _=>tail⟩,fun _=>tail⟩) ?_
 ·clear tail
  have h0:x.den=1:=hlx.1 (by simp at h0;omega)
  have h1:y.den=1:=Ap.1 (by simp at h1;omega)
  refine (iA x.num y.num (hx1.le l1) (hy1.le l1) (by omega)).mono ?_
  rintro r V2 l2 ⟨p2,n2,c2,rfl,g⟩
  have e1:x*y=((x.num*y.num:Int):Rat):=by
   rw [hxy,h0,h1];simp [Rat.mkRat_one]
  rw [e1]
  exact ⟨_,_,_,_,rfl,fun V3 l3=>lM (z:=x.num*y.num) (d:=1) rfl rfl (g.le l3) RD.nil rfl⟩
 ·intro V1 l1
  refine (iA x.num y.num (hx1.le l1) (hy1.le l1) (by omega)).mono ?_
  rintro r V2 l2 ⟨p2,n2,c2,rfl,g2⟩
  refine ⟨_,_,_,_,rfl,fun V3 l3=>(bY x _ (hx2.le (l1.trans (l2.trans l3)))).mono ?_⟩
  rintro r V4 l4 ⟨p4,n4,c4,rfl,g4⟩
  refine ⟨_,_,_,rfl,fun V5 l5=>(bY y _ (hy2.le (l1.trans (l2.trans (l3.trans (l4.trans l5)))))).mono ?_⟩
  rintro r V6 l6 ⟨p6,n6,c6,rfl,g6⟩
  refine ⟨_,_,_,rfl,fun V7 l7=>(ct (g4.le (l5.trans (l6.trans l7))) (g6.le l7) (by omega)).mono ?_⟩
  rintro r V8 l8 ⟨p8,n8,c8,rfl,g8⟩
  rw [ag,ag] at g8
  refine ⟨_,_,_,rfl,fun V9 l9=>(kS _ (g2.le (l3.trans (l4.trans (l5.trans (l6.trans (l7.trans (l8.trans l9))))))) (g8.le l9) (Nat.le_trans (af b1) (by omega)) (Nat.le_trans (af b2) (by omega)) (Nat.mul_ne_zero x.den_nz y.den_nz)).mono ?_⟩
  rw [hxy]
  rintro r wi kq ⟨U6,n21,c21,U7,n22,T4,rfl,g21,g22⟩
  exact ⟨_,_,_,_,_,_,_,rfl,fun tM fB=>⟨_,_,_,_,_,_,rfl,g21.le fB,g22.le fB⟩⟩
end Go.Proofs.Tryz
namespace Go.bK
open Go.fV
def RP (V:View)(v:Value)(x y:Rat):Prop:=∃p n c p' n' c' q m e q' m' e',v=.agg #[.bool (decide (x.num<0)),.slice p n c,.slice p' n' c',.bool (decide (y.num<0)),.slice q m e,.slice q' m' e'] /\
 RQ V (.agg #[.bool (decide (x.num<0)),.slice p n c,.slice p' n' c']) x/\RQ V (.agg #[.bool (decide (y.num<0)),.slice q m e,.slice q' m' e']) y
theorem RP.le {V V':View}{v:Value}{x y:Rat}(h:RP V v x y)(l:V.Le V'):RP V' v x y:=by
 obtain ⟨p,n,c,p',n',c',q,m,e,q',m',e',rfl,h1,h2⟩:=h
 exact ⟨p,n,c,p',n',c',q,m,e,q',m',e',rfl,h1.le l,h2.le l⟩
theorem RQ.shape {V:View}{v:Value}{q:Rat}(h:RQ V v q):∃p n c p' n' c',v=.agg #[.bool (decide (q.num<0)),.slice p n c,.slice p' n' c']:=by
 obtain ⟨p,n,c,p',n',c',e,-⟩:=h;exact ⟨_,_,_,_,_,_,e⟩
end Go.bK
namespace Go.Proofs.Tryz
open Go.bK Go.fV
theorem rM {V:View}{p:OA}{n c:Nat}{ds:List Nat}(h:RD V p n c ds)(hm:ds.length<=1099511627776) :
  ab prog 105 #[.slice p n c] V fun r V'=>∃p1 n1 c1,r=.slice p1 n1 c1/\RD V' p1 n1 c1 ds:=by
 have hl:=h.len
 refine z_ p n c V _ ⟨aF ds,h.sl,by simp [hl],by omega,by omega,by simp,by simp [hl],?_,?_⟩
 ·intro v hv
  simp only [aF,List.mem_map] at hv
  obtain ⟨d,-,rfl⟩:=hv
  rfl
 ·intro bk J sp c' h1 h2 V1 l1 b hb
  refine ⟨_,_,_,rfl,?_⟩
  simp only [Nat.zero_add,Nat.zero_mul,List.take_zero,List.nil_append] at hb h1 ⊢
  exact copied h.eI hl h1 hb
theorem jo {V:View}{v:Value}{z:Int}(h:RI V v z)(hm:(ai z.natAbs).length<=1099511627776) :
  ab prog 104 #[v] V fun r V'=>RI V' r z:=by
 obtain ⟨p,n,c,rfl,h⟩:=h
 refine zZ _ p n c V _ fun V1 l1=>(rM (h.le l1) hm).mono ?_
 rintro r V2 l2 ⟨p1,n1,c1,rfl,g⟩
 exact ⟨_,_,_,rfl,fun V3 l3=>⟨_,_,_,rfl,g.le l3⟩⟩
theorem dF {V:View}(x y:Int)(h0:-9223372036854775808<=x)(h1:x<=9223372036854775807)(h2:-9223372036854775808<=y)(h3:y<=9223372036854775807) :
  ab prog 51 #[.int .i64 x,.int .i64 y] V fun r V'=>RP V' r (x:Rat) (y:Rat):=by
 refine Cl x y V _ fun V1 l1=>(ki x h0 h1).mono ?_
 rintro r V2 l2 hx
 obtain ⟨p,n,c,p',n',c',rfl⟩:=hx.shape
 refine ⟨_,_,_,_,_,_,_,rfl,fun V3 l3=>(ki y h2 h3).mono ?_⟩
 rintro r V4 l4 hy
 obtain ⟨q,m,e,q',m',e',rfl⟩:=hy.shape
 exact ⟨_,_,_,_,_,_,_,rfl,fun V5 l5=>⟨_,_,_,_,_,_,_,_,_,_,_,_,rfl,hx.le (l3.trans (l4.trans l5)),hy.le l5⟩⟩
theorem jq {V:View}{u v w:Value}{px py c qx qy:Rat}(hp:RP V u px py)(hc:RQ V v c)(hq:RP V w qx qy){k m:Nat}(s1:Sz k px)(s2:Sz k py)(s3:Sz m c)(s4:Sz m qx)(s5:Sz m qy)(hkm:k+(m+m+1)<274877906944) :
  ab prog 62 #[u,v,w] V fun r V'=>RP V' r (px+c*qx) (py+c*qy):=by
 obtain ⟨p1,n1,c1,p2,n2,c2,p3,n3,c3,p4,n4,c4,rfl,hp1,hp2⟩:=hp
 obtain ⟨p5,n5,c5,p6,n6,c6,rfl⟩:=hc.shape
 obtain ⟨q1,m1,e1,q2,m2,e2,q3,m3,e3,q4,m4,e4,rfl,hq1,hq2⟩:=hq
 refine Ab _ p1 n1 c1 p2 n2 c2 _ p3 n3 c3 p4 n4 c4 _ p5 n5 c5 p6 n6 c6 _ q1 m1 e1 q2 m2 e2 _ q3 m3 e3 q4 m4 e4 V _ fun V1 l1=>(aO (hc.le l1) (hq1.le l1) s3 s4 (by omega)).mono ?_
 rintro r V2 l2 g1
 obtain ⟨a1,a2,a3,a4,a5,a6,rfl⟩:=g1.shape
 refine ⟨_,_,_,_,_,_,_,rfl,fun V3 l3=>(eH (hp1.le (l1.trans (l2.trans l3))) (g1.le l3) s1 (s3.mul s4) (by omega)).mono ?_⟩
 rintro r V4 l4 g2
 obtain ⟨b1,b2,b3,b4,b5,b6,rfl⟩:=g2.shape
 have Cp:=l1.trans (l2.trans (l3.trans l4))
 refine ⟨_,_,_,_,_,_,_,rfl,fun V5 l5=>(aO (hc.le (Cp.trans l5)) (hq2.le (Cp.trans l5)) s3 s5 (by omega)).mono ?_⟩
 rintro r V6 l6 g3
 obtain ⟨d1,d2,d3,d4,d5,d6,rfl⟩:=g3.shape
 refine ⟨_,_,_,_,_,_,_,rfl,fun V7 l7=>(eH (hp2.le (Cp.trans (l5.trans (l6.trans l7)))) (g3.le l7) s2 (s3.mul s5) (by omega)).mono ?_⟩
 rintro r V8 l8 g4
 obtain ⟨f1,f2,f3,f4,f5,f6,rfl⟩:=g4.shape
 exact ⟨_,_,_,_,_,_,_,rfl,fun V9 l9=>⟨_,_,_,_,_,_,_,_,_,_,_,_,rfl,g2.le (l5.trans (l6.trans (l7.trans (l8.trans l9)))),g4.le l9⟩⟩
theorem Je:Sz 1 ((-1:Int):Rat):=by unfold Sz;decide
theorem AP {V:View}{u w:Value}{px py qx qy:Rat}(hp:RP V u px py)(hq:RP V w qx qy){k m:Nat}(s1:Sz k px)(s2:Sz k py)(s4:Sz m qx)(s5:Sz m qy)(hm:1<=m)(hkm:k+(m+m+1)<274877906944) :
  ab prog 106 #[u,w] V fun r V'=>RP V' r (px-qx) (py-qy):=by
 have hp0:=hp
 have hq0:=hq
 obtain ⟨p1,n1,c1,p2,n2,c2,p3,n3,c3,p4,n4,c4,rfl,-,-⟩:=hp
 obtain ⟨q1,m1,e1,q2,m2,e2,q3,m3,e3,q4,m4,e4,rfl,-,-⟩:=hq
 refine Ah _ p1 n1 c1 p2 n2 c2 _ p3 n3 c3 p4 n4 c4 _ q1 m1 e1 q2 m2 e2 _ q3 m3 e3 q4 m4 e4 V _ fun V1 l1=>(ki (-1) (by omega) (by omega)).mono ?_
 rintro r V2 l2 g1
 obtain ⟨a1,a2,a3,a4,a5,a6,rfl⟩:=g1.shape
 have uM:=l1.trans l2
 refine ⟨_,_,_,_,_,_,_,rfl,fun V3 l3=>(jq (hp0.le (uM.trans l3)) (g1.le l3) (hq0.le (uM.trans l3)) s1 s2 (Je.mono hm) s4 s5 hkm).mono ?_⟩
 have e1:∀a b:Rat,a+((-1:Int):Rat)*b=a-b:=by
  intro a b
  have:((-1:Int):Rat)=-1:=rfl
  rw [this,Rat.neg_mul,Rat.one_mul,Rat.sub_eq_add_neg]
 rw [e1,e1]
 rintro r V4 l4 ⟨b1,b2,b3,b4,b5,b6,b7,b8,b9,b10,b11,b12,rfl,g2,g3⟩
 exact ⟨_,_,_,_,_,_,_,_,_,_,_,_,_,_,rfl,fun V5 l5=>⟨_,_,_,_,_,_,_,_,_,_,_,_,rfl,g2.le l5,g3.le l5⟩⟩
theorem yZ {V:View}{u w:Value}{px py qx qy:Rat}(hp:RP V u px py)(hq:RP V w qx qy){k m:Nat}(s1:Sz k px)(s2:Sz k py)(s4:Sz m qx)(s5:Sz m qy)(hkm:k+m<274877906944) :
  ab prog 116 #[u,w] V fun r V'=>r=.bool (decide (px=qx/\py=qy)):=by
 obtain ⟨p1,n1,c1,p2,n2,c2,p3,n3,c3,p4,n4,c4,rfl,hp1,hp2⟩:=hp
 obtain ⟨q1,m1,e1,q2,m2,e2,q3,m3,e3,q4,m4,e4,rfl,hq1,hq2⟩:=hq
 refine xn _ p1 n1 c1 p2 n2 c2 _ p3 n3 c3 p4 n4 c4 _ q1 m1 e1 q2 m2 e2 _ q3 m3 e3 q4 m4 e4 V _ fun V1 l1=>(DV (hp1.le l1) (hq1.le l1) s1 s4 hkm).mono ?_
 rintro r V2 l2 rfl
 refine ⟨_,rfl,fun h0 V3 l3=>(DV (hp2.le (l1.trans (l2.trans l3))) (hq2.le (l1.trans (l2.trans l3))) s2 s5 hkm).mono ?_,fun h0 V3 l3=>?_⟩
 ·have h0:px=qx:=pI.2 (by simpa using h0)
  rintro r V4 l4 rfl
  refine ⟨_,rfl,fun V5 l5=>?_⟩
  congr 1
  rw [Bool.eq_iff_iff,decide_eq_true_eq,beq_iff_eq,←pI]
  exact ⟨fun h=>⟨h0,h⟩,fun h=>h.2⟩
 ·have h0:¬px=qx:=fun e=>by rw [pI.1 e] at h0;simp at h0
  rw [decide_eq_false fun h=>h0 h.1]
end Go.Proofs.Tryz
namespace Go.bK
open Go.fV
def RL (V:View)(v:Value)(a b c:Int):Prop:=∃p n s p' n' s' q m e,v=.agg #[.bool (decide (a<0)),.slice p n s,.bool (decide (b<0)),.slice p' n' s',.bool (decide (c<0)),.slice q m e] /\
 RD V p n s (ai a.natAbs)/\RD V p' n' s' (ai b.natAbs)/\RD V q m e (ai c.natAbs)
theorem RL.le {V V':View}{v:Value}{a b c:Int}(h:RL V v a b c)(l:V.Le V'):RL V' v a b c:=by
 obtain ⟨p,n,s,p',n',s',q,m,e,rfl,h1,h2,h3⟩:=h
 exact ⟨p,n,s,p',n',s',q,m,e,rfl,h1.le l,h2.le l,h3.le l⟩
end Go.bK
namespace Go.Proofs.Tryz
open Go.bK Go.fV
theorem AQ {V:View}{v:Value}{a b c:Int}(hx:RL V v a b c)(h1:(ai a.natAbs).length<=1099511627776)(h2:(ai b.natAbs).length<=1099511627776)(h3:(ai c.natAbs).length<=1099511627776) :
  ab prog 89 #[v] V fun r V'=>RL V' r a b c:=by
 obtain ⟨p,n,s,p',n',s',q,m,e,rfl,x1,x2,x3⟩:=hx
 refine Ai _ p n s _ p' n' s' _ q m e V _ fun V1 l1=>(jo ⟨_,_,_,rfl,x1.le l1⟩ h1).mono ?_
 rintro r V2 l2 ⟨p1,n1,c1,rfl,g1⟩
 refine ⟨_,_,_,_,rfl,fun V3 l3=>(jo ⟨_,_,_,rfl,x2.le (l1.trans (l2.trans l3))⟩ h2).mono ?_⟩
 rintro r V4 l4 ⟨p2,n2,c2,rfl,g2⟩
 refine ⟨_,_,_,_,rfl,fun V5 l5=>(jo ⟨_,_,_,rfl,x3.le (l1.trans (l2.trans (l3.trans (l4.trans l5))))⟩ h3).mono ?_⟩
 rintro r V6 l6 ⟨p3,n3,c3,rfl,g3⟩
 exact ⟨_,_,_,_,rfl,fun V7 l7=>⟨_,_,_,_,_,_,_,_,_,rfl,g1.le (l3.trans (l4.trans (l5.trans (l6.trans l7)))),g2.le (l5.trans (l6.trans l7)),g3.le l7⟩⟩
theorem mr {z:Int}{g:Nat}(hg:0<g)(hd:g∣z.natAbs):(if decide (z<0)=true then -((z.natAbs / g:Nat):Int) else ((z.natAbs / g:Nat):Int))=z / (g:Int):=by
 obtain ⟨k,hk⟩:=hd
 have hk1:z.natAbs / g=k:=by rw [hk,Nat.mul_div_cancel_left _ hg]
 rw [hk1]
 have hz:z=(g:Int)*(if decide (z<0)=true then -(k:Int) else k):=by
  split
  ·rename_i h
   rw [decide_eq_true_eq] at h
   rw [Int.mul_neg,←Int.natCast_mul,←hk];omega
  ·rename_i h
   rw [decide_eq_true_eq] at h
   rw [←Int.natCast_mul,←hk];omega
 generalize (if decide (z<0)=true then -(k:Int) else k)=t at *
 rw [hz,Int.mul_ediv_cancel_left _ (by omega)]
def ji (a b c:Int):Nat:=Nat.gcd (Nat.gcd a.natAbs b.natAbs) c.natAbs
theorem wE {V:View}{u v w:Value}{a b c:Int}(ha:RI V u a)(hb:RI V v b)(hc:RI V w c)(h1:(ai a.natAbs).length<=274877906944)(h2:(ai b.natAbs).length<=274877906944)(h3:(ai c.natAbs).length<=274877906944) :
  ab prog 107 #[u,v,w] V fun r V'=>(a=0/\b=0->∃l,r=.tuple #[l,.bool false]/\RL V' l 0 0 0) /\
   (¬(a=0/\b=0)->∃l,r=.tuple #[l,.bool true]/\RL V' l (a / (ji a b c:Int)) (b / (ji a b c:Int)) (c / (ji a b c:Int))):=by
 obtain ⟨p,n,s,rfl,ha⟩:=ha
 obtain ⟨p',n',s',rfl,hb⟩:=hb
 obtain ⟨q,m,e,rfl,hc⟩:=hc
 refine vU _ p n s _ p' n' s' _ q m e V _ fun V1 l1=>(hJ (ha.le l1) (hb.le l1) h1 h2).mono ?_
 rintro r V2 l2 ⟨p1,n1,c1,rfl,g1⟩
 have hp:=fm g1.len
 have nk:Nat.gcd a.natAbs b.natAbs=0↔a=0/\b=0:=by rw [Nat.gcd_eq_zero_iff];omega
 refine ⟨_,_,_,rfl,fun h0 V3 l3=>⟨fun _=>⟨_,rfl,_,_,_,_,_,_,_,_,_,rfl,RD.nil,RD.nil,RD.nil⟩,fun h=>?_⟩,fun h0 V4 l4=>?_⟩
 ·exact absurd (nk.1 (by simp at h0;omega)) h
 have hne:¬(a=0/\b=0):=fun h=>by have:=nk.2 h;simp at h0;omega
 have hg0:0<Nat.gcd a.natAbs b.natAbs:=by have:=nk;omega
 have hgl:(ai (Nat.gcd a.natAbs b.natAbs)).length<=274877906944:=by
  rcases Nat.eq_zero_or_pos a.natAbs with h|h
  ·rw [h,Nat.gcd_zero_left];exact h2
  ·exact Nat.le_trans (aI (Nat.gcd_le_left _ h)) h1
 refine (hJ (g1.le l4) (hc.le (l1.trans (l2.trans l4))) hgl h3).mono ?_
 rintro r V5 l5 ⟨p2,n2,c2,rfl,g2⟩
 have KY:=l1.trans (l2.trans (l4.trans l5))
 have e3:Nat.gcd (Nat.gcd a.natAbs b.natAbs) c.natAbs=ji a b c:=rfl
 have hG0:0<ji a b c:=Nat.gcd_pos_of_pos_left _ hg0
 have L1:(ai (ji a b c)).length<=274877906944:=Nat.le_trans (aI (Nat.gcd_le_left _ hg0)) hgl
 have da:ji a b c∣a.natAbs:=Nat.dvd_trans (Nat.gcd_dvd_left _ _) (Nat.gcd_dvd_left _ _)
 have db:ji a b c∣b.natAbs:=Nat.dvd_trans (Nat.gcd_dvd_left _ _) (Nat.gcd_dvd_right _ _)
 have dc:ji a b c∣c.natAbs:=Nat.gcd_dvd_right _ _
 have sa:=mr hG0 da
 have sb:=mr hG0 db
 have sc:=mr hG0 dc
 rw [e3] at g2
 generalize ji a b c=G at *
 refine ⟨_,_,_,rfl,fun V6 l6=>(cF (ha.le (KY.trans l6)) (g2.le l6) h1 L1 hG0).mono ?_⟩
 rintro r V7 l7 ⟨p3,n3,c3,p4,n4,c4,rfl,g3,-⟩
 have Fs:=l6.trans l7
 refine ⟨_,_,_,_,_,_,rfl,fun V8 l8=>(cF (hb.le (KY.trans (Fs.trans l8))) (g2.le (Fs.trans l8)) h2 L1 hG0).mono ?_⟩
 rintro r V9 l9 ⟨p5,n5,c5,p6,n6,c6,rfl,g5,-⟩
 have Ny:=Fs.trans (l8.trans l9)
 refine ⟨_,_,_,_,_,_,rfl,fun g_ l10=>(cF (hc.le (KY.trans (Ny.trans l10))) (g2.le (Ny.trans l10)) h3 L1 hG0).mono ?_⟩
 rintro r gW bI ⟨p7,n7,c7,p8,n8,c8,rfl,g7,-⟩
 refine ⟨_,_,_,_,_,_,rfl,fun lH cw=>(cx _ (g3.le (l8.trans (l9.trans (l10.trans (bI.trans cw)))))).mono ?_⟩
 rw [sa]
 rintro r lU cd ⟨p9,n9,c9,rfl,g9⟩
 refine ⟨_,_,_,_,rfl,fun po dN=>(cx _ (g5.le (l10.trans (bI.trans (cw.trans (cd.trans dN)))))).mono ?_⟩
 rw [sb]
 rintro r nF dk ⟨HK,n10,c10,rfl,g10⟩
 refine ⟨_,_,_,_,rfl,fun mW dm=>(cx _ (g7.le (cw.trans (cd.trans (dN.trans (dk.trans dm)))))).mono ?_⟩
 rw [sc]
 rintro r nN cP ⟨Lh,n11,c11,rfl,g11⟩
 refine ⟨_,_,_,_,rfl,fun qI dZ=>⟨fun h=>absurd h hne,fun _=>⟨_,rfl,_,_,_,_,_,_,_,_,_,rfl,?_,?_,?_⟩⟩⟩
 ·exact g9.le (dN.trans (dk.trans (dm.trans (cP.trans dZ))))
 ·exact g10.le (dm.trans (cP.trans dZ))
 ·exact g11.le dZ
abbrev L3:=Int×Int×Int
def j9 (x:L3):Bool:=decide (¬(x.1=0/\x.2.1=0))&&decide (ji x.1 x.2.1 x.2.2=1)
def Bd (x:L3):Prop:=x.1.natAbs<2^1000/\x.2.1.natAbs<2^1000/\x.2.2.natAbs<2^1000
inductive Tr where
 | leaf (i:Bool)|node (l:L3) (a b:Tr)
 deriving DecidableEq
structure Nd where
 ln:L3
 left:Int
 right:Int
 deriving DecidableEq
def Tr.size:Tr->Nat
 | .leaf _=>0
 | .node _ a b=>a.size+b.size+1
def Tr.KV:Tr->Bool
 | .leaf _=>true
 | .node ..=>false
def Tr.lG (p:L3->Prop):Tr->Prop
 | .leaf _=>True
 | .node l a b=>p l/\a.lG p/\b.lG p
theorem Tr.lG.imp {p q:L3->Prop}(h:∀x,p x->q x):∀{t:Tr},t.lG p->t.lG q
 | .leaf _,_=>trivial
 | .node _ _ _,⟨h1,h2,h3⟩=>⟨h _ h1,Tr.lG.imp h h2,Tr.lG.imp h h3⟩
def rt (k:Nat):Tr->Int
 | .leaf i=>if i then -2 else -1
 | .node ..=>(k:Int)
def wr:Nat->Tr->List Nd
 | _,.leaf _=>[]
 | k,.node l a b=>⟨l,rt (k+1) a,rt (k+1+a.size) b⟩::(wr (k+1) a++wr (k+1+a.size) b)
theorem dV:∀(t:Tr)(k:Nat),(wr k t).length=t.size
 | .leaf _,_=>rfl
 | .node _ a b,k=>by simp only [wr,List.length_cons,List.length_append,dV a,dV b,Tr.size]
def Mq (l:List Nd):Int->Tr->List Nat->Prop
 | n,.leaf i,I=>n=(if i then -2 else -1)/\I=[]
 | n,.node ln a b,I=>∃(k:Nat)(x:Nd)(A B:List Nat),n=(k:Int)/\l[k]?=some x/\x.ln=ln/\Mq l x.left a A/\Mq l x.right b B/\I=k::(A++B)
theorem Dj:∀(t:Tr)(l pre post:List Nd)(k:Nat),l=pre++(wr k t++post)->pre.length=k->Mq l (rt k t) t (List.range' k t.size)
 | .leaf i,l,pre,post,k,_,_=>⟨rfl,rfl⟩
 | .node ln a b,l,pre,post,k,hl,hp=>by
  refine ⟨k,⟨ln,rt (k+1) a,rt (k+1+a.size) b⟩,List.range' (k+1) a.size,List.range' (k+1+a.size) b.size,rfl,?_,rfl,?_,?_,?_⟩
  ·subst hl
   rw [List.getElem?_append_right (by omega)]
   simp [hp,wr]
  ·refine Dj a l (pre++[⟨ln,rt (k+1) a,rt (k+1+a.size) b⟩]) (wr (k+1+a.size) b++post) (k+1) ?_ (by simp [hp])
   rw [hl];simp [wr]
  ·refine Dj b l (pre++(⟨ln,rt (k+1) a,rt (k+1+a.size) b⟩::wr (k+1) a)) post (k+1+a.size) ?_ (by simp [hp,dV];omega)
   rw [hl];simp [wr]
  ·simp only [Tr.size]
   rw [List.range'_succ,←List.range'_append_1]
structure RS where
 seen:List Bool
 kY:Nat
 bad:Bool
def eB (l:List Nd):Nat->Int->RS->Tr×RS
 | 0,_,s=>(.leaf false,s)
 | f+1,n,s=>
  if n=-2 then (.leaf true,s) else if n=-1 then (.leaf false,s) else if n<0 then (.leaf false,{ s with bad:=true })
  else match l[n.toNat]?,s.seen[n.toNat]? with
   | some x,some false=>
    if j9 x.ln then
     let r1:=eB l f x.left ⟨s.seen.set n.toNat true,s.kY+1,s.bad⟩
     let r2:=eB l f x.right r1.2
     (.node x.ln r1.1 r2.1,r2.2)
    else (.leaf false,⟨s.seen.set n.toNat true,s.kY+1,true⟩)
   | _,_=>(.leaf false,{ s with bad:=true })
theorem count_set {l:List Bool}{k:Nat}(h:l[k]?=some false):(l.set k true).count false+1=l.count false:=by
 induction l generalizing k with
 | nil=>simp at h
 | cons x r ih=>
  cases k with
  | zero=>simp at h;subst h;simp
  | succ k=>
   simp at h
   have:=ih h
   simp only [List.set_cons_succ,List.count_cons]
   omega
theorem pY (l:List Nd):∀(f:Nat)(n:Int)(s:RS),(eB l f n s).2.seen.count false<=s.seen.count false/\(eB l f n s).2.seen.length=s.seen.length
 | 0,_,_=>⟨Nat.le_refl _,rfl⟩
 | f+1,n,s=>by
  simp only [eB]
  split
  ·exact ⟨Nat.le_refl _,rfl⟩
  ·split
   ·exact ⟨Nat.le_refl _,rfl⟩
   ·split
    ·exact ⟨Nat.le_refl _,rfl⟩
    ·split
     ·rename_i x hx hs
      have hc:=count_set hs
      split
      ·obtain ⟨h1,h2⟩:=pY l f x.left ⟨s.seen.set n.toNat true,s.kY+1,s.bad⟩
       obtain ⟨h3,h4⟩:=pY l f x.right (eB l f x.left ⟨s.seen.set n.toNat true,s.kY+1,s.bad⟩).2
       dsimp only at h1 h2 h3 h4 ⊢
       exact ⟨by omega,by rw [h4,h2,List.length_set]⟩
      ·dsimp only;exact ⟨by omega,by simp⟩
     ·exact ⟨Nat.le_refl _,rfl⟩
theorem zz (l:List Nd):∀(f:Nat)(n:Int)(s:RS),(eB l f n s).2.kY+(eB l f n s).2.seen.count false=s.kY+s.seen.count false
 | 0,_,_=>rfl
 | f+1,n,s=>by
  simp only [eB]
  split
  ·rfl
  ·split
   ·rfl
   ·split
    ·rfl
    ·split
     ·rename_i x hx hs
      have hc:=count_set hs
      split
      ·have h1:=zz l f x.left ⟨s.seen.set n.toNat true,s.kY+1,s.bad⟩
       have h3:=zz l f x.right (eB l f x.left ⟨s.seen.set n.toNat true,s.kY+1,s.bad⟩).2
       dsimp only at h1 h3 ⊢
       omega
      ·dsimp only;omega
     ·rfl
theorem zx {p:L3->Prop}{l:List Nd}(hl:∀x∈l,p x.ln):∀(f:Nat)(n:Int)(s:RS),(eB l f n s).1.lG p
 | 0,_,_=>trivial
 | f+1,n,s=>by
  simp only [eB]
  split
  ·trivial
  ·split
   ·trivial
   ·split
    ·trivial
    ·split
     ·rename_i x hx hs
      split
      ·exact ⟨hl x (List.mem_of_getElem? hx),zx hl f _ _,zx hl f _ _⟩
      ·trivial
     ·trivial
def oL (s:List Bool)(I:List Nat):List Bool:=I.foldl (fun s k=>s.set k true) s
theorem vk:∀(I:List Nat)(s:List Bool)(k:Nat),k∉I->(oL s I)[k]?=s[k]?
 | [],_,_,_=>rfl
 | i::r,s,k,h=>by
  have:=vk r (s.set i true) k (fun h'=>h (List.mem_cons_of_mem _ h'))
  unfold oL at this ⊢
  rw [List.foldl_cons,this,List.getElem?_set_ne (fun e=>h (by simp [e]))]
theorem zA (l:List Nd):∀(t:Tr)(f:Nat)(n:Int)(s:RS)(I:List Nat),Mq l n t I->I.Nodup->(∀k∈I,s.seen[k]?=some false)->t.lG (fun x=>j9 x=true)->t.size<f->eB l f n s=(t,⟨oL s.seen I,s.kY+t.size,s.bad⟩)
 | .leaf i,f,n,s,I,⟨h1,h2⟩,_,_,_,hf=>by
  subst h2
  obtain ⟨f,rfl⟩:∃g,f=g+1:=⟨f-1,by simp [Tr.size] at hf;omega⟩
  cases i with
  | true=>simp only [if_true] at h1;subst h1;simp [eB,oL,Tr.size]
  | false=>
   have h1:n=-1:=by simpa using h1
   subst h1;simp [eB,oL,Tr.size]
 | .node ln a b,f,n,s,I,⟨k,x,A,B,h1,h2,h3,h4,h5,h6⟩,hnd,hun,hok,hf=>by
  subst h1 h3 h6
  obtain ⟨f,rfl⟩:∃g,f=g+1:=⟨f-1,by simp [Tr.size] at hf;omega⟩
  rw [List.nodup_cons,List.nodup_append] at hnd
  obtain ⟨hk,hA,hB,WC⟩:=hnd
  have hks:=hun k (by simp)
  simp only [Tr.size] at hf
  have e1:=zA l a f x.left ⟨s.seen.set k true,s.kY+1,s.bad⟩ A h4 hA (fun j hj=>by
   have:k≠j:=fun e=>hk (by rw [e];simp [hj])
   dsimp only
   rw [List.getElem?_set_ne this]
   exact hun j (by simp [hj])) hok.2.1 (by omega)
  have e2:=zA l b f x.right ⟨oL (s.seen.set k true) A,s.kY+1+a.size,s.bad⟩ B h5 hB (fun j hj=>by
   have:k≠j:=fun e=>hk (by rw [e];simp [hj])
   dsimp only
   rw [vk A _ j (fun h=>WC j h j hj rfl),List.getElem?_set_ne this]
   exact hun j (by simp [hj])) hok.2.2 (by omega)
  have hn1:¬((k:Int)=-2):=by omega
  have hn2:¬((k:Int)=-1):=by omega
  have WV:¬((k:Int)<0):=by omega
  have e0:eB l (f+1) (k:Int) s=(.node x.ln (eB l f x.left ⟨s.seen.set k true,s.kY+1,s.bad⟩).1 (eB l f x.right (eB l f x.left ⟨s.seen.set k true,s.kY+1,s.bad⟩).2).1,(eB l f x.right (eB l f x.left ⟨s.seen.set k true,s.kY+1,s.bad⟩).2).2):=by
   rw [eB]
   rw [if_neg hn1,if_neg hn2,if_neg WV]
   simp only [Int.toNat_natCast,h2,hks,hok.1,if_true]
  rw [e0,e1]
  dsimp only
  rw [e2]
  simp only [oL,List.foldl_cons,List.foldl_append,Tr.size,Prod.mk.injEq,RS.mk.injEq,true_and]
  first|omega|exact ⟨by omega,trivial⟩
def nI (l:List Nd)(root:Int):Option Tr:=
 if 65536<l.length then none else
 let r:=eB l (l.length+1) root ⟨List.replicate l.length false,0,false⟩
 if r.2.bad=true\/r.2.kY≠l.length then none else some r.1
theorem IK {l:List Nd}{n:Int}{t:Tr}{I:List Nat}(h:Mq l n t I)(hn:I.Nodup)(hI:∀k∈I,k<l.length)(hs:t.size=l.length)(hok:t.lG fun x=>j9 x=true)(hl:l.length<=65536):nI l n=some t:=by
 unfold nI
 rw [if_neg (by omega)]
 rw [zA l t (l.length+1) n _ I h hn (fun k hk=>by simp [hI k hk]) hok (by omega)]
 simp [hs]
theorem GQ {t:Tr}(hok:t.lG fun x=>j9 x=true)(hl:t.size<=65536):nI (wr 0 t) (rt 0 t)=some t:=by
 have h:=Dj t (wr 0 t) [] [] 0 (by simp) rfl
 refine IK h List.nodup_range' (fun k hk=>?_) (dV t 0).symm hok (by rw [dV];exact hl)
 rw [dV]
 have:=List.mem_range'_1.1 hk
 omega
theorem D_ {p:L3->Prop}{l:List Nd}{n:Int}{t:Tr}(hl:∀x∈l,p x.ln)(h:nI l n=some t):t.lG p:=by
 unfold nI at h
 split at h
 ·cases h
 ·dsimp only at h
  split at h
  ·cases h
  ·cases h;exact zx hl _ _ _
def Xn (n Kp i:Nat):Nat:=n-1-(i+Kp)%n
def mv (n Kp:Nat)(i:Int):Int:=if i<0 then i else (Xn n Kp i.toNat:Int)
end Go.Proofs.Tryz
namespace Go.bK
open Go.fV
def Cn (V:View)(v:Value)(a b c:Rat):Prop:=∃(x1 x2:Int)(p:OA)(y1 y2:Int)(q:OA)(z1 z2:Int)(r:OA),v=.agg #[.int .i64 x1,.int .i64 x2,.pointer p,.int .i64 y1,.int .i64 y2,.pointer q,.int .i64 z1,.int .i64 z2,.pointer r] /\
 RR V (.agg #[.int .i64 x1,.int .i64 x2,.pointer p]) a/\RR V (.agg #[.int .i64 y1,.int .i64 y2,.pointer q]) b/\RR V (.agg #[.int .i64 z1,.int .i64 z2,.pointer r]) c
def HN (v:Value):Prop:=∃(x1 x2:Int)(x3:OA)(y1 y2:Int)(y3:OA)(z1 z2:Int)(z3:OA),v=.agg #[.int .i64 x1,.int .i64 x2,.pointer x3,.int .i64 y1,.int .i64 y2,.pointer y3,.int .i64 z1,.int .i64 z2,.pointer z3]
theorem Cn.le {V V':View}{v:Value}{a b c:Rat}(h:Cn V v a b c)(l:V.Le V'):Cn V' v a b c:=by
 obtain ⟨x1,x2,p,y1,y2,q,z1,z2,r,rfl,h1,h2,h3⟩:=h
 exact ⟨x1,x2,p,y1,y2,q,z1,z2,r,rfl,h1.le l,h2.le l,h3.le l⟩
end Go.bK
namespace Go.Proofs.Tryz
open Go.bK Go.fV
def u_ (b1:Bool)(xs:List Nat)(b2:Bool)(ys:List Nat)(b3:Bool)(zs:List Nat):Bool:=
 lR b1 xs&&lR b2 ys&&lR b3 zs&&!(decide ((aY b1 xs:Rat)=0)&&decide ((aY b2 ys:Rat)=0))&&decide (gQ (gQ (aY b1 xs) (aY b2 ys)) (aY b3 zs)=((1:Int):Rat))
theorem rl {V:View}{ok:Bool}{A B C:Rat}(h:ok=false):∃v,Value.tuple #[.agg #[.int .i64 0,.int .i64 0,.pointer none,.int .i64 0,.int .i64 0,.pointer none,.int .i64 0,.int .i64 0,.pointer none],.bool false]=.tuple #[v,.bool ok]/\HN v/\(ok=true->Cn V v A B C):=by
 subst h;exact ⟨_,rfl,⟨_,_,_,_,_,_,_,_,_,rfl⟩,fun h=>nomatch h⟩
theorem zQ:Sz 1 ((1:Int):Rat):=by unfold Sz;decide
theorem uc {V:View}(b1 b2 b3:Bool){p q s:OA}{n c m e i j:Nat}{xs ys zs:List Nat}(hx:RD V p n c xs)(hy:RD V q m e ys)(hz:RD V s i j zs)
  (h1:xs.length<=1099511627776)(h2:ys.length<=1099511627776)(h3:zs.length<=1099511627776){k:Nat}(s1:Sz k (aY b1 xs:Rat))(s2:Sz k (aY b2 ys:Rat))(s3:Sz k (aY b3 zs:Rat))(hk:4*k+4<1099511627776) :
  ab prog 132 #[.agg #[.bool b1,.slice p n c,.bool b2,.slice q m e,.bool b3,.slice s i j]] V fun r V'=>∃v,r=.tuple #[v,.bool (u_ b1 xs b2 ys b3 zs)]/\HN v/\(u_ b1 xs b2 ys b3 zs=true->Cn V' v (aY b1 xs) (aY b2 ys) (aY b3 zs)):=by
 refine B0 _ p n c _ q m e _ s i j V _ fun V1 l1=>(fM b1 (hx.le l1) h1).mono ?_
 rintro r V2 l2 rfl
 refine ⟨_,rfl,fun h0 V3 l3=>rl ?_,fun h0 V4 l4=>(fM b2 (hy.le (l1.trans (l2.trans l4))) h2).mono ?_⟩
 ·have h0:lR b1 xs=false:=by simpa using h0
  simp [u_,h0]
 have h0:lR b1 xs=true:=by simpa using h0
 rintro r V5 l5 rfl
 refine ⟨_,rfl,fun g0 V6 l6=>rl ?_,fun g0 V7 l7=>(fM b3 (hz.le (l1.trans (l2.trans (l4.trans (l5.trans l7))))) h3).mono ?_⟩
 ·have g0:lR b2 ys=false:=by simpa using g0
  simp [u_,g0]
 have g0:lR b2 ys=true:=by simpa using g0
 rintro r V8 l8 rfl
 have PB:=l1.trans (l2.trans (l4.trans (l5.trans (l7.trans l8))))
 refine ⟨_,rfl,fun f0 V9 l9=>rl ?_,fun f0 g_ l10=>(kP b1 (hx.le (PB.trans l10)) h1).mono ?_⟩
 ·have f0:lR b3 zs=false:=by simpa using f0
  simp [u_,f0]
 have f0:lR b3 zs=true:=by simpa using f0
 rintro r gW bI ra
 obtain ⟨x1,x2,x3,rfl⟩:=ra.shape
 have Nw:=PB.trans (l10.trans bI)
 refine ⟨_,_,_,rfl,fun lH cw=>(kP b2 (hy.le (Nw.trans cw)) h2).mono ?_⟩
 rintro r lU cd rb
 obtain ⟨y1,y2,y3,rfl⟩:=rb.shape
 have R6:=Nw.trans (cw.trans cd)
 refine ⟨_,_,_,rfl,fun po dN=>(kP b3 (hz.le (R6.trans dN)) h3).mono ?_⟩
 rintro r nF dk rc
 obtain ⟨z1,z2,z3,rfl⟩:=rc.shape
 replace ra:=ra.le (cw.trans (cd.trans (dN.trans dk)))
 replace rb:=rb.le (dN.trans dk)
 have hok:u_ b1 xs b2 ys b3 zs=(!(decide ((aY b1 xs:Rat)=0)&&decide ((aY b2 ys:Rat)=0))&&decide (gQ (gQ (aY b1 xs) (aY b2 ys)) (aY b3 zs)=((1:Int):Rat))):=by
  simp only [u_,h0,g0,f0,Bool.true_and]
 rw [hok]
 clear hok h0 g0 f0 hx hy hz
 generalize (aY b1 xs:Rat)=A at *
 generalize (aY b2 ys:Rat)=B at *
 generalize (aY b3 zs:Rat)=C at *
 refine ⟨_,_,_,rfl,fun mW dm=>(AB (ra.le dm)).mono ?_⟩
 rintro r nN cP rfl
 refine ⟨_,rfl,fun t0 qI dZ=>(AB (rb.le (dm.trans (cP.trans dZ)))).mono ?_,fun t0 tu eh=>?_⟩
 ·rintro r tq dR rfl
  refine ⟨_,rfl,fun u0 An iQ=>rl (by rw [t0,u0];rfl),fun u0 tu eh=>?_⟩
  have lb:nF.Le tu:=dm.trans (cP.trans (dZ.trans (dR.trans eh)))
  have hn:(decide (A=0)&&decide (B=0))=false:=by rw [u0,Bool.and_false]
  rw [hn]
  refine (iG (ra.le lb) (rb.le lb) s1 s2 (by omega)).mono ?_
  rintro r wi kq rg
  obtain ⟨g1,g2,g3,rfl⟩:=rg.shape
  refine ⟨_,_,_,rfl,fun tM fB=>(iG (rg.le fB) (rc.le (lb.trans (kq.trans fB))) (fW s1 s2) s3 (by omega)).mono ?_⟩
  rintro r Cu pg rh
  obtain ⟨h1,h2,h3,rfl⟩:=rh.shape
  refine ⟨_,_,_,rfl,fun DN gF=>(kO 1 (by omega) (by omega)).mono ?_⟩
  rintro r Fv nV ri
  obtain ⟨i1,i2,i3,rfl⟩:=ri.shape
  refine ⟨_,_,_,rfl,fun Js lY=>(xM (rh.le (gF.trans (nV.trans lY))) (ri.le lY) (fW (fW s1 s2) s3) zQ (by omega)).mono ?_⟩
  rintro r HR Bk rfl
  have lz:nF.Le HR:=lb.trans (kq.trans (fB.trans (pg.trans (gF.trans (nV.trans (lY.trans Bk))))))
  refine ⟨_,rfl,fun w0 LX tB=>rl ?_,fun w0 Fw uN=>?_⟩
  ·rw [Bool.not_eq_true'] at w0
   rw [w0];rfl
  ·have w0:decide (gQ (gQ A B) C=((1:Int):Rat))=true:=by
    cases h:decide (gQ (gQ A B) C=((1:Int):Rat))
    ·rw [h] at w0;cases w0
    ·rfl
   rw [w0]
   exact ⟨_,rfl,⟨_,_,_,_,_,_,_,_,_,rfl⟩,fun _=>⟨_,_,_,_,_,_,_,_,_,rfl,ra.le (lz.trans uN),rb.le (lz.trans uN),rc.le (lz.trans uN)⟩⟩
 ·have lb:nF.Le tu:=dm.trans (cP.trans eh)
  have hn:(decide (A=0)&&decide (B=0))=false:=by rw [t0,Bool.false_and]
  rw [hn]
  refine (iG (ra.le lb) (rb.le lb) s1 s2 (by omega)).mono ?_
  rintro r wi kq rg
  obtain ⟨g1,g2,g3,rfl⟩:=rg.shape
  refine ⟨_,_,_,rfl,fun tM fB=>(iG (rg.le fB) (rc.le (lb.trans (kq.trans fB))) (fW s1 s2) s3 (by omega)).mono ?_⟩
  rintro r Cu pg rh
  obtain ⟨h1,h2,h3,rfl⟩:=rh.shape
  refine ⟨_,_,_,rfl,fun DN gF=>(kO 1 (by omega) (by omega)).mono ?_⟩
  rintro r Fv nV ri
  obtain ⟨i1,i2,i3,rfl⟩:=ri.shape
  refine ⟨_,_,_,rfl,fun Js lY=>(xM (rh.le (gF.trans (nV.trans lY))) (ri.le lY) (fW (fW s1 s2) s3) zQ (by omega)).mono ?_⟩
  rintro r HR Bk rfl
  have lz:nF.Le HR:=lb.trans (kq.trans (fB.trans (pg.trans (gF.trans (nV.trans (lY.trans Bk))))))
  refine ⟨_,rfl,fun w0 LX tB=>rl ?_,fun w0 Fw uN=>?_⟩
  ·rw [Bool.not_eq_true'] at w0
   rw [w0];rfl
  ·have w0:decide (gQ (gQ A B) C=((1:Int):Rat))=true:=by
    cases h:decide (gQ (gQ A B) C=((1:Int):Rat))
    ·rw [h] at w0;cases w0
    ·rfl
   rw [w0]
   exact ⟨_,rfl,⟨_,_,_,_,_,_,_,_,_,rfl⟩,fun _=>⟨_,_,_,_,_,_,_,_,_,rfl,ra.le (lz.trans uN),rb.le (lz.trans uN),rc.le (lz.trans uN)⟩⟩
theorem Cw (a:Addr)(i j:Nat):(a.add i).add j=a.add (i+j):=by
 unfold Addr.add
 by_cases h1:i=0
 ·subst h1;simp
 ·by_cases h2:j=0
  ·subst h2;simp [h1]
  ·simp [h1,h2,Nat.add_assoc]
theorem BE {V:View}{b:Nat}{xs:List Value}{ty:TypeId}{m:Nat×Nat}(h:V.bE b (.cells xs.toArray ty m))(i:Nat){v:Value}(hv:xs[i]?=some v):∃a,ah (some ⟨b,0,none⟩) i=some a/\V.at a v:=
 ⟨⟨b,i,none⟩,by simp [ah,add_zero'],cU h hv⟩
theorem Bt {a b c:Int}:u_ (decide (a<0)) (ai a.natAbs) (decide (b<0)) (ai b.natAbs) (decide (c<0)) (ai c.natAbs)=j9 (a,b,c):=by
 have hn:∀z:Int,lR (decide (z<0)) (ai z.natAbs)=true:=by
  intro z
  unfold lR
  rw [ag]
  simp only [decide_true,Bool.true_and]
  by_cases h:z<0
  ·simp only [h,decide_true,Bool.not_true,Bool.false_or,decide_eq_true_eq]
   intro e
   have:=bC.1 e
   omega
  ·simp [h]
 have hg:gQ (gQ (a:Rat) (b:Rat)) (c:Rat)=((ji a b c:Nat):Int):=by
  have g2:∀x y:Int,gQ (x:Rat) (y:Rat)=((Nat.gcd x.natAbs y.natAbs:Nat):Int):=by
   intro x y
   unfold gQ
   have e1:((x:Rat)).num=x:=rfl
   have e2:((y:Rat)).num=y:=rfl
   have e3:((x:Rat)).den=1:=rfl
   have e4:((y:Rat)).den=1:=rfl
   rw [e1,e2,e3,e4]
   simp only [Nat.mul_one]
   exact Rat.mkRat_one _
  rw [g2,g2]
  rfl
 unfold u_ j9
 rw [hn,hn,hn,aH,aH,aH,hg]
 have h0:∀z:Int,((z:Rat)=0)↔z=0:=fun z=>by exact Rat.intCast_eq_zero_iff
 simp only [Bool.true_and,h0]
 rw [Bool.eq_iff_iff]
 simp only [Bool.and_eq_true,Bool.not_eq_true',Bool.and_eq_false_iff,decide_eq_false_iff_not,decide_eq_true_eq]
 have h1:(((ji a b c:Nat):Int):Rat)=((1:Int):Rat)↔ji a b c=1:=by
  rw [Rat.intCast_inj];omega
 rw [h1]
 constructor
 ·rintro ⟨h,h'⟩;exact ⟨fun e=>by rcases h with h|h;exact h e.1;exact h e.2,h'⟩
 ·rintro ⟨h,h'⟩
  refine ⟨?_,h'⟩
  by_cases ha:a=0
  ·exact .inr fun hb=>h ⟨ha,hb⟩
  ·exact .inl ha
theorem rA {z:Int}{k:Nat}(h:z.natAbs<2^k)(hk:0<k):Sz k (z:Rat):=⟨h,Nat.one_lt_two_pow (by omega)⟩
theorem Bd.ai {x:L3}(h:Bd x):(ai x.1.natAbs).length<=1000/\(ai x.2.1.natAbs).length<=1000/\(ai x.2.2.natAbs).length<=1000:=⟨af h.1,af h.2.1,af h.2.2⟩
theorem Bd.sz {x:L3}(h:Bd x):Sz 1000 (x.1:Rat)/\Sz 1000 (x.2.1:Rat)/\Sz 1000 (x.2.2:Rat):=⟨rA h.1 (by omega),rA h.2.1 (by omega),rA h.2.2 (by omega)⟩
theorem AG {V:View}{v:Value}{x:L3}(h:RL V v x.1 x.2.1 x.2.2)(hb:Bd x) :
  ab prog 132 #[v] V fun r V'=>∃w,r=.tuple #[w,.bool (j9 x)]/\HN w/\(j9 x=true->Cn V' w x.1 x.2.1 x.2.2):=by
 obtain ⟨p,n,s,p',n',s',q,m,e,rfl,h1,h2,h3⟩:=h
 obtain ⟨d1,d2,d3⟩:=hb.ai
 obtain ⟨s1,s2,s3⟩:=hb.sz
 have hc:=uc (V:=V) (decide (x.1<0)) (decide (x.2.1<0)) (decide (x.2.2<0)) h1 h2 h3 (by omega) (by omega) (by omega) (k:=1000) (by rw [aH];exact s1) (by rw [aH];exact s2) (by rw [aH];exact s3) (by omega)
 rw [Bt,aH,aH,aH] at hc
 exact hc
def RT (V:View):OA->Tr->Prop
 | p,.leaf i=>∃(b:Nat)(c0 c1 c2 c3 c4 c5 c6 c7 c8:Value)(r:OA),p=some ⟨b,0,none⟩/\V.bE b (.cells #[c0,c1,c2,c3,c4,c5,c6,c7,c8,.pointer none,.pointer r,.bool i] 190 (0,0))
 | p,.node l x y=>∃(b:Nat)(x1 x2:Int)(x3:OA)(y1 y2:Int)(y3:OA)(z1 z2:Int)(z3:OA)(pl pr:OA)(i:Bool),p=some ⟨b,0,none⟩ /\
   V.bE b (.cells #[.int .i64 x1,.int .i64 x2,.pointer x3,.int .i64 y1,.int .i64 y2,.pointer y3,.int .i64 z1,.int .i64 z2,.pointer z3,.pointer pl,.pointer pr,.bool i] 190 (0,0)) /\
   Cn V (.agg #[.int .i64 x1,.int .i64 x2,.pointer x3,.int .i64 y1,.int .i64 y2,.pointer y3,.int .i64 z1,.int .i64 z2,.pointer z3]) l.1 l.2.1 l.2.2/\RT V pl x/\RT V pr y
theorem RT.le {V V':View}(h:V.Le V'):∀{t:Tr} {p:OA},RT V p t->RT V' p t
 | .leaf i,p,⟨b,c0,c1,c2,c3,c4,c5,c6,c7,c8,r,e,hb⟩=>⟨b,c0,c1,c2,c3,c4,c5,c6,c7,c8,r,e,h _ _ hb⟩
 | .node l x y,p,⟨b,x1,x2,x3,y1,y2,y3,z1,z2,z3,pl,pr,i,e,hb,hl,hx,hy⟩=>⟨b,x1,x2,x3,y1,y2,y3,z1,z2,z3,pl,pr,i,e,h _ _ hb,hl.le h,RT.le h hx,RT.le h hy⟩
theorem RT.R4 {V:View}{t:Tr}{p:OA}(h:RT V p t):p.isSome=true:=by
 cases t with
 | leaf i=>obtain ⟨b,c0,c1,c2,c3,c4,c5,c6,c7,c8,r,rfl,hb⟩:=h;rfl
 | node l x y=>obtain ⟨b,x1,x2,x3,y1,y2,y3,z1,z2,z3,pl,pr,i,rfl,-⟩:=h;rfl
theorem fL {V:View}(i:Bool):ab prog 145 #[.bool i] V fun r V'=>∃p,r=.pointer p/\RT V' p (.leaf i):=
 BV i V _ fun V1 l1 b hb=>⟨_,rfl,b,_,_,_,_,_,_,_,_,_,_,rfl,hb⟩
theorem kN {V:View}{p:OA}{t:Tr}(h:RT V p t):ab prog 124 #[.pointer p] V fun r V'=>r=.bool t.KV:=by
 cases t with
 | leaf i=>
  obtain ⟨b,c0,c1,c2,c3,c4,c5,c6,c7,c8,r,rfl,hb⟩:=h
  exact lO _ V _ ⟨rfl,rfl,_,BE hb 9 rfl,fun V1 l1=>rfl⟩
 | node l x y=>
  obtain ⟨b,x1,x2,x3,y1,y2,y3,z1,z2,z3,pl,pr,i,rfl,hb,hl,hx,hy⟩:=h
  refine lO _ V _ ⟨rfl,rfl,_,BE hb 9 rfl,fun V1 l1=>?_⟩
  have:=hx.R4
  cases pl with
  | none=>cases this
  | some a=>rfl
theorem Ez {V:View}{v:Value}{l:L3}{p q:OA}{x y:Tr}(hl:Cn V v l.1 l.2.1 l.2.2)(hx:RT V p x)(hy:RT V q y) :
  ab prog 133 #[v,.pointer p,.pointer q] V fun r V'=>∃p',r=.pointer p'/\RT V' p' (.node l x y):=by
 have hl0:=hl
 obtain ⟨x1,x2,x3,y1,y2,y3,z1,z2,z3,rfl,-⟩:=hl
 exact Ds _ _ _ _ _ _ _ _ _ p q V _ fun V1 l1 b hb=>⟨_,rfl,b,_,_,_,_,_,_,_,_,_,_,_,_,rfl,hb,hl0.le l1,hx.le l1,hy.le l1⟩
def HO (V:View)(v:Value)(l:L3):Prop:=RL V v l.1 l.2.1 l.2.2\/j9 l=false/\∃b1 p n c xs b2 q m e ys b3 s i j zs,v=.agg #[.bool b1,.slice p n c,.bool b2,.slice q m e,.bool b3,.slice s i j]/\RD V p n c xs/\RD V q m e ys/\RD V s i j zs /\
 u_ b1 xs b2 ys b3 zs=false/\(xs.length<=1000000/\ys.length<=1000000/\zs.length<=1000000)/\Sz 1000000 (aY b1 xs:Rat)/\Sz 1000000 (aY b2 ys:Rat)/\Sz 1000000 (aY b3 zs:Rat)
theorem HO.le {V V':View}{v:Value}{l:L3}(h:HO V v l)(e:V.Le V'):HO V' v l:=by
 rcases h with h|⟨ho,b1,p,n,c,xs,b2,q,m,e',ys,b3,s,i,j,zs,hv,h1,h2,h3,h4⟩
 ·exact .inl (h.le e)
 ·exact .inr ⟨ho,b1,p,n,c,xs,b2,q,m,e',ys,b3,s,i,j,zs,hv,h1.le e,h2.le e,h3.le e,h4⟩
theorem HO.ok {V:View}{v:Value}{l:L3}(h:HO V v l)(ho:j9 l=true):RL V v l.1 l.2.1 l.2.2:=by
 rcases h with h|⟨h,-⟩
 ·exact h
 ·rw [ho] at h;cases h
theorem yS {V:View}{v:Value}{x:L3}(h:HO V v x)(hb:Bd x) :
  ab prog 132 #[v] V fun r V'=>∃w,r=.tuple #[w,.bool (j9 x)]/\HN w/\(j9 x=true->Cn V' w x.1 x.2.1 x.2.2):=by
 rcases h with h|⟨ho,b1,p,n,c,xs,b2,q,m,e',ys,b3,s,i,j,zs,rfl,h1,h2,h3,h4,⟨m1,m2,m3⟩,s1,s2,s3⟩
 ·exact AG h hb
 ·refine (uc b1 b2 b3 h1 h2 h3 (by omega) (by omega) (by omega) s1 s2 s3 (by omega)).mono ?_
  rintro r V2 l2 ⟨w,rfl,g1,g2⟩
  rw [h4] at g2 ⊢
  rw [ho]
  exact ⟨w,rfl,g1,fun h=>by cases h⟩
def NR (V:View)(vs:List Value)(l:List Nd):Prop:=∀(i:Nat)(d:Nd),l[i]?=some d->∃(b1:Bool)(p1:OA)(n1 c1:Nat)(b2:Bool)(p2:OA)(n2 c2:Nat)(b3:Bool)(p3:OA)(n3 c3:Nat),
 (∀j v,([.bool b1,.slice p1 n1 c1,.bool b2,.slice p2 n2 c2,.bool b3,.slice p3 n3 c3,.int .i64 d.left,.int .i64 d.right]:List Value)[j]?=some v->vs[i*8+j]?=some v) /\
 HO V (.agg #[.bool b1,.slice p1 n1 c1,.bool b2,.slice p2 n2 c2,.bool b3,.slice p3 n3 c3]) d.ln
theorem NR.le {V V':View}{vs:List Value}{l:List Nd}(h:NR V vs l)(hl:V.Le V'):NR V' vs l:=fun i d hd=>by
 obtain ⟨b1,p1,n1,c1,b2,p2,n2,c2,b3,p3,n3,c3,h1,h2⟩:=h i d hd
 exact ⟨b1,p1,n1,c1,b2,p2,n2,c2,b3,p3,n3,c3,h1,h2.le hl⟩
structure NS (V:View) (p:OA) (n c:Nat) (l:List Nd):Prop where
 len:n=l.length
 cap:n<=c
 row:∃vs,V.sl p vs/\NR V vs l
 Br:p.isNone=true->c=0
theorem NS.le {V V':View}{p:OA}{n c:Nat}{l:List Nd}(h:NS V p n c l)(hl:V.Le V'):NS V' p n c l:=by
 obtain ⟨h1,h2,⟨vs,h3,h4⟩,h5⟩:=h
 exact ⟨h1,h2,⟨vs,hl.sl h3,h4.le hl⟩,h5⟩
theorem NS.nil {V:View}:NS V none 0 0 []:=⟨rfl,Nat.le_refl _,⟨[],fun i v h=>by simp at h,fun i d h=>by simp at h⟩,fun _=>rfl⟩
theorem NS.R4 {V:View}{p:OA}{n c:Nat}{l:List Nd}(h:NS V p n c l)(hn:n≠0):p.isSome=true:=by
 cases p with
 | none=>have:=h.Br rfl;have:=h.cap;omega
 | some a=>rfl
def mc (l:List Bool):List Value:=l.map .bool
theorem Ev {l:List Bool}{i:Nat}{b:Bool}(h:l[i]?=some b):(mc l)[i]?=some (.bool b):=by simp [mc,h]
end Go.Proofs.Tryz
