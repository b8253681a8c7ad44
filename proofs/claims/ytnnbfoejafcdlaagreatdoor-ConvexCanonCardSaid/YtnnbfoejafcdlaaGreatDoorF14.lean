import Derived.Test.YtnnbfoejafcdlaaGreatDoorF13
import Derived.Test.YtnnbfoejafcdlaaGreatDoorF7
import Derived.Test.YtnnbfoejafcdlaaGreatDoorF9
import Derived.Test.YtnnbfoejafcdlaaGreatDoorF12
import Derived.Test.YtnnbfoejafcdlaaGreatDoorF5
set_option linter.unusedVariables false
open Go.IntKind (i64 u64 u32)
namespace Go.Proofs.Tryz
open Go.bJ Go.fo
theorem jV.ag {k:Nat}{l:L3}(h:jV k l)(hk:k<=1099511627776):(ag l.1.natAbs).length<=1099511627776/\(ag l.2.1.natAbs).length<=1099511627776/\(ag l.2.2.natAbs).length<=1099511627776:=by
 have d1:=af (show l.1.natAbs<2^k from h.1.1)
 have d2:=af (show l.2.1.natAbs<2^k from h.2.1.1)
 have d3:=af (show l.2.2.natAbs<2^k from h.2.2.1)
 exact ⟨by omega,by omega,by omega⟩
def RG (V:View)(ad:Addr)(l:L3)(s:Sp):Prop:=∃xs:List Value,OX V (.agg xs.toArray) l s/\∀i x,xs[i]?=some x->V.at (ad.add i) x
theorem RG.le {V V':View}{ad:Addr}{l:L3}{s:Sp}(h:RG V ad l s)(e:V.Le V'):RG V' ad l s:=by
 obtain ⟨xs,h1,h2⟩:=h;exact ⟨xs,h1.le e,fun i x hx=>e.at (h2 i x hx)⟩
structure Na (V:View) (p:OA) (n:Nat) (fs:List (L3×Sp)):Prop where
 len:n=fs.length
 at_:∀(i:Nat)(h:i<fs.length),∃ad,ah p (i*14)=some ad/\RG V ad fs[i].1 fs[i].2
theorem Na.le {V V':View}{p:OA}{n:Nat}{fs:List (L3×Sp)}(h:Na V p n fs)(e:V.Le V'):Na V' p n fs:=⟨h.len,fun i hi=>by obtain ⟨ad,h1,h2⟩:=h.at_ i hi;exact ⟨ad,h1,h2.le e⟩⟩
theorem jw {p:OA}{j:Nat}{ad:Addr}(h:ah p j=some ad):p.isSome=true:=by
 cases p with
 | none=>cases h
 | some a=>rfl
def RU (V:View)(ad:Addr)(s:Sp):Prop:=∃xs:List Value,FF V (.agg xs.toArray) s/\∀i x,xs[i]?=some x->V.at (ad.add i) x
theorem RU.le {V V':View}{ad:Addr}{s:Sp}(h:RU V ad s)(e:V.Le V'):RU V' ad s:=by
 obtain ⟨xs,h1,h2⟩:=h;exact ⟨xs,h1.le e,fun i x hx=>e.at (h2 i x hx)⟩
structure SD (V:View) (p:OA) (n:Nat) (ss:List Sp):Prop where
 len:n=ss.length
 at_:∀(i:Nat)(h:i<ss.length),∃ad,ah p (i*8)=some ad/\RU V ad ss[i]
theorem SD.le {V V':View}{p:OA}{n:Nat}{ss:List Sp}(h:SD V p n ss)(e:V.Le V'):SD V' p n ss:=⟨h.len,fun i hi=>by obtain ⟨ad,h1,h2⟩:=h.at_ i hi;exact ⟨ad,h1,h2.le e⟩⟩
def Sp.la (s:Sp)(t:Rat):Int:=if s.a then 1 else eU t s.lo
def Sp.lb (s:Sp)(t:Rat):Int:=if s.b then -1 else eU t s.hi
theorem Kd {px py qx qy:Rat}:((mG px py qx qy).1.num / (gP (mG px py qx qy).1.num (mG px py qx qy).2.1.num (mG px py qx qy).2.2.num:Int),(mG px py qx qy).2.1.num / (gP (mG px py qx qy).1.num (mG px py qx qy).2.1.num (mG px py qx qy).2.2.num:Int),(mG px py qx qy).2.2.num / (gP (mG px py qx qy).1.num (mG px py qx qy).2.1.num (mG px py qx qy).2.2.num:Int))=E_ px py qx qy:=by
 unfold mG E_ QE AG
 have e:∀x:Rat,(-x).den=x.den:=fun x=>rfl
 rw [e (-(qy-py)*px+(qx-px)*py)]
 rfl
theorem Ke {px py qx qy:Rat}:((mG px py qx qy).1.num=0/\(mG px py qx qy).2.1.num=0)↔(px=qx/\py=qy):=by
 unfold mG
 dsimp only
 generalize hf:(-(qy-py)).den*(qx-px).den*(-(-(qy-py)*px+(qx-px)*py)).den=f
 have hf0:f≠0:=by rw [←hf];exact Nat.mul_ne_zero (Nat.mul_ne_zero (Rat.den_nz _) (Rat.den_nz _)) (Rat.den_nz _)
 have hf1:((f:Int):Rat)≠0:=by exact_mod_cast hf0
 rw [Rat.num_eq_zero,Rat.num_eq_zero,Rat.mul_eq_zero,Rat.mul_eq_zero,or_iff_left hf1,or_iff_left hf1]
 exact L9.symm
theorem HA {V:View}{u w:Value}{px py qx qy:Rat}(hp:RP V u px py)(hq:RP V w qx qy){k:Nat}(s1:Sz k px)(s2:Sz k py)(s3:Sz k qx)(s4:Sz k qy)(hk1:1<=k)(hk:64*k+64<274877906944) :
  ab prog 11 #[u,w] V fun r V'=>(px=qx/\py=qy->∃l,r=.tuple #[l,.bool false]/\RL V' l 0 0 0)/\(¬(px=qx/\py=qy)->∃l,r=.tuple #[l,.bool true]/\RL V' l (E_ px py qx qy).1 (E_ px py qx qy).2.1 (E_ px py qx qy).2.2):=by
 refine (lG hp hq s1 s2 s3 s4 hk1 hk).mono ?_
 rintro r V2 l2 ⟨m1,m2⟩
 have e:=Kd (px:=px) (py:=py) (qx:=qx) (qy:=qy)
 rw [Ke] at m1 m2
 refine ⟨m1,fun h=>?_⟩
 obtain ⟨l,hl,g⟩:=m2 h
 rw [←e]
 exact ⟨l,hl,g⟩
theorem X4.ex {V:View}{v:Value}{l:L3}{s:Sp}(h:Nb V v l s):∃(x1 x2:Int)(p:OA)(y1 y2:Int)(q:OA)(z1 z2:Int)(r:OA)(u1 u2:Int)(t:OA)(w1 w2:Int)(o:OA),
 v=.agg #[.int .i64 x1,.int .i64 x2,.pointer p,.int .i64 y1,.int .i64 y2,.pointer q,.int .i64 z1,.int .i64 z2,.pointer r,.int .i64 u1,.int .i64 u2,.pointer t,.int .i64 w1,.int .i64 w2,.pointer o,.bool s.a,.bool s.b]:=by
 obtain ⟨_,_,_,_,_,_,_,_,_,_,_,_,_,_,_,e,-⟩:=h;exact ⟨_,_,_,_,_,_,_,_,_,_,_,_,_,_,_,e⟩
theorem Eb {V:View}{v w:Value}{x y:Rat}(hx:RR V v x)(hy:RR V w y){k:Nat}(sx:Sz k x)(sy:Sz k y)(hk:2*k<1099511627776) :
  ab prog 222 #[v,w] V fun r V'=>RR V' r (CJ x y):=by
 have hx0:=hx
 have hy0:=hy
 obtain ⟨a,b,c,rfl⟩:=hx.shape
 obtain ⟨d,e,f,rfl⟩:=hy.shape
 refine Dw a b c d e f V _ fun V1 l1=>(kD (hy0.le l1) (hx0.le l1) sy sx (by omega)).mono ?_
 rintro r V2 l2 rfl
 unfold CJ
 exact ⟨_,rfl,fun h V3 l3=>by rw [if_pos (of_decide_eq_true h)];exact hy0.le (l1.trans (l2.trans l3)),fun h V4 l4=>by rw [if_neg (of_decide_eq_false h)];exact hx0.le (l1.trans (l2.trans l4))⟩
theorem Ec {V:View}{v w:Value}{x y:Rat}(hx:RR V v x)(hy:RR V w y){k:Nat}(sx:Sz k x)(sy:Sz k y)(hk:2*k<1099511627776) :
  ab prog 145 #[v,w] V fun r V'=>RR V' r (CN x y):=by
 have hx0:=hx
 have hy0:=hy
 obtain ⟨a,b,c,rfl⟩:=hx.shape
 obtain ⟨d,e,f,rfl⟩:=hy.shape
 refine Dx a b c d e f V _ fun V1 l1=>(kD (hy0.le l1) (hx0.le l1) sy sx (by omega)).mono ?_
 rintro r V2 l2 rfl
 unfold CN
 exact ⟨_,rfl,fun h V3 l3=>by rw [if_pos (of_decide_eq_true h)];exact hy0.le (l1.trans (l2.trans l3)),fun h V4 l4=>by rw [if_neg (of_decide_eq_false h)];exact hx0.le (l1.trans (l2.trans l4))⟩
theorem Sp.AJ {v w:Sp}{k:Nat}(h1:v.sz k)(h2:w.sz k):(v.meet w).sz k:=by
 unfold Sp.meet Sp.sz CJ CN
 constructor<;>dsimp only
 ·split
  ·exact h2.1
  ·split
   ·exact h1.1
   ·split
    ·exact h2.1
    ·exact h1.1
 ·split
  ·exact h2.2
  ·split
   ·exact h1.2
   ·split
    ·exact h2.2
    ·exact h1.2
theorem yU {V:View}{v w:Value}{s t:Sp}(h:FE V v s)(h':FE V w t){k:Nat}(hs:s.sz k)(ht:t.sz k)(hk:2*k<1099511627776) :
  ab prog 195 #[v,w] V fun r V'=>∃u,r=.tuple #[u,.bool (!(s.meet t).emp)]/\FE V' u (s.meet t):=by
 obtain ⟨x1,x2,p,y1,y2,q,rfl,h1,h2⟩:=h
 obtain ⟨u1,u2,o,w1,w2,j,rfl,g1,g2⟩:=h'
 have UB:s.a=true->(s.meet t).lo=t.lo/\(s.meet t).a=t.a:=fun e=>by simp [Sp.meet,e]
 have lo2:s.a=false->t.a=false->(s.meet t).lo=CJ s.lo t.lo:=fun e e'=>by simp [Sp.meet,e,e']
 have lo3:s.a=false->t.a=true->(s.meet t).lo=s.lo:=fun e e'=>by simp [Sp.meet,e,e']
 have XD:s.a=false->(s.meet t).a=s.a:=fun e=>by simp [Sp.meet,e]
 have hi1:s.b=true->(s.meet t).hi=t.hi/\(s.meet t).b=t.b:=fun e=>by simp [Sp.meet,e]
 have hi2:s.b=false->t.b=false->(s.meet t).hi=CN s.hi t.hi:=fun e e'=>by simp [Sp.meet,e,e']
 have hi3:s.b=false->t.b=true->(s.meet t).hi=s.hi:=fun e e'=>by simp [Sp.meet,e,e']
 have hi4:s.b=false->(s.meet t).b=s.b:=fun e=>by simp [Sp.meet,e]
 refine wm x1 x2 p y1 y2 q s.a s.b u1 u2 o w1 w2 j t.a t.b V _ ⟨fun z V1=>RR V1 (.agg #[.int .i64 z.1,.int .i64 z.2.1,.pointer z.2.2.1]) (s.meet t).lo/\RR V1 (.agg #[.int .i64 z.2.2.2.1,.int .i64 z.2.2.2.2.1,.pointer z.2.2.2.2.2.1]) s.hi/\z.2.2.2.2.2.2.1=(s.meet t).a/\z.2.2.2.2.2.2.2=s.b,⟨fun ha=>?_,fun ha=>⟨fun hb V1 l1=>(Eb (h1.le l1) (g1.le l1) hs.1 ht.1 hk).mono ?_,fun hb=>?_⟩⟩,?_⟩
 ·refine ⟨(u1,u2,o,y1,y2,q,t.a,s.b),by and_intros<;>rfl,?_,h2,(UB ha).2.symm,rfl⟩
  rw [(UB ha).1];exact g1
 ·rintro r V2 l2 g
  rw [Bool.not_eq_true'] at hb
  have g0:=g
  obtain ⟨a1,a2,a3,rfl⟩:=g.shape
  refine ⟨_,_,_,rfl,(a1,a2,a3,y1,y2,q,s.a,s.b),by and_intros<;>rfl,?_,h2.le (l1.trans l2),(XD ha).symm,rfl⟩
  rw [lo2 ha hb];exact g0
 ·rw [Bool.not_eq_false'] at hb
  refine ⟨(x1,x2,p,y1,y2,q,s.a,s.b),by and_intros<;>rfl,?_,h2,(XD ha).symm,rfl⟩
  rw [lo3 ha hb];exact h1
 ·rintro ⟨z1,z2,z3,z4,z5,z6,z7,z8⟩ V3 l3 ⟨k1,k2,k3,k4⟩
  dsimp only at k1 k2 k3 k4
  subst k3 k4
  refine ⟨rfl,fun z V1=>RR V1 (.agg #[.int .i64 z.1,.int .i64 z.2.1,.pointer z.2.2.1]) (s.meet t).lo/\RR V1 (.agg #[.int .i64 z.2.2.2.1,.int .i64 z.2.2.2.2.1,.pointer z.2.2.2.2.2.1]) (s.meet t).hi/\z.2.2.2.2.2.2.1=(s.meet t).a/\z.2.2.2.2.2.2.2=(s.meet t).b,⟨fun ha=>?_,fun ha=>⟨fun hb V4 l4=>(Ec (h2.le (l3.trans l4)) (g2.le (l3.trans l4)) hs.2 ht.2 hk).mono ?_,fun hb=>?_⟩⟩,?_⟩
  ·refine ⟨(z1,z2,z3,w1,w2,j,(s.meet t).a,t.b),by and_intros<;>rfl,k1,?_,rfl,(hi1 ha).2.symm⟩
   rw [(hi1 ha).1];exact g2.le l3
  ·rintro r V5 l5 g
   rw [Bool.not_eq_true'] at hb
   have g0:=g
   obtain ⟨a1,a2,a3,rfl⟩:=g.shape
   refine ⟨_,_,_,rfl,(z1,z2,z3,a1,a2,a3,(s.meet t).a,s.b),by and_intros<;>rfl,k1.le (l4.trans l5),?_,rfl,(hi4 ha).symm⟩
   rw [hi2 ha hb];exact g0
  ·rw [Bool.not_eq_false'] at hb
   refine ⟨(z1,z2,z3,z4,z5,z6,(s.meet t).a,s.b),by and_intros<;>rfl,k1,?_,rfl,(hi4 ha).symm⟩
   rw [hi3 ha hb];exact k2
  ·rintro ⟨y1,y2,y3,y4,y5,y6,y7,y8⟩ V6 l6 ⟨j1,j2,j3,j4⟩
   dsimp only at j1 j2 j3 j4
   subst j3 j4
   refine ⟨rfl,fun V7 l7=>(Ea ⟨_,_,_,_,_,_,rfl,j1.le l7,j2.le l7⟩ (Sp.AJ hs ht) hk).mono ?_⟩
   rintro r V8 l8 rfl
   exact ⟨_,rfl,fun V9 l9=>⟨_,rfl,_,_,_,_,_,_,rfl,j1.le (l7.trans (l8.trans l9)),j2.le (l7.trans (l8.trans l9))⟩⟩
theorem nk {L M:L3}{k:Nat}(sl:jV k L)(sm:jV k M):Sz (4*k+3) (dY M L):=dq sm.1 sm.2.1 sl.2.1 sl.1.neg
theorem H_ {L M:L3}:(((M.1:Rat)*((L.1:Rat)*(((-(L.2.2:Rat))*(((L.1:Rat)*(L.1:Rat))+((L.2.1:Rat)*(L.2.1:Rat)))⁻¹))))+((M.2.1:Rat)*((L.2.1:Rat)*(((-(L.2.2:Rat))*(((L.1:Rat)*(L.1:Rat))+((L.2.1:Rat)*(L.2.1:Rat)))⁻¹)))))+(M.2.2:Rat)=jY M L:=by
 unfold jY ax i_ je fT;grind
theorem nj {L M:L3}{k:Nat}(sl:jV k L)(sm:jV k M):Sz (50*k+49) (jY M L):=by
 rw [←H_]
 exact Sz.mono (kz (k:=10*k+9) (sm.1.mono (by omega)) (sm.2.1.mono (by omega)) (sm.2.2.mono (by omega)) (dK sl.1 sl.2.1 sl.2.2) (dL sl.1 sl.2.1 sl.2.2)) (by omega)
theorem tW {L M:L3}{k:Nat}(sl:jV k L)(sm:jV k M):Sz (60*k+60) (dX M L):=Sz.mono ((nj sl sm).mul (eu (nk sl sm))).neg (by omega)
theorem L1 (k:Nat)(hk:0<k):Sz k (0:Rat):=⟨by show (0:Int).natAbs<_;exact Nat.lt_of_lt_of_le (by decide) (Nat.one_le_two_pow),Nat.one_lt_two_pow (by omega)⟩
theorem BZ {V:View}{l v m:Value}{L:L3}{s:Sp}{M:L3}(hl:tY V l L)(hv:FE V v s)(hm:tY V m M){k:Nat}(sl:jV k L)(hs:s.sz k)(sm:jV k M)(hk:200*k+200<274877906944) :
  ab prog 160 #[l,v,m] V fun r V'=>∃w,r=.tuple #[w,.bool (dR L s M)]/\FE V' w (du L s M):=by
 have hl0:=hl
 have hv0:=hv
 have hm0:=hm
 obtain ⟨_,_,_,_,_,_,_,_,_,rfl,-,-,-⟩:=hl
 obtain ⟨_,_,_,_,_,_,rfl,-,-⟩:=hv
 obtain ⟨_,_,_,_,_,_,_,_,_,rfl,-,-,-⟩:=hm
 have hs':s.sz (60*k+60):=⟨hs.1.mono (by omega),hs.2.mono (by omega)⟩
 have z:=L1 (60*k+60) (by omega)
 refine xW _ _ _ _ _ _ _ _ _ _ _ _ _ _ _ _ _ _ _ _ _ _ _ _ _ _ V _ fun V1 l1=>(dH (hm0.le l1) sm.1 sm.2.1 sm.2.2 (by omega)).mono ?_
 rintro r V2 l2 g1
 have g10:=g1
 obtain ⟨_,_,_,_,_,_,rfl,-,-⟩:=g1
 refine ⟨_,_,_,_,_,_,rfl,fun V3 l3=>(kG (hl0.le (l1.trans (l2.trans l3))) sl.1 sl.2.1 sl.2.2 (by omega)).mono ?_⟩
 rintro r V4 l4 g2
 have g20:=g2
 obtain ⟨_,_,_,_,_,_,rfl,-,-⟩:=g2
 refine ⟨_,_,_,_,_,_,rfl,fun V5 l5=>(kH (g10.le (l3.trans (l4.trans l5))) (g20.le l5) sm.1 sm.2.1 sl.2.1 sl.1.neg (by omega)).mono ?_⟩
 rintro r V6 l6 g3
 have kW:RR V6 r (dY M L):=g3
 obtain ⟨_,_,_,rfl⟩:=g3.shape
 have L6:V.Le V6:=l1.trans (l2.trans (l3.trans (l4.trans (l5.trans l6))))
 refine ⟨_,_,_,rfl,fun V7 l7=>(nJ (hl0.le (L6.trans l7)) sl.1 sl.2.1 sl.2.2 (by omega)).mono ?_⟩
 rintro r V8 l8 g4
 have Ex:=g4
 obtain ⟨_,_,_,_,_,_,rfl,-,-⟩:=g4
 refine ⟨_,_,_,_,_,_,rfl,fun V9 l9=>(lZ (k:=10*k+9) (hm0.le (L6.trans (l7.trans (l8.trans l9)))) (Ex.le l9) (sm.1.mono (by omega)) (sm.2.1.mono (by omega)) (sm.2.2.mono (by omega)) (dK sl.1 sl.2.1 sl.2.2) (dL sl.1 sl.2.1 sl.2.2) (by omega)).mono ?_⟩
 rintro r jh l10 g5
 rw [H_] at g5
 have IC:=g5
 obtain ⟨_,_,_,rfl⟩:=g5.shape
 have yH:V6.Le jh:=l7.trans (l8.trans (l9.trans l10))
 refine ⟨_,_,_,rfl,fun jd bG=>(eT (kW.le (yH.trans bG)) (nk sl sm) (by omega)).mono ?_⟩
 rintro r nF cN rfl
 have HZ:jh.Le nF:=bG.trans cN
 refine ⟨_,rfl,fun hz rH dg=>(eT (IC.le (HZ.trans dg)) (nj sl sm) (by omega)).mono ?_,fun hz=>⟨fun h1 lR dv=>(pj (IC.le (HZ.trans dv)) (kW.le (yH.trans (HZ.trans dv))) (nj sl sm) (nk sl sm) (by omega)).mono ?_,fun h1 zY gU=>(pj (IC.le (HZ.trans gU)) (kW.le (yH.trans (HZ.trans gU))) (nj sl sm) (nk sl sm) (by omega)).mono ?_⟩⟩
 ·rintro r nG dE rfl
  have eB:dR L s M=decide ((jY M L).num.sign>0):=by unfold dR;rw [if_pos hz]
  have eS:du L s M=s:=by unfold du;rw [if_pos hz]
  rw [eB,eS]
  exact ⟨_,rfl,fun lU dO=>⟨_,rfl,hv0.le (L6.trans (yH.trans (HZ.trans (dg.trans (dE.trans dO)))))⟩⟩
 ·have eS:du L s M=s.meet ⟨dX M L,0,false,true⟩:=by unfold du;rw [if_neg (by rw [hz];exact Bool.false_ne_true),if_pos h1]
  have eB:dR L s M=!(s.meet ⟨dX M L,0,false,true⟩).emp:=by rw [←eS];unfold dR;rw [if_neg (by rw [hz];exact Bool.false_ne_true)]
  rw [eB,eS]
  rintro r nH c_ g6
  have NC:=g6
  obtain ⟨_,_,_,rfl⟩:=g6.shape
  refine ⟨_,_,_,rfl,fun qm dM=>(ph (NC.le dM) ((nj sl sm).mul (eu (nk sl sm))) (by omega)).mono ?_⟩
  rintro r rI dF g7
  have ID:RR rI r (dX M L):=g7
  obtain ⟨_,_,_,rfl⟩:=g7.shape
  refine ⟨_,_,_,rfl,fun zW gI=>(yU (t:=⟨dX M L,0,false,true⟩) (hv0.le (L6.trans (yH.trans (HZ.trans (dv.trans (c_.trans (dM.trans (dF.trans gI)))))))) ⟨_,_,_,_,_,_,rfl,ID.le gI,RR.zero _⟩ hs' ⟨tW sl sm,z⟩ (by omega)).mono ?_⟩
  rintro r w_ fS ⟨w,rfl,g8⟩
  have PJ:=g8
  obtain ⟨_,_,_,_,_,_,rfl,-,-⟩:=g8
  exact ⟨_,_,_,_,_,_,_,_,_,rfl,fun t_ jc=>⟨_,rfl,PJ.le jc⟩⟩
 ·have eS:du L s M=s.meet ⟨0,dX M L,true,false⟩:=by unfold du;rw [if_neg (by rw [hz];exact Bool.false_ne_true),if_neg (by rw [h1];exact Bool.false_ne_true)]
  have eB:dR L s M=!(s.meet ⟨0,dX M L,true,false⟩).emp:=by rw [←eS];unfold dR;rw [if_neg (by rw [hz];exact Bool.false_ne_true)]
  rw [eB,eS]
  rintro r nH c_ g6
  have NC:=g6
  obtain ⟨_,_,_,rfl⟩:=g6.shape
  refine ⟨_,_,_,rfl,fun qm dM=>(ph (NC.le dM) ((nj sl sm).mul (eu (nk sl sm))) (by omega)).mono ?_⟩
  rintro r rI dF g7
  have ID:RR rI r (dX M L):=g7
  obtain ⟨_,_,_,rfl⟩:=g7.shape
  refine ⟨_,_,_,rfl,fun zW gI=>(yU (t:=⟨0,dX M L,true,false⟩) (hv0.le (L6.trans (yH.trans (HZ.trans (gU.trans (c_.trans (dM.trans (dF.trans gI)))))))) ⟨_,_,_,_,_,_,rfl,RR.zero _,ID.le gI⟩ hs' ⟨z,tW sl sm⟩ (by omega)).mono ?_⟩
  rintro r w_ fS ⟨w,rfl,g8⟩
  have PJ:=g8
  obtain ⟨_,_,_,_,_,_,rfl,-,-⟩:=g8
  exact ⟨_,_,_,_,_,_,_,_,_,rfl,fun t_ jc=>⟨_,rfl,PJ.le jc⟩⟩
structure D3 (V:View) (p:OA) (n:Nat) (fs:List (L3×Sp)):Prop where
 len:n=fs.length
 at_:∀(i:Nat)(h:i<fs.length),∃ad,ah p (i*17)=some ad/\∃xs:List Value,Nb V (.agg xs.toArray) fs[i].1 fs[i].2/\∀j x,xs[j]?=some x->V.at (ad.add j) x
theorem D3.le {V V':View}{p:OA}{n:Nat}{fs:List (L3×Sp)}(h:D3 V p n fs)(e:V.Le V'):D3 V' p n fs:=⟨h.len,fun i hi=>by obtain ⟨ad,h1,xs,h2,h3⟩:=h.at_ i hi;exact ⟨ad,h1,xs,h2.le e,fun j x hx=>e.at (h3 j x hx)⟩⟩
theorem D3.nil {V:View}:D3 V none 0 []:=⟨rfl,fun i hi=>by simp at hi⟩
theorem D3.one {V:View}{bk:Nat}{xs:List Value}{ty:TypeId}{l:L3}{s:Sp}(hb:V.bD bk (.cells xs.toArray ty (0,0)))(hf:Nb V (.agg xs.toArray) l s):D3 V (some ⟨bk,0,none⟩) 1 [(l,s)]:=by
 refine ⟨rfl,fun i hi=>?_⟩
 obtain rfl:i=0:=by simpa using hi
 refine ⟨⟨bk,0,none⟩,by simp [ah,add_zero'],_,hf,fun j x hx=>?_⟩
 rw [add_zero']
 exact fH hb hx
theorem KS {L M:L3}:((L.1:Rat)=(M.1:Rat)/\(L.2.1:Rat)=(M.2.1:Rat)/\(L.2.2:Rat)=(M.2.2:Rat))↔L=M:=by
 constructor
 ·rintro ⟨h1,h2,h3⟩
  exact Prod.ext (Rat.intCast_inj.1 h1) (Prod.ext (Rat.intCast_inj.1 h2) (Rat.intCast_inj.1 h3))
 ·rintro rfl
  exact ⟨rfl,rfl,rfl⟩
theorem Lf {V:View}{v w:Value}{L M:L3}(hl:tY V v L)(hm:tY V w M){k:Nat}(sl:jV k L)(sm:jV k M)(hk:k+k<1099511627776) :
  ab prog 134 #[v,w] V fun r V'=>r=.bool (decide (L=M)):=by
 refine (B5 hl hm sl.1 sl.2.1 sl.2.2 sm.1 sm.2.1 sm.2.2 hk).mono ?_
 rintro r V' l rfl
 rw [decide_eq_decide.2 KS]
def SC (u:Value):Prop:=∃(x1 x2:Int)(p:OA)(y1 y2:Int)(q:OA),u=.agg #[.int .i64 x1,.int .i64 x2,.pointer p,.int .i64 y1,.int .i64 y2,.pointer q]
theorem pZ {L M:L3}{k:Nat}(sl:jV k L)(sm:jV k M):Sz (4*k+3) (aU L M):=kB sl.1 sl.2.1 sm.1 sm.2.1
theorem Rj {L M:L3}{k:Nat}(sl:jV k L)(sm:jV k M):Sz (10*k+10) (Gb L M)/\Sz (10*k+10) (Gc L M):=
 ⟨Sz.mono (((sl.2.1.mul sm.2.2).sub (sl.2.2.mul sm.2.1)).mul (eu (pZ sl sm))) (by omega),Sz.mono (((sl.2.2.mul sm.1).sub (sl.1.mul sm.2.2)).mul (eu (pZ sl sm))) (by omega)⟩
theorem GU {V:View}{l m:Value}{L M:L3}(hl:tY V l L)(hm:tY V m M){k:Nat}(sl:jV k L)(sm:jV k M)(hk:20*k+20<274877906944) :
  ab prog 138 #[l,m] V fun r V'=>∃w,r=.tuple #[w,.bool (decide (aU L M≠0))]/\SC w/\(aU L M≠0->oX V' w (Gb L M) (Gc L M)):=by
 have hl0:=hl
 have hm0:=hm
 obtain ⟨_,_,_,_,_,_,_,_,_,rfl,a1,a2,a3⟩:=hl
 obtain ⟨_,_,_,_,_,_,_,_,_,rfl,b1,b2,b3⟩:=hm
 have sd:=pZ sl sm
 refine wv _ _ _ _ _ _ _ _ _ _ _ _ _ _ _ _ _ _ V _ fun V1 l1=>(dH (hl0.le l1) sl.1 sl.2.1 sl.2.2 (by omega)).mono ?_
 rintro r V2 l2 g1
 have g10:=g1
 obtain ⟨_,_,_,_,_,_,rfl,-,-⟩:=g1
 refine ⟨_,_,_,_,_,_,rfl,fun V3 l3=>(dH (hm0.le (l1.trans (l2.trans l3))) sm.1 sm.2.1 sm.2.2 (by omega)).mono ?_⟩
 rintro r V4 l4 g2
 have g20:=g2
 obtain ⟨_,_,_,_,_,_,rfl,-,-⟩:=g2
 refine ⟨_,_,_,_,_,_,rfl,fun V5 l5=>(fJ (g10.le (l3.trans (l4.trans l5))) (g20.le l5) sl.1 sl.2.1 sm.1 sm.2.1 (by omega)).mono ?_⟩
 rintro r V6 l6 g3
 have kW:RR V6 r (aU L M):=g3
 obtain ⟨_,_,_,rfl⟩:=g3.shape
 have L6:V.Le V6:=l1.trans (l2.trans (l3.trans (l4.trans (l5.trans l6))))
 refine ⟨_,_,_,rfl,fun V7 l7=>(uu (kW.le l7)).mono ?_⟩
 rintro r V8 l8 rfl
 have L8:=l7.trans l8
 refine ⟨_,rfl,fun h V9 l9=>?_,fun h jh l10=>(fa (a2.le (L6.trans (L8.trans l10))) (b3.le (L6.trans (L8.trans l10))) sl.2.1 sm.2.2 (by omega)).mono ?_⟩
 ·have h:=of_decide_eq_true h
  have e:decide (aU L M≠0)=false:=by simp [h]
  rw [e]
  exact ⟨_,rfl,⟨_,_,_,_,_,_,rfl⟩,fun h'=>absurd h h'⟩
 ·have h:=of_decide_eq_false h
  have e:decide (aU L M≠0)=true:=by simp [h]
  rw [e]
  have SA:=L6.trans (L8.trans l10)
  rintro r jd bG q1
  have Lz:=q1
  obtain ⟨_,_,_,rfl⟩:=q1.shape
  refine ⟨_,_,_,rfl,fun nF cN=>(fa (a3.le (SA.trans (bG.trans cN))) (b2.le (SA.trans (bG.trans cN))) sl.2.2 sm.2.1 (by omega)).mono ?_⟩
  rintro r rH dg q2
  have q20:=q2
  obtain ⟨_,_,_,rfl⟩:=q2.shape
  refine ⟨_,_,_,rfl,fun nG dE=>(pk (Lz.le (cN.trans (dg.trans dE))) (q20.le dE) (sl.2.1.mul sm.2.2) (sl.2.2.mul sm.2.1) (by omega)).mono ?_⟩
  rintro r lU dO q3
  have q30:=q3
  obtain ⟨_,_,_,rfl⟩:=q3.shape
  have SB:jh.Le lU:=bG.trans (cN.trans (dg.trans (dE.trans dO)))
  refine ⟨_,_,_,rfl,fun lR dv=>(pj (q30.le dv) (kW.le (L8.trans (l10.trans (SB.trans dv)))) ((sl.2.1.mul sm.2.2).sub (sl.2.2.mul sm.2.1)) sd (by omega)).mono ?_⟩
  rintro r nH c_ q4
  have q40:RR nH r (Gb L M):=q4
  obtain ⟨_,_,_,rfl⟩:=q4.shape
  have RH:V.Le nH:=SA.trans (SB.trans (dv.trans c_))
  refine ⟨_,_,_,rfl,fun qm dM=>(fa (a3.le (RH.trans dM)) (b1.le (RH.trans dM)) sl.2.2 sm.1 (by omega)).mono ?_⟩
  rintro r rI dF p1
  have Gk:=p1
  obtain ⟨_,_,_,rfl⟩:=p1.shape
  refine ⟨_,_,_,rfl,fun zW gI=>(fa (a1.le (RH.trans (dM.trans (dF.trans gI)))) (b3.le (RH.trans (dM.trans (dF.trans gI)))) sl.1 sm.2.2 (by omega)).mono ?_⟩
  rintro r w_ fS p2
  have Z8:=p2
  obtain ⟨_,_,_,rfl⟩:=p2.shape
  refine ⟨_,_,_,rfl,fun t_ jc=>(pk (Gk.le (gI.trans (fS.trans jc))) (Z8.le jc) (sl.2.2.mul sm.1) (sl.1.mul sm.2.2) (by omega)).mono ?_⟩
  rintro r zY gU p3
  have p30:=p3
  obtain ⟨_,_,_,rfl⟩:=p3.shape
  have VI:nH.Le zY:=dM.trans (dF.trans (gI.trans (fS.trans (jc.trans gU))))
  refine ⟨_,_,_,rfl,fun H3 oY=>(pj (p30.le oY) (kW.le (L8.trans (l10.trans (SB.trans (dv.trans (c_.trans (VI.trans oY))))))) ((sl.2.2.mul sm.1).sub (sl.1.mul sm.2.2)) sd (by omega)).mono ?_⟩
  rintro r HT nB p4
  have p40:RR HT r (Gc L M):=p4
  obtain ⟨_,_,_,rfl⟩:=p4.shape
  exact ⟨_,_,_,rfl,fun Kr lS=>⟨_,rfl,⟨_,_,_,_,_,_,rfl⟩,fun _=>⟨_,_,_,_,_,_,rfl,q40.le (VI.trans (oY.trans (nB.trans lS))),p40.le lS⟩⟩⟩
theorem XK (V:View):RQ V (.agg #[.bool false,.slice none 0 0,.slice none 0 0]) 0:=by have:=RQ.zero (V:=V);simpa using this
theorem Ar {V:View}:ab prog 152 #[] V fun r V'=>FF V' r ⟨0,0,true,true⟩:=
 yy V _ fun V1 l1=>⟨_,_,_,_,_,_,_,_,_,_,_,_,_,_,rfl,XK _,XK _⟩
theorem Di {V:View}{v:Value}{s:Sp}(h:FF V v s):∃b p n c p' n' c' d q m e q' m' e',v=.agg #[.bool b,.slice p n c,.slice p' n' c',.bool d,.slice q m e,.slice q' m' e',.bool s.a,.bool s.b]:=by
 obtain ⟨_,_,_,_,_,_,_,_,_,_,_,_,_,_,e,-⟩:=h;exact ⟨_,_,_,_,_,_,_,_,_,_,_,_,_,_,e⟩
theorem zg {V:View}{p:OA}{n c:Nat}{ds:List Nat}(h:RD V p n c ds)(hm:ds.length<=1099511627776) :
  ab prog 105 #[.slice p n c] V fun r V'=>∃p1 n1 c1,r=.slice p1 n1 c1/\RN V' p1 n1 c1 (val ds):=by
 have hl:=h.len
 refine Fz p n c V _ ⟨aC ds,h.sl,by simp [hl],by omega,by omega,by simp,by simp [hl],?_,?_⟩
 ·intro v hv
  simp only [aC,List.mem_map] at hv
  obtain ⟨d,-,rfl⟩:=hv
  rfl
 ·intro bk J sp c' h1 h2 V1 l1 b hb
  simp only [Nat.zero_add,Nat.zero_mul,List.take_zero,List.nil_append] at hb h1 ⊢
  refine (cZ (copied h.eN hl h1 hb) (by omega)).mono ?_
  rintro r V2 l2 ⟨k,rfl,g⟩
  rw [aO h.eN] at g
  exact ⟨_,_,_,rfl,fun J' V3 l3=>⟨_,_,_,rfl,g.le l3⟩⟩
theorem G0 {V:View}(b:Bool){p:OA}{n c:Nat}{ds:List Nat}(h:RD V p n c ds)(hm:ds.length<=1099511627776) :
  ab prog 107 #[.agg #[.bool b,.slice p n c]] V fun r V'=>RI V' r (aX b ds):=by
 refine Fy b p n c V _ fun V1 l1=>(zg (h.le l1) hm).mono ?_
 rintro r V2 l2 ⟨p1,n1,c1,rfl,g⟩
 refine ⟨_,_,_,rfl,fun V3 l3=>(dW b (g.le l3)).mono ?_⟩
 rintro r V4 l4 ⟨p2,n2,c2,rfl,g2⟩
 exact ⟨_,_,_,_,rfl,fun V5 l5=>⟨_,_,_,rfl,g2.le l5⟩⟩
theorem IW {b:Bool}{ds:List Nat}(h:bV ds):(ag (aX b ds).natAbs).length<=ds.length:=by
 rw [d_];exact bg h
theorem G1 {V:View}{v:Value}{b:Bool}{xs ys:List Nat}(h:Kq V v b xs ys)(m1:xs.length<=274877906944)(m2:ys.length<=274877906944) :
  ab prog 43 #[v] V fun r V'=>RQ V' r (HC b xs ys):=by
 obtain ⟨p,n,c,q,m,e,rfl,hx,hy⟩:=h
 have d1:=IW (b:=b) hx.eN
 have d2:=bg hy.eN
 refine FA b p n c q m e V _ fun V1 l1=>(zg (hy.le l1) (by omega)).mono ?_
 rintro r V2 l2 ⟨p1,n1,c1,rfl,g⟩
 have gl:=g.len
 refine ⟨_,_,_,rfl,fun h0 V3 l3=>?_,fun h0 V4 l4=>(G0 b (hx.le (l1.trans (l2.trans l4))) (by omega)).mono ?_⟩
 ·have h0:((n1:Nat):Int)=0:=by simpa using h0
  have:ag (val ys)=[]:=List.length_eq_zero_iff.1 (by omega)
  have:val ys=0:=bu.1 this
  unfold HC
  rw [this,Rat.mkRat_zero]
  have:=RQ.zero (V:=V3)
  simpa using this
 ·have hd:val ys≠0:=fun e=>by
   rw [e] at gl
   have h0:¬((n1:Nat):Int)=0:=by simpa using h0
   exact h0 (by rw [gl];rfl)
  rintro r V5 l5 ⟨p2,n2,c2,rfl,g2⟩
  refine ⟨_,_,_,_,rfl,fun V6 l6=>(iH _ (g2.le l6) (g.le (l4.trans (l5.trans l6))) (by omega) (by omega) hd).mono ?_⟩
  rintro r V7 l7 k
  have k0:=k
  obtain ⟨_,_,_,_,_,_,rfl⟩:=k.shape
  exact ⟨_,_,_,_,_,_,_,rfl,fun V8 l8=>k0.le l8⟩
def RM (V:View)(v:Value)(b1:Bool)(xs:List Nat)(b2:Bool)(ys:List Nat)(b3:Bool)(zs:List Nat):Prop:=∃p n c q m e s i j,v=.agg #[.bool b1,.slice p n c,.bool b2,.slice q m e,.bool b3,.slice s i j]/\RD V p n c xs/\RD V q m e ys/\RD V s i j zs
theorem RM.le {V V':View}{v:Value}{b1:Bool}{xs:List Nat}{b2:Bool}{ys:List Nat}{b3:Bool}{zs:List Nat}(h:RM V v b1 xs b2 ys b3 zs)(l:V.Le V'):RM V' v b1 xs b2 ys b3 zs:=by
 obtain ⟨p,n,c,q,m,e,s,i,j,rfl,h1,h2,h3⟩:=h
 exact ⟨_,_,_,_,_,_,_,_,_,rfl,h1.le l,h2.le l,h3.le l⟩
def XC (b1:Bool)(xs:List Nat)(b2:Bool)(ys:List Nat)(b3:Bool)(zs:List Nat):L3:=(aX b1 xs,aX b2 ys,aX b3 zs)
structure FW where
 b1:Bool
 xs:List Nat
 b2:Bool
 ys:List Nat
 b3:Bool
 zs:List Nat
 c1:Bool
 us:List Nat
 vs:List Nat
 c2:Bool
 ws:List Nat
 ts:List Nat
 na:Bool
 nb:Bool
def FW.ln (f:FW):L3:=XC f.b1 f.xs f.b2 f.ys f.b3 f.zs
def FW.sp (f:FW):Sp:=Ri f.c1 f.us f.vs f.c2 f.ws f.ts f.na f.nb
def FW.ok (f:FW):Bool:=vD f.b1 f.xs f.b2 f.ys f.b3 f.zs&&okW f.c1 f.us f.vs f.c2 f.ws f.ts f.na f.nb
structure FW.short (f:FW):Prop where
 x:f.xs.length<=1000000
 y:f.ys.length<=1000000
 z:f.zs.length<=1000000
 u:f.us.length<=1000000
 v:f.vs.length<=1000000
 w:f.ws.length<=1000000
 t:f.ts.length<=1000000
def RK (V:View)(v:Value)(f:FW):Prop:=∃p1 n1 d1 p2 n2 d2 p3 n3 d3 p n c p' n' c' q m e q' m' e',
 v=.agg #[.bool f.b1,.slice p1 n1 d1,.bool f.b2,.slice p2 n2 d2,.bool f.b3,.slice p3 n3 d3,.bool f.c1,.slice p n c,.slice p' n' c',.bool f.c2,.slice q m e,.slice q' m' e',.bool f.na,.bool f.nb] /\
 RM V (.agg #[.bool f.b1,.slice p1 n1 d1,.bool f.b2,.slice p2 n2 d2,.bool f.b3,.slice p3 n3 d3]) f.b1 f.xs f.b2 f.ys f.b3 f.zs /\
 RT V (.agg #[.bool f.c1,.slice p n c,.slice p' n' c',.bool f.c2,.slice q m e,.slice q' m' e',.bool f.na,.bool f.nb]) f.c1 f.us f.vs f.c2 f.ws f.ts f.na f.nb
theorem RK.le {V V':View}{v:Value}{f:FW}(h:RK V v f)(l:V.Le V'):RK V' v f:=by
 obtain ⟨p1,n1,d1,p2,n2,d2,p3,n3,d3,p,n,c,p',n',c',q,m,e,q',m',e',rfl,h1,h2⟩:=h
 exact ⟨_,_,_,_,_,_,_,_,_,_,_,_,_,_,_,_,_,_,_,_,_,rfl,h1.le l,h2.le l⟩
theorem jH {V:View}(z w:Int){p q:OA}{n c m e:Nat}(ha:RD V p n c (ag z.natAbs))(hb:RD V q m e (ag w.natAbs))(hm:(ag z.natAbs).length<=1099511627776)(hn:(ag w.natAbs).length<=1099511627776) :
  ab prog 157 #[.agg #[.bool (decide (z<0)),.slice p n c],.agg #[.bool (decide (w<0)),.slice q m e]] V fun r V'=>r=.int .i64 (z-w).sign:=by
 refine wG _ p n c _ q m e V _ fun V1 l1=>(gK w (hb.le l1)).mono ?_
 rintro r V2 l2 ⟨p1,n1,c1,rfl,g1⟩
 refine ⟨_,_,_,_,rfl,fun V3 l3=>(qD z (-w) (ha.le (l1.trans (l2.trans l3))) (g1.le l3) hm (by rw [Int.natAbs_neg];exact hn)).mono ?_⟩
 rintro r V4 l4 ⟨p2,n2,c2,rfl,g2⟩
 refine ⟨_,_,_,_,rfl,fun V5 l5=>(uA _ (g2.le l5)).mono ?_⟩
 rintro r V6 l6 rfl
 exact ⟨_,rfl,fun V7 l7=>by rw [Int.sub_eq_add_neg]⟩
def Em (l m:L3):Int:=if (l.1-m.1).sign≠0 then (l.1-m.1).sign else if (l.2.1-m.2.1).sign≠0 then (l.2.1-m.2.1).sign else (l.2.2-m.2.2).sign
theorem FP {l m:L3}:Em l m=0↔l=m:=by
 have e:∀{a b:Int},(a-b).sign=0↔a=b:=fun {a b}=>by rw [Int.sign_eq_zero_iff_zero];omega
 unfold Em
 constructor
 ·intro h
  by_cases h1:(l.1-m.1).sign=0
  ·rw [if_neg (by simpa using h1)] at h
   by_cases h2:(l.2.1-m.2.1).sign=0
   ·rw [if_neg (by simpa using h2)] at h
    exact Prod.ext (e.1 h1) (Prod.ext (e.1 h2) (e.1 h))
   ·rw [if_pos h2] at h;exact absurd h h2
  ·rw [if_pos h1] at h;exact absurd h h1
 ·rintro rfl
  simp
theorem rR {V:View}{v w:Value}{l m:L3}(hl:RL V v l.1 l.2.1 l.2.2)(hm:RL V w m.1 m.2.1 m.2.2){k:Nat}(sl:jV k l)(sm:jV k m)(hk:k<=1099511627776) :
  ab prog 88 #[v,w] V fun r V'=>r=.int .i64 (Em l m):=by
 obtain ⟨d1,d2,d3⟩:=sl.ag hk
 obtain ⟨e1,e2,e3⟩:=sm.ag hk
 obtain ⟨_,_,_,_,_,_,_,_,_,rfl,a1,a2,a3⟩:=hl
 obtain ⟨_,_,_,_,_,_,_,_,_,rfl,b1,b2,b3⟩:=hm
 refine Bu _ _ _ _ _ _ _ _ _ _ _ _ _ _ _ _ _ _ _ _ _ _ _ _ V _ fun V1 l1=>(jH _ _ (a1.le l1) (b1.le l1) d1 e1).mono ?_
 rintro r V2 l2 rfl
 unfold Em
 refine ⟨_,rfl,fun h V3 l3=>?_,fun h V4 l4=>(jH _ _ (a2.le (l1.trans (l2.trans l4))) (b2.le (l1.trans (l2.trans l4))) d2 e2).mono ?_⟩
 ·rw [bne_iff_ne] at h
  rw [if_pos h]
 ·rw [bne_eq_false_iff_eq] at h
  rw [if_neg (by rw [h];decide)]
  rintro r V5 l5 rfl
  refine ⟨_,rfl,fun h V6 l6=>?_,fun h V7 l7=>(jH _ _ (a3.le (l1.trans (l2.trans (l4.trans (l5.trans l7))))) (b3.le (l1.trans (l2.trans (l4.trans (l5.trans l7))))) d3 e3).mono ?_⟩
  ·rw [bne_iff_ne] at h
   rw [if_pos h]
  ·rw [bne_eq_false_iff_eq] at h
   rw [if_neg (by rw [h];decide)]
   rintro r V8 l8 rfl
   exact ⟨_,rfl,fun V9 l9=>rfl⟩
theorem Cf {l m:L3}:(Em l m==(0:Int))=decide (l=m):=by
 by_cases h:l=m
 ·rw [decide_eq_true h,beq_iff_eq];exact FP.2 h
 ·rw [decide_eq_false h,beq_eq_false_iff_ne];exact fun e=>h (FP.1 e)
def Mn (u:Value):Prop:=u=.agg #[.bool false,.slice none 0 0,.slice none 0 0,.bool false,.slice none 0 0,.slice none 0 0]
theorem Ou {V:View}{v w:Value}{l m:L3}(hl:RL V v l.1 l.2.1 l.2.2)(hm:RL V w m.1 m.2.1 m.2.2){k:Nat}(sl:jV k l)(sm:jV k m)(hk:20*k+20<274877906944) :
  ab prog 91 #[v,w] V fun r V'=>∃u,r=.tuple #[u,.bool (decide (aU l m≠0))]/\(aU l m=0->Mn u)/\(aU l m≠0->RP V' u (Gb l m) (Gc l m)):=by
 have e0:((l.1:Int):Rat)*((m.2.1:Int):Rat)-((m.1:Int):Rat)*((l.2.1:Int):Rat)=aU l m:=by unfold aU;grind
 have e1:((l.2.1:Int):Rat)*((m.2.2:Int):Rat)-((m.2.1:Int):Rat)*((l.2.2:Int):Rat)=((l.2.1:Rat)*(m.2.2:Rat))-((l.2.2:Rat)*(m.2.1:Rat)):=by grind
 have e2:((m.1:Int):Rat)*((l.2.2:Int):Rat)-((l.1:Int):Rat)*((m.2.2:Int):Rat)=((l.2.2:Rat)*(m.1:Rat))-((l.1:Rat)*(m.2.2:Rat)):=by grind
 obtain ⟨sl1,sl2,MU⟩:=sl
 obtain ⟨MV,MW,MX⟩:=sm
 obtain ⟨_,_,_,_,_,_,_,_,_,rfl,a1,a2,a3⟩:=hl
 obtain ⟨_,_,_,_,_,_,_,_,_,rfl,b1,b2,b3⟩:=hm
 refine yl _ _ _ _ _ _ _ _ _ _ _ _ _ _ _ _ _ _ _ _ _ _ _ _ V _ fun V1 l1=>(a_ (a1.le l1) sl1 (by omega)).mono ?_
 rintro r V2 l2 WH
 have Tq:=WH
 obtain ⟨_,_,_,_,_,_,rfl⟩:=WH.shape
 refine ⟨_,_,_,_,_,_,_,rfl,fun V3 l3=>(a_ (b2.le (l1.trans (l2.trans (l3)))) MW (by omega)).mono ?_⟩
 rintro r V4 l4 WI
 have Ts:=WI
 obtain ⟨_,_,_,_,_,_,rfl⟩:=WI.shape
 refine ⟨_,_,_,_,_,_,_,rfl,fun V5 l5=>(aN (Tq.le (l3.trans (l4.trans (l5)))) (Ts.le l5) sl1 MW (by omega)).mono ?_⟩
 rintro r V6 l6 WJ
 have Tt:=WJ
 obtain ⟨_,_,_,_,_,_,rfl⟩:=WJ.shape
 refine ⟨_,_,_,_,_,_,_,rfl,fun V7 l7=>(a_ (b1.le (l1.trans (l2.trans (l3.trans (l4.trans (l5.trans (l6.trans (l7)))))))) MV (by omega)).mono ?_⟩
 rintro r V8 l8 WK
 have Tu:=WK
 obtain ⟨_,_,_,_,_,_,rfl⟩:=WK.shape
 refine ⟨_,_,_,_,_,_,_,rfl,fun V9 l9=>(a_ (a2.le (l1.trans (l2.trans (l3.trans (l4.trans (l5.trans (l6.trans (l7.trans (l8.trans (l9)))))))))) sl2 (by omega)).mono ?_⟩
 rintro r jh l10 WL
 have Tv:=WL
 obtain ⟨_,_,_,_,_,_,rfl⟩:=WL.shape
 refine ⟨_,_,_,_,_,_,_,rfl,fun jd bG=>(aN (Tu.le (l9.trans (l10.trans (bG)))) (Tv.le bG) MV sl2 (by omega)).mono ?_⟩
 rintro r nF cN WM
 have Tw:=WM
 obtain ⟨_,_,_,_,_,_,rfl⟩:=WM.shape
 refine ⟨_,_,_,_,_,_,_,rfl,fun rH dg=>(kb (Tt.le (l7.trans (l8.trans (l9.trans (l10.trans (bG.trans (cN.trans (dg)))))))) (Tw.le dg) (sl1.mul MW) (MV.mul sl2) (by omega)).mono ?_⟩
 rintro r nG dE Tx
 rw [e0] at Tx
 have Cs:=Tx
 obtain ⟨_,_,_,_,_,_,rfl,Ty,-⟩:=Tx
 have sD:Sz (4*k+3) (((l.1:Int):Rat)*((m.2.1:Int):Rat)-((m.1:Int):Rat)*((l.2.1:Int):Rat)):=Sz.mono ((sl1.mul MW).sub (MV.mul sl2)) (by omega)
 rw [e0] at sD
 refine ⟨_,_,_,_,_,_,_,rfl,fun lU dO=>(tL _ (Ty.le dO)).mono ?_⟩
 rintro r lR dv rfl
 refine ⟨_,rfl,fun hz nH c_=>?_,fun hz=>?_⟩
 ·rw [beq_iff_eq,pW] at hz
  rw [hz]
  exact ⟨_,rfl,fun _=>rfl,fun h=>absurd rfl h⟩
 ·rw [beq_eq_false_iff_ne,ne_eq,pW] at hz
  rw [decide_eq_true hz]
  have hz':¬(aU l m).num=0:=fun h=>hz (Rat.num_eq_zero.1 h)
  intro nH c_
  have M0:V.Le nH:=(l1.trans (l2.trans (l3.trans (l4.trans (l5.trans (l6.trans (l7.trans (l8.trans (l9.trans (l10.trans (bG.trans (cN.trans (dg.trans (dE.trans (dO.trans (dv.trans (c_)))))))))))))))))
  replace Cs:=Cs.le (dO.trans (dv.trans (c_)))
  refine (a_ (a2.le M0) sl2 (by omega)).mono ?_
  rintro r qm dM WQ
  have TA:=WQ
  obtain ⟨_,_,_,_,_,_,rfl⟩:=WQ.shape
  refine ⟨_,_,_,_,_,_,_,rfl,fun rI dF=>(a_ (b3.le (M0.trans (dM.trans (dF)))) MX (by omega)).mono ?_⟩
  rintro r zW gI WR
  have TB:=WR
  obtain ⟨_,_,_,_,_,_,rfl⟩:=WR.shape
  refine ⟨_,_,_,_,_,_,_,rfl,fun w_ fS=>(aN (TA.le (dF.trans (gI.trans (fS)))) (TB.le fS) sl2 MX (by omega)).mono ?_⟩
  rintro r t_ jc WS
  have TC:=WS
  obtain ⟨_,_,_,_,_,_,rfl⟩:=WS.shape
  refine ⟨_,_,_,_,_,_,_,rfl,fun zY gU=>(a_ (b2.le (M0.trans (dM.trans (dF.trans (gI.trans (fS.trans (jc.trans (gU)))))))) MW (by omega)).mono ?_⟩
  rintro r H3 oY WT
  have TD:=WT
  obtain ⟨_,_,_,_,_,_,rfl⟩:=WT.shape
  refine ⟨_,_,_,_,_,_,_,rfl,fun HT nB=>(a_ (a3.le (M0.trans (dM.trans (dF.trans (gI.trans (fS.trans (jc.trans (gU.trans (oY.trans (nB)))))))))) MU (by omega)).mono ?_⟩
  rintro r Kr lS WU
  have TE:=WU
  obtain ⟨_,_,_,_,_,_,rfl⟩:=WU.shape
  refine ⟨_,_,_,_,_,_,_,rfl,fun Nc lI=>(aN (TD.le (nB.trans (lS.trans (lI)))) (TE.le lI) MW MU (by omega)).mono ?_⟩
  rintro r OZ F7 WV
  have TF:=WV
  obtain ⟨_,_,_,_,_,_,rfl⟩:=WV.shape
  refine ⟨_,_,_,_,_,_,_,rfl,fun RW D0=>(kb (TC.le (gU.trans (oY.trans (nB.trans (lS.trans (lI.trans (F7.trans (D0)))))))) (TF.le D0) (sl2.mul MX) (MW.mul MU) (by omega)).mono ?_⟩
  rintro r Mr CE TG
  rw [e1] at TG
  have ND:=TG
  obtain ⟨_,_,_,_,_,_,rfl⟩:=TG.shape
  have sX:Sz (4*k+3) (((l.2.1:Rat)*(m.2.2:Rat))-((l.2.2:Rat)*(m.2.1:Rat))):=by rw [←e1];exact Sz.mono ((sl2.mul MX).sub (MW.mul MU)) (by omega)
  have M1:V.Le Mr:=(M0.trans (dM.trans (dF.trans (gI.trans (fS.trans (jc.trans (gU.trans (oY.trans (nB.trans (lS.trans (lI.trans (F7.trans (D0.trans (CE))))))))))))))
  replace Cs:=Cs.le (dM.trans (dF.trans (gI.trans (fS.trans (jc.trans (gU.trans (oY.trans (nB.trans (lS.trans (lI.trans (F7.trans (D0.trans (CE)))))))))))))
  refine ⟨_,_,_,_,_,_,_,rfl,fun SH F8=>(a_ (b1.le (M1.trans F8)) MV (by omega)).mono ?_⟩
  rintro r VL Oa WW
  have TH:=WW
  obtain ⟨_,_,_,_,_,_,rfl⟩:=WW.shape
  refine ⟨_,_,_,_,_,_,_,rfl,fun SI CF=>(a_ (a3.le (M1.trans (F8.trans (Oa.trans (CF))))) MU (by omega)).mono ?_⟩
  rintro r Ya Ob WX
  have TJ:=WX
  obtain ⟨_,_,_,_,_,_,rfl⟩:=WX.shape
  refine ⟨_,_,_,_,_,_,_,rfl,fun Yb Ky=>(aN (TH.le (CF.trans (Ob.trans (Ky)))) (TJ.le Ky) MV MU (by omega)).mono ?_⟩
  rintro r V36 Oc WY
  have TL:=WY
  obtain ⟨_,_,_,_,_,_,rfl⟩:=WY.shape
  refine ⟨_,_,_,_,_,_,_,rfl,fun V37 Qp=>(a_ (a1.le (M1.trans (F8.trans (Oa.trans (CF.trans (Ob.trans (Ky.trans (Oc.trans (Qp))))))))) sl1 (by omega)).mono ?_⟩
  rintro r V38 Li WZ
  have TM:=WZ
  obtain ⟨_,_,_,_,_,_,rfl⟩:=WZ.shape
  refine ⟨_,_,_,_,_,_,_,rfl,fun V39 Qq=>(a_ (b3.le (M1.trans (F8.trans (Oa.trans (CF.trans (Ob.trans (Ky.trans (Oc.trans (Qp.trans (Li.trans (Qq))))))))))) MX (by omega)).mono ?_⟩
  rintro r V40 R8 W0
  have TN:=W0
  obtain ⟨_,_,_,_,_,_,rfl⟩:=W0.shape
  refine ⟨_,_,_,_,_,_,_,rfl,fun V41 Qs=>(aN (TM.le (Qq.trans (R8.trans (Qs)))) (TN.le Qs) sl1 MX (by omega)).mono ?_⟩
  rintro r V42 Uw W3
  have TO:=W3
  obtain ⟨_,_,_,_,_,_,rfl⟩:=W3.shape
  refine ⟨_,_,_,_,_,_,_,rfl,fun V43 R9=>(kb (TL.le (Qp.trans (Li.trans (Qq.trans (R8.trans (Qs.trans (Uw.trans (R9)))))))) (TO.le R9) (MV.mul MU) (sl1.mul MX) (by omega)).mono ?_⟩
  rintro r V44 Xu TP
  rw [e2] at TP
  have TQ:=TP
  obtain ⟨_,_,_,_,_,_,rfl⟩:=TP.shape
  have sY:Sz (4*k+3) (((l.2.2:Rat)*(m.1:Rat))-((l.1:Rat)*(m.2.2:Rat))):=by rw [←e2];exact Sz.mono ((MV.mul MU).sub (sl1.mul MX)) (by omega)
  replace Cs:=Cs.le (F8.trans (Oa.trans (CF.trans (Ob.trans (Ky.trans (Oc.trans (Qp.trans (Li.trans (Qq.trans (R8.trans (Qs.trans (Uw.trans (R9.trans (Xu))))))))))))))
  replace ND:=ND.le (F8.trans (Oa.trans (CF.trans (Ob.trans (Ky.trans (Oc.trans (Qp.trans (Li.trans (Qq.trans (R8.trans (Qs.trans (Uw.trans (R9.trans (Xu))))))))))))))
  refine ⟨_,_,_,_,_,_,_,rfl,fun V45 MK=>(kM (ND.le MK) (Cs.le MK) hz' sX sD (by omega)).mono ?_⟩
  rintro r SJ l46 gr
  have R4:=gr
  obtain ⟨_,_,_,_,_,_,rfl⟩:=gr.shape
  refine ⟨_,_,_,_,_,_,_,rfl,fun VM Qu=>(kM (TQ.le (MK.trans (l46.trans (Qu)))) (Cs.le (MK.trans (l46.trans (Qu)))) hz' sY sD (by omega)).mono ?_⟩
  rintro r SK Lj gs
  have gs0:=gs
  obtain ⟨_,_,_,_,_,_,rfl⟩:=gs.shape
  exact ⟨_,_,_,_,_,_,_,rfl,fun VN Xv=>⟨_,rfl,fun h=>absurd h hz,fun _=>⟨_,_,_,_,_,_,_,_,_,_,_,_,rfl,R4.le (Qu.trans (Lj.trans (Xv))),gs0.le Xv⟩⟩⟩
def Nv:L3:=(0,0,0)
def yJ (V:View)(v:Value)(c:L3):Prop:=tI V v c.1 c.2.1 c.2.2/\Bd c
theorem yJ.le {V V':View}{v:Value}{c:L3}(h:yJ V v c)(l:V.Le V'):yJ V' v c:=⟨h.1.le l,h.2⟩
theorem yJ.shape {V:View}{v:Value}{c:L3}(h:yJ V v c):∃(x y:Int)(p:OA)(xb yb:Int)(pb:OA)(xc yc:Int)(pc:OA),v=.agg #[.int .i64 x,.int .i64 y,.pointer p,.int .i64 xb,.int .i64 yb,.pointer pb,.int .i64 xc,.int .i64 yc,.pointer pc]:=by
 obtain ⟨⟨x1,x2,p,y1,y2,q,z1,z2,r,e,-⟩,-⟩:=h;exact ⟨_,_,_,_,_,_,_,_,_,e⟩
end Go.Proofs.Tryz
namespace Go.Proofs.Tryz
open Go.fo
section
variable {α:Type} {c:α->α->Int} {d:α}
structure PQ (c:α->α->Int) (d:α) (l0 l:List α) (a0 b0 a b:Nat):Prop where
 Sg:rG d l0 l a0 b0
 ha:a0<=a
 xG:a<=b
 hb:b<=b0
 lo:wZ c d l a0 a
 hi:wZ c d l b b0
 s1:Sep c d l a0 a b0
 s2:Sep c d l a0 b b0
 pre:0<a->∀k,a<=k->k<b->¬c (l.getD k d) (l.getD (a-1) d)<0
variable {l0 l m:List α} {a0 b0 a b mid:Nat}
theorem PQ.start {l:List α}(h:a<=b)(hp:0<a->∀k,a<=k->k<b->¬c (l.getD k d) (l.getD (a-1) d)<0):PQ c d l l a b a b:=
 ⟨.refl _ _ _,Nat.le_refl _,h,Nat.le_refl _,.short (by omega),.short (by omega),fun p q h1 h2=>by omega,fun p q h1 h2 h3 h4=>by omega,hp⟩
theorem PQ.change (h:PQ c d l0 l a0 b0 a b)(hs:rG d l m a b):PQ c d l0 m a0 b0 a b:=
 ⟨h.Sg.trans (hs.wide h.ha h.hb),h.ha,h.xG,h.hb,hs.qw h.lo (.inl (Nat.le_refl _)),hs.qw h.hi (.inr (Nat.le_refl _)),hs.sep h.s1 (.inr (.inl ⟨Nat.le_refl _,h.hb⟩)),hs.sep h.s2 (.inl ⟨h.ha,Nat.le_refl _⟩),fun h0 k h1 h2=>by
  obtain ⟨k',h3,h4,e⟩:=hs.mem k h1 h2
  rw [e,hs.out (a-1) (by omega)]
  exact h.pre h0 k' h3 h4⟩
theorem PQ.fin (h:PQ c d l0 l a0 b0 a b)(hs:rG d l m a b)(ha:wZ c d m a b):rG d l0 m a0 b0/\wZ c d m a0 b0:=by
 have h':=h.change hs
 refine ⟨h'.Sg,h'.lo.join (ha.join h'.hi fun p q h1 h2 h3 h4=>h'.s2 p q (by have:=h.ha;omega) h2 h3 h4) h'.s1⟩
theorem PQ.left (ho:Ord c)(h:PQ c d l0 l a0 b0 a b)(hm:a<=mid)(hm':mid<b)(h1:∀k,a<=k->k<mid->c (l.getD k d) (l.getD mid d)<0)(h2:∀k,mid<k->k<b->¬c (l.getD k d) (l.getD mid d)<0)
  (hs:rG d l m a mid)(ha:wZ c d m a mid):PQ c d l0 m a0 b0 (mid+1) b:=by
 have e0:=h.ha
 have e1:=h.hb
 have em:m.getD mid d=l.getD mid d:=hs.out mid (by omega)
 have below:∀k,a<=k->k<mid->¬c (m.getD mid d) (m.getD k d)<0:=fun k g1 g2=>by
  obtain ⟨k',g3,g4,e⟩:=hs.mem k g1 g2
  rw [em,e];exact ho.O2 _ _ (h1 k' g3 g4)
 have t1:=hs.sep h.s1 (.inr (.inl ⟨Nat.le_refl _,by omega⟩))
 have t2:=hs.sep h.s2 (.inl ⟨e0,by omega⟩)
 have up:∀q,mid<q->q<b->¬c (m.getD q d) (m.getD mid d)<0:=fun q g1 g2=>by rw [em,hs.out q (by omega)];exact h2 q g1 g2
 refine ⟨h.Sg.trans (hs.wide e0 (by omega)),by omega,by omega,e1,(hs.qw h.lo (.inl (Nat.le_refl _))).join (m:=a) (fun p q g1 g2 g3=>?_) fun p q g1 g2 g3 g4=>t1 p q g1 g2 g3 (by omega),hs.qw h.hi (.inr (by omega)),fun p q g1 g2 g3 g4=>?_,t2,fun _ k g1 g2=>up k (by omega) g2⟩
 ·by_cases e:q=mid
  ·subst e;exact below p g1 g2
  ·exact ha p q g1 g2 (by omega)
 ·by_cases hq:b<=q
  ·exact t2 p q g1 (by omega) hq g4
  ·by_cases hp:p<a
   ·exact t1 p q g1 hp (by omega) g4
   ·have u:=up q (by omega) (by omega)
    by_cases e:p=mid
    ·subst e;exact u
    ·exact ho.tr _ _ _ u (below p (by omega) (by omega))
theorem PQ.right (ho:Ord c)(h:PQ c d l0 l a0 b0 a b)(hm:a<=mid)(hm':mid<b)(h1:∀k,a<=k->k<mid->c (l.getD k d) (l.getD mid d)<0)(h2:∀k,mid<k->k<b->¬c (l.getD k d) (l.getD mid d)<0)
  (hs:rG d l m (mid+1) b)(ha:wZ c d m (mid+1) b):PQ c d l0 m a0 b0 a mid:=by
 have e0:=h.ha
 have e1:=h.hb
 have em:m.getD mid d=l.getD mid d:=hs.out mid (by omega)
 have up:∀q,mid<q->q<b->¬c (m.getD q d) (m.getD mid d)<0:=fun q g1 g2=>by
  obtain ⟨k',g3,g4,e⟩:=hs.mem q (by omega) g2
  rw [em,e];exact h2 k' (by omega) g4
 have below:∀k,a<=k->k<mid->¬c (m.getD mid d) (m.getD k d)<0:=fun k g1 g2=>by
  rw [em,hs.out k (by omega)];exact ho.O2 _ _ (h1 k g1 g2)
 have t1:=hs.sep h.s1 (.inr (.inl ⟨by omega,e1⟩))
 have t2:=hs.sep h.s2 (.inl ⟨by omega,Nat.le_refl _⟩)
 have t3:=hs.qw h.hi (.inr (Nat.le_refl _))
 refine ⟨h.Sg.trans (hs.wide (by omega) e1),e0,hm,by omega,hs.qw h.lo (.inl (by omega)),fun p q g1 g2 g3=>?_,t1,fun p q g1 g2 g3 g4=>?_,fun h0 k g1 g2=>?_⟩
 ·by_cases hq:q<b
  ·by_cases e:p=mid
   ·subst e;exact up q g2 hq
   ·exact ha p q (by omega) g2 hq
  ·by_cases hp:p<b
   ·exact t2 p q (by omega) hp (by omega) g3
   ·exact t3 p q (by omega) g2 g3
 ·by_cases hq:b<=q
  ·exact t2 p q g1 (by omega) hq g4
  ·by_cases hp:p<a
   ·exact t1 p q g1 hp (by omega) g4
   ·have u:=below p (by omega) g2
    by_cases e:q=mid
    ·subst e;exact u
    ·exact ho.tr _ _ _ (up q (by omega) (by omega)) u
 ·rw [hs.out k (by omega),hs.out (a-1) (by omega)];exact h.pre h0 k g1 (by omega)
structure HQ (c:α->α->Int) (d:α) (l:List α) (f i n:Nat):Prop where
 hp:Hp c d l f 0 i none
 qw:wZ c d l (f+i) (f+n)
 sep:Sep c d l f (f+i) (f+n)
theorem HQ.start {f n:Nat}(h:Hp c d l f 0 n none):HQ c d l f n n:=⟨h,.short (by omega),fun p q h1 h2 h3 h4=>by omega⟩
theorem HQ.step (ho:Ord c){f k n:Nat}(h:HQ c d l f (k+1) n)(hk:k+1<=n)(hl:f+n<=l.length)(hs:rG d (sC d l f (f+k)) m f (f+k))(hm:Hp c d m f 0 k none):HQ c d m f k n:=by
 have ha:=fun x=>oG (d:=d) (l:=l) (i:=f) (j:=f+k) (k:=x) (by omega) (by omega)
 have out:∀q,f+k<q->m.getD q d=l.getD q d:=fun q hq=>by rw [hs.out q (by omega),ha,if_neg (by omega),if_neg (by omega)]
 have top:m.getD (f+k) d=l.getD f d:=by rw [hs.out (f+k) (by omega),ha,if_pos rfl]
 refine ⟨hm,fun p q g1 g2 g3=>?_,fun p q g1 g2 g3 g4=>?_⟩
 ·rw [out q (by omega)]
  by_cases e:p=f+k
  ·rw [e,top];exact h.sep f q (Nat.le_refl _) (by omega) (by omega) g3
  ·rw [out p (by omega)];exact h.qw p q (by omega) g2 g3
 ·have hp:∃j,j<k+1/\m.getD p d=l.getD (f+j) d:=by
   obtain ⟨p',e1,e2,e⟩:=hs.mem p g1 g2
   rw [e,ha,if_neg (by omega)]
   split
   ·exact ⟨k,by omega,rfl⟩
   ·exact ⟨p'-f,by omega,by rw [show f+(p'-f)=p' by omega]⟩
  obtain ⟨j,hj,e⟩:=hp
  rw [e]
  by_cases eq:q=f+k
  ·rw [eq,top];exact h.hp.top ho j hj
  ·rw [out q (by omega)];exact h.sep (f+j) q (by omega) (by omega) (by omega) g4
theorem HQ.fin {f n:Nat}(h:HQ c d l f 0 n):wZ c d l f (f+n):=by have:=h.qw;simpa using this
structure PT (P:α->Prop) (d:α) (l:List α) (a b i j:Nat):Prop where
 hi:a<i
 K9:i<=j+1
 hj:j<b
 lo:∀k,a<k->k<i->P (l.getD k d)
 up:∀k,j<k->k<b->¬P (l.getD k d)
variable {P:α->Prop} {i j:Nat}
theorem PT.start (h:a+1<b):PT P d l a b (a+1) (b-1):=⟨by omega,by omega,by omega,fun k h1 h2=>by omega,fun k h1 h2=>by omega⟩
theorem PT.swap (h:PT P d l a b i j)(K9:i<=j)(hl:b<=l.length)(h1:¬P (l.getD i d))(h2:P (l.getD j d)):PT P d (sC d l i j) a b (i+1) (j-1)/\(sC d l i j).getD a d=l.getD a d/\rG d l (sC d l i j) a b:=by
 have e0:=h.hi
 have e1:=h.hj
 have ne:i≠j:=fun e=>h1 (e▸h2)
 have ha:=fun x=>oG (d:=d) (l:=l) (i:=i) (j:=j) (k:=x) (by omega) (by omega)
 refine ⟨⟨by omega,by omega,by omega,fun k g1 g2=>?_,fun k g1 g2=>?_⟩,by rw [ha,if_neg (by omega),if_neg (by omega)],rG.sC (by omega) (by omega) (by omega) e1 hl⟩
 ·rw [ha,if_neg (by omega)]
  by_cases e:k=i
  ·rw [if_pos e];exact h2
  ·rw [if_neg e];exact h.lo k g1 (by omega)
 ·rw [ha]
  by_cases e:k=j
  ·rw [if_pos e];exact h1
  ·rw [if_neg e,if_neg (by omega)];exact h.up k (by omega) g2
theorem PT.fin (ho:Ord c)(h:PT (fun x=>c x (l.getD a d)<0) d l a b i j)(K9:¬i<=j)(hl:b<=l.length):rG d l (sC d l j a) a b/\a<=j/\j<b /\
  (∀k,a<=k->k<j->c ((sC d l j a).getD k d) ((sC d l j a).getD j d)<0)/\(∀k,j<k->k<b->¬c ((sC d l j a).getD k d) ((sC d l j a).getD j d)<0):=by
 have e0:=h.hi
 have e1:=h.K9
 have e2:=h.hj
 have ha:=fun x=>oG (d:=d) (l:=l) (i:=j) (j:=a) (k:=x) (by omega) (by omega)
 have ej:(sC d l j a).getD j d=l.getD a d:=by
  rw [ha]
  by_cases e:j=a
  ·rw [if_pos e,e]
  ·rw [if_neg e,if_pos rfl]
 refine ⟨rG.sC (by omega) e2 (Nat.le_refl _) (by omega) hl,by omega,e2,fun k g1 g2=>?_,fun k g1 g2=>?_⟩
 ·rw [ej,ha]
  by_cases e:k=a
  ·rw [if_pos e];exact h.lo j (by omega) (by omega)
  ·rw [if_neg e,if_neg (by omega)];exact h.lo k (by omega) (by omega)
 ·rw [ej,ha,if_neg (by omega),if_neg (by omega)];exact h.up k g1 g2
end
end Go.Proofs.Tryz
namespace Go.Proofs.Tryz
open Go.bJ Go.fo
structure Mp (V:View) (n:Nat) (vs:List Value) (l:List L3):Prop where
 row:Row 9 yJ V vs l
 len:n=l.length
 PG:l.length<50
theorem Mp.le {V V':View}{n:Nat}{vs:List Value}{l:List L3}(h:Mp V n vs l)(e:V.Le V'):Mp V' n vs l:=⟨h.row.le fun _ _ g=>yJ.le g e,h.len,h.PG⟩
theorem Mp.get {V:View}{n:Nat}{vs:List Value}{l:List L3}(h:Mp V n vs l){k:Nat}(hk:k<l.length):∃(x y:Int)(p:OA)(xb yb:Int)(pb:OA)(xc yc:Int)(pc:OA),
  ((0+k*9)+9<=vs.length/\(vs.drop (0+k*9)).take 9=[.int .i64 x,.int .i64 y,.pointer p,.int .i64 xb,.int .i64 yb,.pointer pb,.int .i64 xc,.int .i64 yc,.pointer pc])/\yJ V (.agg #[.int .i64 x,.int .i64 y,.pointer p,.int .i64 xb,.int .i64 yb,.pointer pb,.int .i64 xc,.int .i64 yc,.pointer pc]) (l.getD k Nv):=by
 obtain ⟨xs,-,h2,h3,h4⟩:=h.row.get (d:=Nv) hk (by decide)
 have h20:=h2
 obtain ⟨x,y,p,xb,yb,pb,xc,yc,pc,e⟩:=h2.shape
 have e:=congrArg Array.toList (Value.agg.inj e)
 dsimp only at e
 subst e
 rw [Nat.zero_add]
 exact ⟨x,y,p,xb,yb,pb,xc,yc,pc,⟨h3,h4⟩,h20⟩
theorem Mp.swap {V:View}{n:Nat}{vs:List Value}{l:List L3}(h:Mp V n vs l){i j:Nat}(hi:i<l.length)(hj:j<l.length){x y:Int}{p:OA}{xb yb:Int}{pb:OA}{xc yc:Int}{pc:OA}{x' y':Int}{p':OA}{OS OT:Int}{pb':OA}{RB VD:Int}{pc':OA}
  (h1:yJ V (.agg #[.int .i64 x,.int .i64 y,.pointer p,.int .i64 xb,.int .i64 yb,.pointer pb,.int .i64 xc,.int .i64 yc,.pointer pc]) (l.getD i Nv))(h2:yJ V (.agg #[.int .i64 x',.int .i64 y',.pointer p',.int .i64 OS,.int .i64 OT,.pointer pb',.int .i64 RB,.int .i64 VD,.pointer pc']) (l.getD j Nv)) :
  (0+i*9)+9<=vs.length/\(0+j*9)+9<=(cF vs (0+i*9) [.int .i64 x',.int .i64 y',.pointer p',.int .i64 OS,.int .i64 OT,.pointer pb',.int .i64 RB,.int .i64 VD,.pointer pc']).length /\
  Mp V n (cF (cF vs (0+i*9) [.int .i64 x',.int .i64 y',.pointer p',.int .i64 OS,.int .i64 OT,.pointer pb',.int .i64 RB,.int .i64 VD,.pointer pc']) (0+j*9) [.int .i64 x,.int .i64 y,.pointer p,.int .i64 xb,.int .i64 yb,.pointer pb,.int .i64 xc,.int .i64 yc,.pointer pc]) (sC Nv l i j):=by
 obtain ⟨-,-,-,g1,-⟩:=h.row.get (d:=Nv) hi (by decide)
 obtain ⟨-,-,-,g2,-⟩:=h.row.get (d:=Nv) hj (by decide)
 rw [Nat.zero_add,Nat.zero_add]
 refine ⟨g1,by rw [mB (by exact g1)];exact g2,h.row.swap hi hj (by decide) rfl rfl h1 h2,by rw [pY];exact h.len,by rw [pY];exact h.PG⟩
structure GR {α:Type} (sz:Nat) (R:View->Value->α->Prop) (V:View) (n c:Nat) (vs:List Value) (l:List α):Prop where
 len:n=l.length
 le:n<=c
 cap:c*sz<=vs.length
 row:Row sz R V vs l
theorem GR.nil {α:Type}{sz:Nat}{R:View->Value->α->Prop}{V:View}:GR sz R V 0 0 [] []:=⟨rfl,Nat.le_refl _,by simp,Row.nil⟩
theorem GR.mono {α:Type}{sz:Nat}{R:View->Value->α->Prop}{V V':View}{n c:Nat}{vs:List Value}{l:List α}(h:GR sz R V n c vs l)(m:∀v a,R V v a->R V' v a):GR sz R V' n c vs l:=⟨h.len,h.le,h.cap,h.row.le m⟩
theorem GR.snoc {α:Type}{sz:Nat}{R:View->Value->α->Prop}{V:View}{n c:Nat}{vs:List Value}{l:List α}(h:GR sz R V n c vs l){xs:List Value}{a:α}(hx:xs.length=sz)(ha:R V (.agg xs.toArray) a)(h0:0<sz){sp:List Value}{c':Nat}(h1:n+1<=c')(h2:c'*sz<=(n+1)*sz+sp.length) :
  GR sz R V (n+1) c' (vs.take (n*sz)++xs++sp) (l++[a]):=by
 have hn:=h.len
 have hc:=h.cap
 have hl:n*sz<=c*sz:=Nat.mul_le_mul_right _ h.le
 refine ⟨by rw [List.length_append,hn];rfl,h1,?_,?_⟩
 ·have ht:(vs.take (n*sz)).length=n*sz:=by rw [List.length_take];omega
  rw [List.length_append,List.length_append,ht,hx]
  rw [Nat.succ_mul] at h2
  exact h2
 ·have:=h.row.snoc (sp:=sp) hx ha h0
  rw [←hn] at this
  exact this
def lP (l:L3):L3:=if l.1<0\/l.1=0/\l.2.1<0 then iR l else l
def Tr.Sc:Tr->List L3
 | .leaf _=>[]
 | .node l a b=>l::(a.Sc++b.Sc)
theorem AH {p:L3->Prop}:∀{t:Tr},t.Kn p->∀x∈t.Sc,p x
 | .leaf _,_,x,h=>by cases h
 | .node l a b,⟨h1,h2,h3⟩,x,h=>by
  rcases List.mem_cons.1 h with rfl|h
  ·exact h1
  ·rcases List.mem_append.1 h with h|h
   ·exact AH h2 x h
   ·exact AH h3 x h
theorem Bd.rev {l:L3}(h:Bd l):Bd (iR l):=by
 obtain ⟨h1,h2,h3⟩:=h
 unfold Bd iR
 simp only [Int.natAbs_neg]
 exact ⟨h1,h2,h3⟩
theorem Bd.can {l:L3}(h:Bd l):Bd (lP l):=by
 unfold lP;split
 ·exact h.rev
 ·exact h
theorem Bd.lK {l:L3}(h:Bd l):jV 1000 l:=⟨h.sz.1,h.sz.2.1,h.sz.2.2⟩
end Go.Proofs.Tryz
namespace Go.Proofs.Tryz.aq
open Go.bJ Go.fo
def nv (l:L3)(v:V2):Rat:=(l.1:Rat)*v.1+(l.2.1:Rat)*v.2
def ar (l:L3):V2:=((l.2.1:Rat),-(l.1:Rat))
theorem Gh (l:L3)(v:V2):nv l v=cr (ar l) v:=by unfold nv cr ar;grind
def OB (l:L3)(p v:V2):Int:=if (ax l p.1 p.2).num.sign=0 then (nv l v).num.sign else (ax l p.1 p.2).num.sign
def Dp:Tr->V2->V2->Bool×Bool
 | .leaf i,_,_=>(i,true)
 | .node l a b,p,v=>if OB l p v=1 then Dp a p v else if OB l p v=-1 then Dp b p v else (false,false)
def kl:Tr->V2->List L3
 | .leaf _,_=>[]
 | .node l a b,p=>(if ax l p.1 p.2=0 then [l] else [])++((if ax l p.1 p.2≥0 then kl a p else [])++(if ax l p.1 p.2<=0 then kl b p else []))
theorem vv:∀{t:Tr} {p:V2} {l:L3},l∈kl t p->ax l p.1 p.2=0/\l∈t.Sc
 | .leaf _,_,_,h=>by cases h
 | .node m a b,p,l,h=>by
  unfold kl at h
  simp only [List.mem_append] at h
  rcases h with h|h|h
  ·split at h
   ·rename_i e;rcases List.mem_singleton.1 h with rfl;exact ⟨e,List.mem_cons_self ..⟩
   ·cases h
  ·split at h
   ·have:=vv h;exact ⟨this.1,List.mem_cons_of_mem _ (List.mem_append_left _ this.2)⟩
   ·cases h
  ·split at h
   ·have:=vv h;exact ⟨this.1,List.mem_cons_of_mem _ (List.mem_append_right _ this.2)⟩
   ·cases h
theorem vP {q:Rat}:q.num.sign=-1↔q<0:=by
 rw [Int.sign_eq_neg_one_iff_neg,←Int.not_le,←Rat.not_le,Rat.num_nonneg]
theorem A7 {q:Rat}:q.num.sign=1↔q>0:=by
 have h:=@vP (-q)
 rw [Rat.neg_num,Int.sign_neg] at h
 constructor
 ·intro e;have:=h.1 (by rw [e]);grind
 ·intro e;have:=h.2 (by grind);omega
theorem jE {q:Rat}:q.num.sign=0↔q=0:=by rw [Int.sign_eq_zero_iff_zero,Rat.num_eq_zero]
theorem vZ:∀{t:Tr} {p v x:V2},(∀l∈kl t p,nv l v≠0)->(∀l∈kl t p,(nv l v>0->nv l x>0)/\(nv l v<0->nv l x<0)) ->
  Dp t p x=Dp t p v/\(Dp t p v).2=true
 | .leaf _,_,_,_,_,_=>⟨rfl,rfl⟩
 | .node l a b,p,v,x,h0,h1=>by
  have ha:ax l p.1 p.2≥0->Dp a p x=Dp a p v/\(Dp a p v).2=true:=fun e=>by
   have sub:∀m∈kl a p,m∈kl (.node l a b) p:=fun m hm=>by
    unfold kl
    rw [if_pos e]
    exact List.mem_append_right _ (List.mem_append_left _ hm)
   exact vZ (fun m hm=>h0 m (sub m hm)) (fun m hm=>h1 m (sub m hm))
  have hb:ax l p.1 p.2<=0->Dp b p x=Dp b p v/\(Dp b p v).2=true:=fun e=>by
   have sub:∀m∈kl b p,m∈kl (.node l a b) p:=fun m hm=>by
    unfold kl
    rw [if_pos e]
    exact List.mem_append_right _ (List.mem_append_right _ hm)
   exact vZ (fun m hm=>h0 m (sub m hm)) (fun m hm=>h1 m (sub m hm))
  have hl:ax l p.1 p.2=0->l∈kl (.node l a b) p:=fun e=>by
   unfold kl
   rw [if_pos e]
   exact List.mem_append_left _ (List.mem_singleton.2 rfl)
  have key:OB l p x=OB l p v/\(OB l p v=1/\ax l p.1 p.2≥0\/OB l p v=-1/\ax l p.1 p.2<=0):=by
   unfold OB
   by_cases e:ax l p.1 p.2=0
   ·have hm:=hl e
    rw [if_pos (jE.2 e),if_pos (jE.2 e)]
    obtain ⟨q1,q2⟩:=h1 l hm
    have q0:=h0 l hm
    by_cases q:nv l v>0
    ·rw [A7.2 q,A7.2 (q1 q)];exact ⟨rfl,.inl ⟨rfl,by grind⟩⟩
    ·have q':nv l v<0:=by grind
     rw [vP.2 q',vP.2 (q2 q')];exact ⟨rfl,.inr ⟨rfl,by grind⟩⟩
   ·have e':¬(ax l p.1 p.2).num.sign=0:=fun h=>e (jE.1 h)
    rw [if_neg e',if_neg e']
    refine ⟨rfl,?_⟩
    by_cases q:ax l p.1 p.2>0
    ·exact .inl ⟨A7.2 q,by grind⟩
    ·exact .inr ⟨vP.2 (by grind),by grind⟩
  obtain ⟨k1,k2⟩:=key
  simp only [Dp,k1]
  rcases k2 with ⟨e,g⟩|⟨e,g⟩
  ·rw [e,if_pos rfl,if_pos rfl];exact ha g
  ·rw [e,if_neg (by decide),if_pos rfl,if_neg (by decide),if_pos rfl];exact hb g
def OW (D:List V2)(M:List L3):Prop:=∀l∈M,∃r∈D,∃c:Rat,c>0/\r=(c*(ar l).1,c*(ar l).2)
theorem Eo {l:L3}{r:V2}{c:Rat}(c0:c>0)(e:r=(c*(ar l).1,c*(ar l).2))(v:V2):cr r v=c*nv l v:=by
 rw [Gh,e];unfold cr;grind
theorem Gd {c x:Rat}(c0:c>0):(c*x>0↔x>0)/\(c*x<0↔x<0)/\(c*x=0↔x=0):=by
 have p:x>0->c*x>0:=fun h=>mp c0 h
 have n:x<0->c*x<0:=fun h=>by have:=mp c0 (show -x>0 by grind);grind
 have z:x=0->c*x=0:=fun h=>by rw [h];grind
 refine ⟨⟨fun h=>?_,p⟩,⟨fun h=>?_,n⟩,⟨fun h=>?_,z⟩⟩
 ·by_cases q:x>0
  ·exact q
  ·by_cases q':x<0
   ·have:=n q';grind
   ·have:=z (by grind);grind
 ·by_cases q:x<0
  ·exact q
  ·by_cases q':x>0
   ·have:=p q';grind
   ·have:=z (by grind);grind
 ·rcases Rat.mul_eq_zero.1 h with h|h
  ·grind
  ·exact h
theorem OW.gen {D:List V2}{M:List L3}(h:OW D M){v:V2}(hv:∀r∈D,cr r v≠0):∀l∈M,nv l v≠0:=by
 intro l hl e
 obtain ⟨r,hr,c,c0,e'⟩:=h l hl
 exact hv r hr (by rw [Eo c0 e',e];grind)
theorem OW.same {D:List V2}{M:List L3}(h:OW D M){v x:V2}(hv:∀r∈D,(cr r v>0->cr r x>0)/\(cr r v<0->cr r x<0)) :
  ∀l∈M,(nv l v>0->nv l x>0)/\(nv l v<0->nv l x<0):=by
 intro l hl
 obtain ⟨r,hr,c,c0,e'⟩:=h l hl
 have:=hv r hr
 rw [Eo c0 e',Eo c0 e'] at this
 obtain ⟨a1,a2,_⟩:=@Gd c (nv l v) c0
 obtain ⟨b1,b2,_⟩:=@Gd c (nv l x) c0
 exact ⟨fun h=>b1.1 (this.1 (a1.2 h)),fun h=>b2.1 (this.2 (a2.2 h))⟩
def anyS (t:Tr)(p:V2)(S:List V2):Bool:=S.any fun v=>(Dp t p v).1
def KH (t:Tr)(p:V2)(S:List V2):Bool:=S.all fun v=>(Dp t p v).1
theorem ik (l:L3)(p v:V2)(s:Rat):ax l (p.1+s*v.1) (p.2+s*v.2)=ax l p.1 p.2+s*nv l v:=by unfold ax nv;grind
theorem inv_mul {c:Rat}(h:c≠0)(a:Rat):a*c⁻¹*c=a:=by rw [Rat.mul_assoc,Rat.inv_mul_cancel _ h,Rat.mul_one]
def half (u:V2):Int:=if u.2.num.sign>0\/u.2.num.sign=0/\u.1.num.sign>0 then 1 else if u.2.num.sign<0\/u.1.num.sign<0 then 2 else 0
def cH (u v:V2):Int:=if half u<half v then -1 else if half u>half v then 1 else -(cr u v).num.sign
theorem sB {q:Rat}:q.num.sign>0↔q>0:=by
 have:=Rat.num_nonneg (q:=-q)
 rw [Rat.neg_num] at this
 rw [gt_iff_lt,Int.sign_pos_iff]
 have h2:(0<=-q)↔¬q>0:=by constructor<;>intro h<;>grind
 rw [h2] at this
 by_cases h:q>0
 ·exact ⟨fun _=>h,fun _=>by
   have:¬0<=-q.num:=fun g=>this.1 g h
   omega⟩
 ·exact ⟨fun g=>by have:=this.2 h;omega,fun g=>absurd g h⟩
theorem Gr {q:Rat}:q.num.sign<0↔q<0:=by
 have:=@sB (-q)
 rw [Rat.neg_num,Int.sign_neg] at this
 constructor
 ·intro h;have:=this.1 (by omega);grind
 ·intro h;have:=this.2 (by grind);omega
theorem cd (u:V2):half u=1/\up u\/half u=2/\dn u\/half u=0/\u.1=0/\u.2=0:=by
 unfold half up dn
 split
 ·rename_i h;rw [sB,sB,jE] at h;exact .inl ⟨rfl,h⟩
 ·rename_i h
  rw [sB,sB,jE] at h
  split
  ·rename_i h';rw [Gr,Gr] at h';exact .inr (.inl ⟨rfl,by grind⟩)
  ·rename_i h';rw [Gr,Gr] at h';exact .inr (.inr ⟨rfl,by grind,by grind⟩)
theorem oa {u v:V2}:cH u v<0↔half u<half v\/half u=half v/\cr u v>0:=by
 have:=@sB (cr u v)
 unfold cH
 by_cases h1:half u<half v
 ·simp [h1]
 ·by_cases h2:half u>half v
  ·rw [if_neg h1,if_pos h2];omega
  ·rw [if_neg h1,if_neg h2];constructor
   ·intro h;exact .inr ⟨by omega,this.1 (by omega)⟩
   ·rintro (h|⟨h,h'⟩)
    ·omega
    ·have:=this.2 h';omega
theorem jX {u v:V2}:cH u v=0↔half u=half v/\cr u v=0:=by
 have:=@jE (cr u v)
 unfold cH
 by_cases h1:half u<half v
 ·rw [if_pos h1];constructor
  ·intro h;omega
  ·rintro ⟨h,_⟩;omega
 ·by_cases h2:half u>half v
  ·rw [if_neg h1,if_pos h2];constructor
   ·intro h;omega
   ·rintro ⟨h,_⟩;omega
  ·rw [if_neg h1,if_neg h2];constructor
   ·intro h;exact ⟨by omega,this.1 (by omega)⟩
   ·rintro ⟨_,h⟩;have:=this.2 h;omega
theorem ue (u v:V2):cH u v<0\/cH u v=0\/cH v u<0:=by
 rw [oa,jX,oa]
 have:=gF u v
 rcases Int.lt_trichotomy (half u) (half v) with h|h|h
 ·exact .inl (.inl h)
 ·by_cases p:cr u v>0
  ·exact .inl (.inr ⟨h,p⟩)
  ·by_cases q:cr u v=0
   ·exact .inr (.inl ⟨h,q⟩)
   ·exact .inr (.inr (.inr ⟨h.symm,by grind⟩))
 ·exact .inr (.inr (.inl h))
theorem tK (u v:V2)(h:cH u v<0):¬cH v u<0:=by
 rw [oa] at *
 have:=gF u v
 rintro (h'|⟨h',g'⟩)<;>rcases h with h|⟨h,g⟩
 ·omega
 ·omega
 ·omega
 ·grind
theorem KQ {a b d:V2}(xG:half a=half b)(hbd:half b=half d)(h1:cr a b<=0)(h2:cr b d<=0):cr a d<=0:=by
 by_cases h:cr a d<=0
 ·exact h
 exfalso
 have c:cr a d>0:=by grind
 have j1:=N0 a d b
 have j2:=EK a d b
 rcases cd b with ⟨e,hb⟩|⟨e,hb⟩|⟨e,hb⟩
 ·have ha:up a:=by rcases cd a with ⟨e',h⟩|⟨e',h⟩|⟨e',h⟩<;>first|exact h|omega
  have hd:up d:=by rcases cd d with ⟨e',h⟩|⟨e',h⟩|⟨e',h⟩<;>first|exact h|omega
  unfold up at ha hb hd
  have m1:=mn (show -(cr a b)≥0 by grind) (show d.2≥0 by grind)
  have m2:=mn (show -(cr b d)≥0 by grind) (show a.2≥0 by grind)
  have m3:=mn (show cr a d≥0 by grind) (show b.2≥0 by grind)
  have z3:cr a d*b.2=0:=by grind
  have b2:b.2=0:=by rcases Rat.mul_eq_zero.1 z3 with h|h<;>grind
  have b1:b.1>0:=by grind
  have d2:d.2=0:=by
   by_cases q:d.2>0
   ·have:=mp b1 q;unfold cr at h2;rw [b2] at h2;grind
   ·grind
  have d1:d.1>0:=by grind
  have:=mn (show a.2≥0 by grind) (show d.1≥0 by grind)
  unfold cr at c
  rw [d2] at c
  grind
 ·have ha:dn a:=by rcases cd a with ⟨e',h⟩|⟨e',h⟩|⟨e',h⟩<;>first|exact h|omega
  have hd:dn d:=by rcases cd d with ⟨e',h⟩|⟨e',h⟩|⟨e',h⟩<;>first|exact h|omega
  unfold dn at ha hb hd
  have m1:=mn (show -(cr a b)≥0 by grind) (show -d.2≥0 by grind)
  have m2:=mn (show -(cr b d)≥0 by grind) (show -a.2≥0 by grind)
  have m3:=mn (show cr a d≥0 by grind) (show -b.2≥0 by grind)
  have z3:cr a d*b.2=0:=by grind
  have b2:b.2=0:=by rcases Rat.mul_eq_zero.1 z3 with h|h<;>grind
  have b1:-b.1>0:=by grind
  have d2:d.2=0:=by
   by_cases q:-d.2>0
   ·have:=mp b1 q;unfold cr at h2;rw [b2] at h2;grind
   ·grind
  have d1:d.1<0:=by grind
  have:=mn (show -a.2≥0 by grind) (show -d.1≥0 by grind)
  unfold cr at c
  rw [d2] at c
  grind
 ·have ha:a.1=0/\a.2=0:=by rcases cd a with ⟨e',h⟩|⟨e',h⟩|⟨e',h⟩<;>first|exact h|omega
  unfold cr at c
  rw [ha.1,ha.2] at c
  grind
theorem Nj {u v:V2}:¬cH u v<0↔half v<half u\/half u=half v/\cr u v<=0:=by
 rw [oa]
 constructor
 ·intro h
  rcases Int.lt_trichotomy (half u) (half v) with g|g|g
  ·exact absurd (.inl g) h
  ·exact .inr ⟨g,by by_cases p:cr u v>0;exact absurd (.inr ⟨g,p⟩) h;grind⟩
  ·exact .inl g
 ·rintro (h|⟨h,g⟩) (h'|⟨h',g'⟩)
  ·omega
  ·omega
  ·omega
  ·grind
theorem ug (a b d:V2)(h:¬cH a b<0)(h':¬cH b d<0):¬cH a d<0:=by
 rw [Nj] at *
 rcases h with h|⟨h,g⟩<;>rcases h' with h'|⟨h',g'⟩
 ·exact .inl (by omega)
 ·exact .inl (by omega)
 ·exact .inl (by omega)
 ·exact .inr ⟨by omega,KQ h h' g g'⟩
theorem Nk {u v:V2}(hu:nz u)(hv:nz v):cH u v<0↔sN u v:=by
 have h0:∀{w:V2},nz w->¬(w.1=0/\w.2=0):=fun h g=>by unfold nz at h;rcases h with h|h;exact h g.1;exact h g.2
 rw [oa]
 unfold sN
 rcases cd u with ⟨e,h⟩|⟨e,h⟩|⟨e,h⟩
 ·rcases cd v with ⟨e',h'⟩|⟨e',h'⟩|⟨e',h'⟩
  ·rw [e,e'];constructor
   ·rintro (g|⟨_,g⟩)
    ·omega
    ·exact .inr ⟨.inl ⟨h,h'⟩,g⟩
   ·rintro (⟨_,g⟩|⟨_,g⟩)
    ·exact (eY h' g).elim
    ·exact .inr ⟨rfl,g⟩
  ·rw [e,e'];exact ⟨fun _=>.inl ⟨h,h'⟩,fun _=>.inl (by decide)⟩
  ·exact absurd h' (h0 hv)
 ·rcases cd v with ⟨e',h'⟩|⟨e',h'⟩|⟨e',h'⟩
  ·rw [e,e'];constructor
   ·rintro (g|⟨g,_⟩)<;>omega
   ·rintro (⟨g,_⟩|⟨⟨g,_⟩|⟨_,g⟩,_⟩)
    ·exact (eY g h).elim
    ·exact (eY g h).elim
    ·exact (eY h' g).elim
  ·rw [e,e'];constructor
   ·rintro (g|⟨_,g⟩)
    ·omega
    ·exact .inr ⟨.inr ⟨h,h'⟩,g⟩
   ·rintro (⟨g,_⟩|⟨_,g⟩)
    ·exact (eY g h).elim
    ·exact .inr ⟨rfl,g⟩
  ·exact absurd h' (h0 hv)
 ·exact absurd h (h0 hu)
theorem BO {u v:V2}(hu:nz u)(h:cH u v=0):∃c:Rat,c>0/\u=(c*v.1,c*v.2):=by
 rw [jX] at h
 obtain ⟨e,c⟩:=h
 have fin:∀k:Rat,k>0->u.1=k*v.1->u.2=k*v.2->∃c:Rat,c>0/\u=(c*v.1,c*v.2):=fun k h0 h1 h2=>⟨k,h0,Prod.ext h1 h2⟩
 have pos:∀x y:Rat,y≠0->x*y>0->x*y⁻¹>0:=fun x y hy h=>by
  have e:=inv_mul hy x
  generalize x*y⁻¹=t at *
  have e2:t*(y*y)=x*y:=by grind
  have:=sq_pos (u:=(y,0)) (.inl hy)
  unfold dt at this
  by_cases q:t>0
  ·exact q
  ·have:=mn (show -t≥0 by grind) (show y*y≥0 by grind);grind
 unfold cr at c
 have two:v.2≠0->u.2*v.2>0->∃c:Rat,c>0/\u=(c*v.1,c*v.2):=fun h0 h1=>by
  refine fin (u.2*v.2⁻¹) (pos _ _ h0 h1) ?_ (inv_mul h0 _).symm
  have:=inv_mul h0 u.1
  have:u.1*v.2*v.2⁻¹=u.2*v.1*v.2⁻¹:=by rw [show u.1*v.2=u.2*v.1 by grind]
  grind
 have one:v.1≠0->u.1*v.1>0->v.2=0->u.2=0->∃c:Rat,c>0/\u=(c*v.1,c*v.2):=fun h0 h1 h2 h3=>
  fin (u.1*v.1⁻¹) (pos _ _ h0 h1) (inv_mul h0 _).symm (by rw [h2,h3];grind)
 rcases cd u with ⟨e1,h⟩|⟨e1,h⟩|⟨e1,h⟩
 ·have h':up v:=by rcases cd v with ⟨e',h⟩|⟨e',h⟩|⟨e',h⟩<;>first|exact h|omega
  unfold up at h h'
  by_cases q:v.2>0
  ·refine two (by grind) ?_
   by_cases q':u.2>0
   ·exact mp q' q
   ·have u2:u.2=0:=by grind
    have:=mp (show u.1>0 by grind) q
    rw [u2] at c;grind
  ·have v2:v.2=0:=by grind
   have v1:v.1>0:=by grind
   by_cases q':u.2>0
   ·have:=mp q' v1;rw [v2] at c;grind
   ·exact one (by grind) (mp (by grind) v1) v2 (by grind)
 ·have h':dn v:=by rcases cd v with ⟨e',h⟩|⟨e',h⟩|⟨e',h⟩<;>first|exact h|omega
  unfold dn at h h'
  by_cases q:v.2<0
  ·refine two (by grind) ?_
   by_cases q':u.2<0
   ·have:=mp (show -u.2>0 by grind) (show -v.2>0 by grind);grind
   ·have u2:u.2=0:=by grind
    have:=mp (show -u.1>0 by grind) (show -v.2>0 by grind)
    rw [u2] at c;grind
  ·have v2:v.2=0:=by grind
   have v1:-v.1>0:=by grind
   by_cases q':u.2<0
   ·have:=mp (show -u.2>0 by grind) v1;rw [v2] at c;grind
   ·refine one (by grind) ?_ v2 (by grind)
    have:=mp (show -u.1>0 by grind) v1;grind
 ·unfold nz at hu;grind
theorem KI {a b d:V2}(h:cH a b=0)(h':cH b d=0):cH a d=0:=by
 have z:∀{u v:V2},cH u v=0↔¬cH u v<0/\¬cH v u<0:=by
  intro u v
  constructor
  ·intro e
   refine ⟨by omega,?_⟩
   rw [jX] at e
   have:=gF u v
   rw [oa]
   rintro (g|⟨_,g⟩)
   ·omega
   ·grind
  ·rintro ⟨g,g'⟩
   rcases ue u v with e|e|e
   ·exact absurd e g
   ·exact e
   ·exact absurd e g'
 rw [z] at *
 exact ⟨ug _ _ _ h.1 h'.1,ug _ _ _ h'.2 h.2⟩
theorem uf (a:V2):cH a a=0:=jX.2 ⟨rfl,by unfold cr;grind⟩
theorem FH {a b d:V2}(h:¬cH b a<0)(h':cH b d<0):cH a d<0:=by
 by_cases q:cH a d<0
 ·exact q
 ·exact absurd h' (ug _ _ _ h q)
def eP (u v:V2):Bool:=decide (cH u v=0)
theorem Cg:∀{r:List V2} {p:V2},(p::r).Pairwise (fun x y=>¬cH y x<0) ->
  (Au eP p r).Pairwise (fun x y=>cH x y<0)/\(∀x∈Au eP p r,cH p x<0)/\∀x∈p::r,∃y∈p::Au eP p r,cH y x=0
 | [],p,_=>⟨List.Pairwise.nil,(fun x h=>by cases h),fun x h=>⟨x,h,uf x⟩⟩
 | a::r,p,h=>by
  obtain ⟨h1,h2⟩:=List.pairwise_cons.1 h
  obtain ⟨i1,i2,i3⟩:=Cg h2
  have pa:¬cH a p<0:=h1 a (List.mem_cons_self ..)
  unfold Au
  by_cases e:cH a p=0
  ·have:eP a p=true:=decide_eq_true e
   rw [if_pos this]
   have pa':¬cH p a<0:=fun g=>by
    rcases jX.1 e with ⟨e1,e2⟩
    rw [oa] at g
    have:=gF a p
    rcases g with g|⟨_,g⟩
    ·omega
    ·grind
   refine ⟨i1,fun x hx=>FH pa (i2 x hx),fun x hx=>?_⟩
   rcases List.mem_cons.1 hx with rfl|hx
   ·exact ⟨x,List.mem_cons_self ..,uf x⟩
   ·obtain ⟨y,hy,g⟩:=i3 x hx
    rcases List.mem_cons.1 hy with rfl|hy
    ·refine ⟨p,List.mem_cons_self ..,KI (b:=y) ?_ g⟩
     rcases ue p y with q|q|q
     ·exact absurd q pa'
     ·exact q
     ·exact absurd q pa
    ·exact ⟨y,List.mem_cons_of_mem _ hy,g⟩
  ·have:eP a p=false:=decide_eq_false e
   rw [this]
   have lt:cH p a<0:=by
    rcases ue p a with q|q|q
    ·exact q
    ·exfalso;apply e
     rw [jX] at *
     have:=gF a p
     exact ⟨q.1.symm,by grind⟩
    ·exact absurd q pa
   refine ⟨List.pairwise_cons.2 ⟨i2,i1⟩,fun x hx=>?_,fun x hx=>?_⟩
   ·rcases List.mem_cons.1 hx with rfl|hx
    ·exact lt
    ·exact FH (b:=a) pa (i2 x hx)
   ·rcases List.mem_cons.1 hx with rfl|hx
    ·exact ⟨x,List.mem_cons_self ..,uf x⟩
    ·obtain ⟨y,hy,g⟩:=i3 x hx
     exact ⟨y,List.mem_cons_of_mem _ hy,g⟩
theorem Io {m:List V2}(h:m.Pairwise (fun x y=>¬cH y x<0)):(xC eP m).Pairwise (fun x y=>cH x y<0)/\∀x∈m,∃y∈xC eP m,cH y x=0:=by
 cases m with
 | nil=>exact ⟨List.Pairwise.nil,fun x h=>by cases h⟩
 | cons p r=>
  obtain ⟨h1,h2,h3⟩:=Cg h
  exact ⟨List.pairwise_cons.2 ⟨h2,h1⟩,h3⟩
theorem Ov {m:List V2}(h:m.Pairwise (fun x y=>¬cH y x<0))(hn:∀r∈m,nz r)(ho:∀r∈m,∃s∈m,UK s r):Mo (xC eP m)/\∀x∈m,∃y∈xC eP m,∃c:Rat,c>0/\y=(c*x.1,c*x.2):=by
 obtain ⟨h1,h2⟩:=Io h
 have sub:∀x∈xC eP m,x∈m:=Ip
 have mem:∀x∈m,∃y∈xC eP m,∃c:Rat,c>0/\y=(c*x.1,c*x.2):=fun x hx=>by
  obtain ⟨y,hy,e⟩:=h2 x hx
  exact ⟨y,hy,BO (hn y (sub y hy)) e⟩
 refine ⟨⟨fun r hr=>hn r (sub r hr),fun r hr=>?_,?_⟩,mem⟩
 ·obtain ⟨s,hs,k,k0,e1,e2⟩:=ho r (sub r hr)
  obtain ⟨y,hy,c,c0,e⟩:=mem s hs
  refine ⟨y,hy,c*k,mp c0 k0,?_,?_⟩
  ·rw [e];show c*s.1=_;rw [e1];grind
  ·rw [e];show c*s.2=_;rw [e2];grind
 ·refine List.Pairwise.imp_of_mem ?_ h1
  intro a b ha hb g
  exact (Nk (hn a (sub a ha)) (hn b (sub b hb))).1 g
section
variable {D:List V2} (h:Mo D)
include h
theorem Oj {i:Nat}{u w:V2}(hi:D[i]?=some u)(hw:D[(i+1)%D.length]?=some w):cr u w≥0:=by
 by_cases q:cr u w≥0
 ·exact q
 exfalso
 have Qf:w∈D:=List.mem_of_getElem? hw
 have hu:u∈D:=List.mem_of_getElem? hi
 obtain ⟨s,hs,ho⟩:=h.cl w Qf
 obtain ⟨k,k0,_,e2⟩:=AM ho u
 have p:cr u s>0:=by rw [e2];have:=mp k0 (show -(cr u w)>0 by grind);grind
 obtain ⟨j,hj⟩:=List.getElem?_of_mem hs
 refine Mt (h.nz u hu) (h.nz w Qf) (h.nz s hs) (S_ h hi hw hj (fun e=>?_) (fun e=>?_)) p (by grind)
 ·rw [e,hi] at hj;cases hj;unfold cr at p;grind
 ·rw [e,hw] at hj;cases hj;grind
omit h in
def Rg (f:V2->V2->V2)(D:List V2):List V2:=(List.range D.length).map fun i=>f (D.getD i (0,0)) (D.getD ((i+1)%D.length) (0,0))
theorem LP {f:V2->V2->V2}(hf:∀u∈D,∀w∈D,cr u w≥0->GH u w (f u w))(hD:D≠[]):RV D (Rg f D):=by
 have hl:0<D.length:=List.length_pos_iff.2 hD
 have key:∀i u w,D[i]?=some u->D[(i+1)%D.length]?=some w->D.getD i (0,0)=u/\D.getD ((i+1)%D.length) (0,0)=w/\GH u w (f u w):=fun i u w hi hw=>
  ⟨by rw [List.getD_eq_getElem?_getD,hi];rfl,by rw [List.getD_eq_getElem?_getD,hw];rfl,hf u (List.mem_of_getElem? hi) w (List.mem_of_getElem? hw) (Oj h hi hw)⟩
 refine .inr ⟨hD,fun x hx=>?_,fun i u w hi hw=>?_⟩
 ·obtain ⟨i,hi,rfl⟩:=List.mem_map.1 hx
  have hi:=List.mem_range.1 hi
  have e1:D[i]?=some D[i]:=List.getElem?_eq_getElem hi
  have e2:D[(i+1)%D.length]?=some (D[(i+1)%D.length]'(Nat.mod_lt _ hl)):=List.getElem?_eq_getElem _
  obtain ⟨k1,k2,k3⟩:=key i _ _ e1 e2
  exact ⟨i,_,_,e1,e2,by rw [k1,k2];exact k3⟩
 ·obtain ⟨k1,k2,k3⟩:=key i u w hi hw
  refine ⟨_,List.mem_map.2 ⟨i,List.mem_range.2 (List.getElem?_eq_some_iff.1 hi).1,rfl⟩,?_⟩
  rw [k1,k2];exact k3
end
theorem tO {a b c x y z:Int}(h1:a*y=b*x)(h2:a*z=c*x)(g:Nat.gcd (Nat.gcd x.natAbs y.natAbs) z.natAbs=1):x.natAbs∣a.natAbs:=by
 have e1:a.natAbs*y.natAbs=b.natAbs*x.natAbs:=by rw [←Int.natAbs_mul,←Int.natAbs_mul,h1]
 have e2:a.natAbs*z.natAbs=c.natAbs*x.natAbs:=by rw [←Int.natAbs_mul,←Int.natAbs_mul,h2]
 have d1:x.natAbs∣a.natAbs*Nat.gcd (Nat.gcd x.natAbs y.natAbs) z.natAbs:=by
  rw [←Nat.gcd_mul_left,←Nat.gcd_mul_left]
  exact Nat.dvd_gcd (Nat.dvd_gcd ⟨a.natAbs,by rw [Nat.mul_comm]⟩ ⟨b.natAbs,by rw [e1,Nat.mul_comm]⟩) ⟨c.natAbs,by rw [e2,Nat.mul_comm]⟩
 rwa [g,Nat.mul_one] at d1
theorem HF {l m:L3}(ol:dP l=true)(om:dP m=true)(cl:lP l=l)(cm:lP m=m){x y:Rat}(hl:ax l x y=0)(hm:ax m x y=0)
  (hc:cr (ar l) (ar m)=0):l=m:=by
 unfold dP at ol om
 rw [Bool.and_eq_true,decide_eq_true_iff,decide_eq_true_iff] at ol om
 have c12:l.1*m.2.1=l.2.1*m.1:=by
  unfold cr ar at hc
  have:(l.1:Rat)*(m.2.1:Rat)=(l.2.1:Rat)*(m.1:Rat):=by grind
  exact_mod_cast this
 unfold ax at hl hm
 have r12:(l.1:Rat)*(m.2.1:Rat)=(l.2.1:Rat)*(m.1:Rat):=by exact_mod_cast c12
 have c13:l.1*m.2.2=l.2.2*m.1:=by
  have:(l.1:Rat)*(m.2.2:Rat)=(l.2.2:Rat)*(m.1:Rat):=by grind
  exact_mod_cast this
 have c23:l.2.1*m.2.2=l.2.2*m.2.1:=by
  have:(l.2.1:Rat)*(m.2.2:Rat)=(l.2.2:Rat)*(m.2.1:Rat):=by grind
  exact_mod_cast this
 obtain ⟨Z7,UI⟩:=ol
 obtain ⟨om1,UJ⟩:=om
 unfold gP at UI UJ
 have Y3:Nat.gcd (Nat.gcd l.2.1.natAbs l.1.natAbs) l.2.2.natAbs=1:=by rw [Nat.gcd_comm l.2.1.natAbs];exact UI
 have Y4:Nat.gcd (Nat.gcd m.2.1.natAbs m.1.natAbs) m.2.2.natAbs=1:=by rw [Nat.gcd_comm m.2.1.natAbs];exact UJ
 have a1:l.1.natAbs=m.1.natAbs:=Nat.dvd_antisymm (tO (a:=m.1) (b:=m.2.1) (c:=m.2.2) (by rw [Int.mul_comm,←c12,Int.mul_comm]) (by rw [Int.mul_comm,←c13,Int.mul_comm]) UI) (tO c12 c13 UJ)
 have a2:l.2.1.natAbs=m.2.1.natAbs:=Nat.dvd_antisymm (tO (a:=m.2.1) (b:=m.1) (c:=m.2.2) (by rw [Int.mul_comm,c12,Int.mul_comm]) (by rw [Int.mul_comm,←c23,Int.mul_comm]) Y3) (tO (b:=l.1) (c:=l.2.2) c12.symm c23 Y4)
 have sl:¬(l.1<0\/l.1=0/\l.2.1<0):=fun h=>by
  unfold lP at cl
  rw [if_pos h] at cl
  have e1:-l.1=l.1:=congrArg (fun x:L3=>x.1) cl
  have e2:-l.2.1=l.2.1:=congrArg (fun x:L3=>x.2.1) cl
  omega
 have sm:¬(m.1<0\/m.1=0/\m.2.1<0):=fun h=>by
  unfold lP at cm
  rw [if_pos h] at cm
  have e1:-m.1=m.1:=congrArg (fun x:L3=>x.1) cm
  have e2:-m.2.1=m.2.1:=congrArg (fun x:L3=>x.2.1) cm
  omega
 have e1:l.1=m.1:=by omega
 by_cases z:l.1=0
 ·have e2:l.2.1=m.2.1:=by omega
  have n2:l.2.1≠0:=fun h=>Z7 ⟨z,h⟩
  have e3:m.2.2=l.2.2:=Int.eq_of_mul_eq_mul_left n2 (by rw [c23,e2,Int.mul_comm])
  exact Prod.ext e1 (Prod.ext e2 e3.symm)
 ·have e2:m.2.1=l.2.1:=Int.eq_of_mul_eq_mul_left z (by rw [c12,e1,Int.mul_comm])
  have e3:m.2.2=l.2.2:=Int.eq_of_mul_eq_mul_left z (by rw [c13,e1,Int.mul_comm])
  exact Prod.ext e1 (Prod.ext e2.symm e3.symm)
end Go.Proofs.Tryz.aq
namespace Go.Proofs.Tryz.aq
def mx (x:Rat×Rat)(t:Rat):Rat:=x.1+t*(x.2-x.1)
theorem ER {x:Rat×Rat}{t:Rat}(h1:x.1>0)(h2:x.2>0)(t0:t>0)(t1:t<=1):mx x t>0:=by
 have a:=mn (show 1-t≥0 by grind) (show x.1≥0 by grind)
 have b:=mp t0 h2
 unfold mx;grind
theorem Of {x:Rat×Rat}{t s:Rat}(h1:x.1>0)(hs:mx x s≥0)(s0:s>0)(t0:t>0)(ts:t<=s):mx x t≥0:=by
 unfold mx at *
 have e:s*(x.1+t*(x.2-x.1))=(s-t)*x.1+t*(x.1+s*(x.2-x.1)):=by grind
 have a:=mn (show s-t≥0 by grind) (show x.1≥0 by grind)
 have b:=mn (show t≥0 by grind) hs
 by_cases h:x.1+t*(x.2-x.1)≥0
 ·exact h
 ·have:=mp s0 (show -(x.1+t*(x.2-x.1))>0 by grind)
  grind
theorem BG {y:Rat×Rat}(h1:y.1>0){s:Rat}(s0:s>0)(hs:mx y s<=0):∃t,t>0/\t<=s/\mx y t=0:=by
 have hd:y.1-y.2>0:=by
  by_cases c:y.1-y.2>0
  ·exact c
  ·have:=mn (show s≥0 by grind) (show y.2-y.1≥0 by grind)
   unfold mx at hs;grind
 have e:=inv_mul (show y.1-y.2≠0 by grind) y.1
 have p:=mp h1 (Rat.inv_pos.2 hd)
 refine ⟨y.1*(y.1-y.2)⁻¹,p,?_,?_⟩
 ·generalize y.1*(y.1-y.2)⁻¹=t at *
  by_cases c:t<=s
  ·exact c
  ·have:=mp (show t-s>0 by grind) hd
   unfold mx at hs;grind
 ·generalize y.1*(y.1-y.2)⁻¹=t at *
  unfold mx;grind
theorem Ew:∀(L:List (Rat×Rat)),(∀x∈L,x.1>0)->(∃x∈L,x.2<=0)->∃t,t>0/\t<=1/\(∀x∈L,mx x t≥0)/\∃x∈L,mx x t=0
 | [],_,h=>by obtain ⟨x,hx,_⟩:=h;cases hx
 | y::L,h0,h=>by
  have hy:=h0 y (List.mem_cons_self ..)
  have hL:=fun x hx=>h0 x (List.mem_cons_of_mem y hx)
  by_cases c:∃x∈L,x.2<=0
  ·obtain ⟨t,t0,t1,a,x,hx,e⟩:=Ew L hL c
   by_cases g:mx y t≥0
   ·exact ⟨t,t0,t1,fun z hz=>by rcases List.mem_cons.1 hz with rfl|hz;exact g;exact a z hz,x,List.mem_cons_of_mem _ hx,e⟩
   ·obtain ⟨s,s0,st,es⟩:=BG hy t0 (by grind)
    exact ⟨s,s0,by grind,fun z hz=>by rcases List.mem_cons.1 hz with rfl|hz;grind;exact Of (hL z hz) (a z hz) t0 s0 st,y,List.mem_cons_self ..,es⟩
  ·obtain ⟨x,hx,hx2⟩:=h
   have:x=y:=by
    rcases List.mem_cons.1 hx with rfl|hx
    ·rfl
    ·exact absurd ⟨x,hx,hx2⟩ c
   subst this
   obtain ⟨s,s0,st,es⟩:=BG hy (s:=1) (by decide) (by unfold mx;grind)
   refine ⟨s,s0,st,fun z hz=>?_,x,List.mem_cons_self ..,es⟩
   rcases List.mem_cons.1 hz with rfl|hz
   ·grind
   ·have:z.2>0:=by
     by_cases q:z.2>0
     ·exact q
     ·exact absurd ⟨z,hz,by grind⟩ c
    have:=ER (hL z hz) this s0 st
    grind
theorem A8:∀(L:List (Rat×Rat)),(∀x∈L,x.1>0)->∃s,s>0/\∀x∈L,x.1+s*x.2>0
 | [],_=>⟨1,by decide,fun x h=>by cases h⟩
 | y::L,h0=>by
  have hy:=h0 y (List.mem_cons_self ..)
  obtain ⟨s,s0,h⟩:=A8 L fun x hx=>h0 x (List.mem_cons_of_mem y hx)
  by_cases c:y.1+s*y.2>0
  ·exact ⟨s,s0,fun z hz=>by rcases List.mem_cons.1 hz with rfl|hz;exact c;exact h z hz⟩
  ·have hn:-y.2>0:=by
    by_cases q:y.2<0
    ·grind
    ·have:=mn (show s≥0 by grind) (show y.2≥0 by grind);grind
   have e:=inv_mul (show -y.2≠0 by grind) y.1
   have p:=mp hy (Rat.inv_pos.2 hn)
   generalize y.1*(-y.2)⁻¹=r at *
   have hr:r<=s:=by
    by_cases q:r<=s
    ·exact q
    ·have:=mp (show r-s>0 by grind) hn;grind
   refine ⟨r*(1 / 2),by grind,fun z hz=>?_⟩
   rcases List.mem_cons.1 hz with rfl|hz
   ·grind
   ·have hz1:=h0 z (List.mem_cons_of_mem _ hz)
    have hz2:=h z hz
    by_cases q:z.2≥0
    ·have:=mn (show r*(1 / 2)≥0 by grind) q;grind
    ·have:=mn (show s-r*(1 / 2)≥0 by grind) (show -z.2≥0 by grind)
     grind
def pos (M:List L3)(p:V2):Prop:=∀m∈M,ax m p.1 p.2>0
def Es (M:List L3)(l:L3):Prop:=∃p:V2,ax l p.1 p.2=0/\∀m∈M,m≠l->ax m p.1 p.2>0
def Sx (M:List L3):Prop:=∀l∈M,∀m∈M,l≠m->∀p:V2,ax l p.1 p.2=0->ax m p.1 p.2=0->cr (ar l) (ar m)≠0
theorem Lx {l m:L3}{w:V2}(hw:w.1≠0\/w.2≠0)(h1:nv l w=0)(h2:nv m w=0):cr (ar l) (ar m)=0:=by
 have e1:cr (ar l) (ar m)*w.1=0:=by unfold nv at *;unfold cr ar;grind
 have e2:cr (ar l) (ar m)*w.2=0:=by unfold nv at *;unfold cr ar;grind
 rcases hw with h|h
 ·rcases Rat.mul_eq_zero.1 e1 with g|g;exact g;exact absurd g h
 ·rcases Rat.mul_eq_zero.1 e2 with g|g;exact g;exact absurd g h
theorem FR (u:V2):cr u u=0:=by unfold cr;grind
theorem Be (m:L3)(q p:V2)(t:Rat):ax m (q.1+t*(p.1-q.1)) (q.2+t*(p.2-q.2))=ax m q.1 q.2+t*(ax m p.1 p.2-ax m q.1 q.2):=by unfold ax;grind
theorem Oh (m:L3)(q p:V2)(t:Rat):nv m (q.1+t*(p.1-q.1),q.2+t*(p.2-q.2))=nv m q+t*(nv m p-nv m q):=by unfold nv;grind
theorem Oi (m:L3)(q x:V2):nv m (q.1-x.1,q.2-x.2)=ax m q.1 q.2-ax m x.1 x.2:=by unfold nv ax;grind
theorem WA {M:List L3}(hd:Sx M)(hn:∀m∈M,(ar m).1≠0\/(ar m).2≠0){q p:V2}(hq:pos M q)(hp:∀m∈M,Es M m->ax m p.1 p.2>0):pos M p:=by
 intro m0 hm0
 by_cases c:ax m0 p.1 p.2>0
 ·exact c
 exfalso
 let f:L3->Rat×Rat:=fun m=>(ax m q.1 q.2,ax m p.1 p.2)
 obtain ⟨t,t0,t1,ge,x,hx,ex⟩:=Ew (M.map f) (fun x hx=>by obtain ⟨m,hm,rfl⟩:=List.mem_map.1 hx;exact hq m hm) ⟨f m0,List.mem_map_of_mem hm0,by show ax m0 p.1 p.2<=0;grind⟩
 obtain ⟨m1,hm1,rfl⟩:=List.mem_map.1 hx
 let X:V2:=(q.1+t*(p.1-q.1),q.2+t*(p.2-q.2))
 have vX:∀m,ax m X.1 X.2=mx (f m) t:=fun m=>Be m q p t
 have Y0:∀m∈M,ax m X.1 X.2≥0:=fun m hm=>by rw [vX];exact ge _ (List.mem_map_of_mem hm)
 have zX:ax m1 X.1 X.2=0:=by rw [vX];exact ex
 let u:V2:=(q.1-X.1,q.2-X.2)
 have vu:∀m,nv m u=ax m q.1 q.2-ax m X.1 X.2:=fun m=>Oi m q X
 let Z:=M.filter fun m=>decide (ax m X.1 X.2=0)
 have Lq:∀m,m∈Z↔m∈M/\ax m X.1 X.2=0:=fun m=>by simp [Z,List.mem_filter]
 have ZY:m1∈Z:=(Lq m1).2 ⟨hm1,zX⟩
 let d:=ar m1
 have d0:nv m1 d=0:=by rw [Gh];exact FR _
 let g:L3->Rat×Rat:=fun m=>(nv m u,nv m d)
 obtain ⟨k,k0,k1,Y1,y,hy,ey⟩:=Ew (Z.map g) (fun x hx=>by
  obtain ⟨m,hm,rfl⟩:=List.mem_map.1 hx
  obtain ⟨Zt,hz⟩:=(Lq m).1 hm
  show nv m u>0
  rw [vu,hz];have:=hq m Zt;grind) ⟨g m1,List.mem_map_of_mem ZY,by show nv m1 d<=0;rw [d0];grind⟩
 obtain ⟨m2,hm2,rfl⟩:=List.mem_map.1 hy
 obtain ⟨UC,UD⟩:=(Lq m2).1 hm2
 let w:V2:=(u.1+k*(d.1-u.1),u.2+k*(d.2-u.2))
 have vw:∀m,nv m w=mx (g m) k:=fun m=>Oh m u d k
 have wz:nv m2 w=0:=by rw [vw];exact ey
 have w0:w.1≠0\/w.2≠0:=by
  by_cases e:k=1
  ·have:=hn m1 hm1
   have e1:w.1=d.1:=by dsimp only [w];rw [e];grind
   have e2:w.2=d.2:=by dsimp only [w];rw [e];grind
   rw [e1,e2];exact this
  ·have a:nv m1 w>0:=by
    rw [vw]
    show nv m1 u+k*(nv m1 d-nv m1 u)>0
    rw [d0]
    have:nv m1 u>0:=by rw [vu,zX];have:=hq m1 hm1;grind
    have:=mp (show 1-k>0 by grind) this
    grind
   by_cases e1:w.1=0
   ·by_cases e2:w.2=0
    ·unfold nv at a;rw [e1,e2] at a;grind
    ·exact .inr e2
   ·exact .inl e1
 obtain ⟨s,s0,hs⟩:=A8 ((M.filter fun m=>decide (ax m X.1 X.2>0)).map fun m=>(ax m X.1 X.2,nv m w)) (fun x hx=>by
  obtain ⟨m,hm,rfl⟩:=List.mem_map.1 hx
  simpa using (List.mem_filter.1 hm).2)
 have es:Es M m2:=by
  refine ⟨(X.1+s*w.1,X.2+s*w.2),?_,fun m hm hne=>?_⟩
  ·rw [ik,UD,wz];grind
  ·rw [ik]
   by_cases z:ax m X.1 X.2=0
   ·have Zu:=(Lq m).2 ⟨hm,z⟩
    have g0:nv m w≥0:=by rw [vw];exact Y1 _ (List.mem_map_of_mem Zu)
    have ne:nv m w≠0:=fun e=>hd m2 UC m hm (fun h=>hne h.symm) X UD z (Lx w0 wz e)
    have:=mp s0 (show nv m w>0 by grind)
    rw [z];grind
   ·have gz:=Y0 m hm
    have hmem:(ax m X.1 X.2,nv m w)∈((M.filter fun m=>decide (ax m X.1 X.2>0)).map fun m=>(ax m X.1 X.2,nv m w)):=List.mem_map.2 ⟨m,List.mem_filter.2 ⟨hm,by simp;grind⟩,rfl⟩
    exact hs _ hmem
 have a:=hp m2 UC es
 have b:=hq m2 UC
 have:=ER (x:=f m2) b a t0 t1
 rw [←vX,UD] at this
 grind
def Gf (l:L3):V2:=((l.1:Rat),(l.2.1:Rat))
theorem Vh {x y:Rat}(h:x≠0\/y≠0):x*x+y*y>0:=by
 have p:∀z:Rat,z≠0->z*z>0:=fun z hz=>by
  by_cases c:z>0
  ·exact mp c c
  ·have:=mp (show -z>0 by grind) (show -z>0 by grind);grind
 have q:∀z:Rat,z*z≥0:=fun z=>by
  by_cases c:z≥0
  ·exact mn c c
  ·have:=mn (show -z≥0 by grind) (show -z≥0 by grind);grind
 rcases h with h|h
 ·have:=p x h;have:=q y;grind
 ·have:=p y h;have:=q x;grind
theorem Js {l:L3}(h:(ar l).1≠0\/(ar l).2≠0):nv l (Gf l)>0:=by
 have:nv l (Gf l)=(l.1:Rat)*(l.1:Rat)+(l.2.1:Rat)*(l.2.1:Rat):=rfl
 rw [this]
 refine Vh ?_
 rcases h with h|h
 ·exact .inr h
 ·left;intro e;apply h;show -(l.1:Rat)=0;rw [e];grind
theorem KX {M:List L3}(hd:Sx M)(hn:∀m∈M,(ar m).1≠0\/(ar m).2≠0){q:V2}(hq:pos M q)(h0:M≠[]):∃l∈M,Es M l:=by
 obtain ⟨l,hl⟩:=List.exists_mem_of_ne_nil M h0
 by_cases c:∃l∈M,Es M l
 ·exact c
 exfalso
 have h1:=Js (hn l hl)
 have e:=inv_mul (show nv l (Gf l)≠0 by grind) (ax l q.1 q.2)
 have hp:=WA hd hn hq (p:=(q.1+-(ax l q.1 q.2*(nv l (Gf l))⁻¹)*(Gf l).1,q.2+-(ax l q.1 q.2*(nv l (Gf l))⁻¹)*(Gf l).2)) (fun m hm he=>absurd ⟨m,hm,he⟩ c) l hl
 rw [ik] at hp
 grind
theorem Eu {M:List L3}{l:L3}(hn:(ar l).1≠0\/(ar l).2≠0){x:V2}(hx:ax l x.1 x.2=0)(h:∀m∈M,m≠l->ax m x.1 x.2>0)(L:List L3)(hL:∀m∈L,ax m x.1 x.2>0):∃q:V2,pos M q/\ax l q.1 q.2>0/\pos L q:=by
 have h1:=Js hn
 obtain ⟨s,s0,hs⟩:=A8 (((M.filter fun m=>decide (m≠l))++L).map fun m=>(ax m x.1 x.2,nv m (Gf l))) (fun y hy=>by
  obtain ⟨m,hm,rfl⟩:=List.mem_map.1 hy
  rcases List.mem_append.1 hm with hm|hm
  ·have:=List.mem_filter.1 hm
   exact h m this.1 (by simpa using this.2)
  ·exact hL m hm)
 have hl:ax l (x.1+s*(Gf l).1) (x.2+s*(Gf l).2)>0:=by rw [ik,hx];have:=mp s0 h1;grind
 refine ⟨(x.1+s*(Gf l).1,x.2+s*(Gf l).2),fun m hm=>?_,hl,fun m hm=>?_⟩
 ·by_cases e:m=l
  ·rw [e];exact hl
  ·rw [ik]
   exact hs (ax m x.1 x.2,nv m (Gf l)) (List.mem_map.2 ⟨m,List.mem_append_left _ (List.mem_filter.2 ⟨hm,by simpa using e⟩),rfl⟩)
 ·rw [ik]
  exact hs (ax m x.1 x.2,nv m (Gf l)) (List.mem_map.2 ⟨m,List.mem_append_right _ hm,rfl⟩)
theorem CU {M:List L3}{l:L3}(hno:∀x:V2,ax l x.1 x.2=0->¬pos M x){q p:V2}(hq:pos M q)(hp:pos M p):ax l q.1 q.2>0->ax l p.1 p.2>0:=by
 intro h
 by_cases c:ax l p.1 p.2>0
 ·exact c
 exfalso
 obtain ⟨t,t0,t1,e⟩:=BG (y:=(ax l q.1 q.2,ax l p.1 p.2)) h (s:=1) (by decide) (by unfold mx;grind)
 refine hno (q.1+t*(p.1-q.1),q.2+t*(p.2-q.2)) ?_ fun m hm=>?_
 ·rw [Be];exact e
 ·rw [Be];exact ER (x:=(ax m q.1 q.2,ax m p.1 p.2)) (hq m hm) (hp m hm) t0 t1
end Go.Proofs.Tryz.aq
namespace Go.Proofs.Tryz
open Go.bJ Go.fo
def Sp.oz (s:Sp)(t:Rat):Prop:=(s.a=true\/s.lo<t)/\(s.b=true\/t<s.hi)
def Hm (ss:List Sp)(t:Rat):Prop:=∃s∈ss,s.oz t
def Sp.jg (s:Sp):Prop:=s.can/\s.emp=false
def Sp.O3 (s t:Sp):Prop:=s.b=false/\t.a=false/\s.hi<t.lo
def HY (ss:List Sp):Prop:=(∀s∈ss,s.jg)/\ss.Pairwise Sp.O3
theorem pick (E:List Rat):∀l u:Rat,l<u->∃t,l<t/\t<u/\t∉E:=by
 induction E with
 | nil=>exact fun l u h=>⟨(l+u) / 2,by grind,by grind,by simp⟩
 | cons e r ih=>
  intro l u h
  by_cases c:l<e/\e<u
  ·obtain ⟨t,h1,h2,h3⟩:=ih l e c.1
   refine ⟨t,h1,by grind,fun hm=>?_⟩
   rcases List.mem_cons.1 hm with rfl|hm
   ·grind
   ·exact h3 hm
  ·obtain ⟨t,h1,h2,h3⟩:=ih l u h
   refine ⟨t,h1,h2,fun hm=>?_⟩
   rcases List.mem_cons.1 hm with rfl|hm
   ·exact c ⟨h1,h2⟩
   ·exact h3 hm
theorem CG {s:Sp}(h:s.emp=false)(ha:s.a=false)(hb:s.b=false):s.lo<s.hi:=by
 rcases Sp.kS.1 h with h|h|h
 ·rw [ha] at h;cases h
 ·rw [hb] at h;cases h
 ·exact h
theorem HY.tail {s:Sp}{r:List Sp}(h:HY (s::r)):HY r:=⟨fun x hx=>h.1 x (by simp [hx]),(List.pairwise_cons.1 h.2).2⟩
theorem HY.O3 {s:Sp}{r:List Sp}(h:HY (s::r)){x:Sp}(hx:x∈r):s.O3 x:=(List.pairwise_cons.1 h.2).1 x hx
set_option linter.unusedSectionVars false
section
variable {s s':Sp} {r r':List Sp} {E:List Rat} (h:HY (s :: r)) (h':HY (s' :: r')) (e:∀t,t ∉ E->Hm (s :: r) t->Hm (s' :: r') t)
include h h' e
end
theorem Sp.ext' {s t:Sp}(h1:s.a=t.a)(h2:s.b=t.b)(h3:s.lo=t.lo)(h4:s.hi=t.hi):s=t:=by
 cases s;cases t;simp at *;exact ⟨h3,h4,h1,h2⟩
end Go.Proofs.Tryz
namespace Go.Proofs.Tryz
open Go.bJ Go.fo
theorem row_one {α:Type}{sz:Nat}{R:View->Value->α->Prop}{V:View}{xs:List Value}{a:α}(hx:xs.length=sz)(ha:R V (.agg xs.toArray) a):Row sz R V xs [a]:=by
 refine ⟨fun i hi=>?_⟩
 obtain rfl:i=0:=by simpa using hi
 exact ⟨xs,hx,ha,fun j x hj=>by rw [Nat.zero_mul,Nat.zero_add];exact hj⟩
theorem vN {α:Type}{sz:Nat}{R:View->Value->α->Prop}{V:View}{vs:List Value}{ls:List α}(h:Row sz R V vs ls){k:Nat}(hk:k<=ls.length){xs sp:List Value}{a:α}(hx:xs.length=sz)(ha:R V (.agg xs.toArray) a)(hs:0<sz) :
  Row sz R V (vs.take (k*sz)++(xs++(vs.take (ls.length*sz)).drop (k*sz))++sp) (ls.take k++a::ls.drop k):=by
 have hl:=h.iL hs
 have hks:k*sz<=ls.length*sz:=Nat.mul_le_mul_right _ hk
 have t1:(vs.take (k*sz)).length=k*sz:=by rw [List.length_take];omega
 have t2:((vs.take (ls.length*sz)).drop (k*sz)).length=ls.length*sz-k*sz:=by rw [List.length_drop,List.length_take];omega
 have a1:(ls.take k).length=k:=by rw [List.length_take];omega
 refine ⟨fun i hi=>?_⟩
 rw [List.append_assoc]
 by_cases c1:i<k
 ·have hi':i<ls.length:=by omega
  obtain ⟨ys,y1,y2,y3⟩:=h.at_ i hi'
  have e:(ls.take k++a::ls.drop k)[i]=ls[i]:=by rw [List.getElem_append_left (by omega),List.getElem_take]
  refine ⟨ys,y1,by rw [e];exact y2,fun j x hj=>?_⟩
  have hj':=(List.getElem?_eq_some_iff.1 hj).1
  have hlt:i*sz+j<k*sz:=by
   have:(i+1)*sz<=k*sz:=Nat.mul_le_mul_right _ c1
   rw [Nat.succ_mul] at this
   omega
  rw [List.getElem?_append_left (by omega),List.getElem?_take,if_pos hlt]
  exact y3 j x hj
 ·by_cases c2:i=k
  ·subst c2
   have e:(ls.take i++a::ls.drop i)[i]=a:=by
    rw [List.getElem_append_right (by omega)]
    simp [a1]
   refine ⟨xs,hx,by rw [e];exact ha,fun j x hj=>?_⟩
   have hj':=(List.getElem?_eq_some_iff.1 hj).1
   rw [List.getElem?_append_right (by omega),t1,Nat.add_sub_cancel_left,List.append_assoc,List.getElem?_append_left hj']
   exact hj
  ·have hi':i-1<ls.length:=by
    rw [List.length_append,a1,List.length_cons,List.length_drop] at hi
    omega
   obtain ⟨ys,y1,y2,y3⟩:=h.at_ (i-1) hi'
   have e:(ls.take k++a::ls.drop k)[i]=ls[i-1]:=by
    rw [List.getElem_append_right (by omega)]
    obtain ⟨m,hm⟩:∃m,i=k+(m+1):=⟨i-k-1,by omega⟩
    subst hm
    simp only [a1,Nat.add_sub_cancel_left,List.getElem_cons_succ,List.getElem_drop]
    congr 1
   refine ⟨ys,y1,by rw [e];exact y2,fun j x hj=>?_⟩
   have hj':=(List.getElem?_eq_some_iff.1 hj).1
   obtain ⟨m,hm⟩:∃m,i=k+1+m:=⟨i-k-1,by omega⟩
   subst hm
   have e1:(k+1+m)*sz=k*sz+sz+m*sz:=by rw [Nat.add_mul,Nat.add_mul,Nat.one_mul]
   have e2:(k+1+m-1)*sz=k*sz+m*sz:=by rw [show k+1+m-1=k+m by omega,Nat.add_mul]
   have:=y3 j x hj
   rw [e2] at this
   have hlt:k*sz+m*sz+j<ls.length*sz:=by
    have:(k+m+1)*sz<=ls.length*sz:=Nat.mul_le_mul_right _ (by omega)
    rw [Nat.add_mul,Nat.add_mul,Nat.one_mul] at this
    omega
   rw [List.getElem?_append_right (by omega),t1,List.append_assoc,List.getElem?_append_right (by omega),hx,List.getElem?_append_left (by omega),List.getElem?_drop,List.getElem?_take,if_pos (by omega)]
   rw [show k*sz+((k+1+m)*sz+j-k*sz-sz)=k*sz+m*sz+j by omega]
   exact this
theorem Hl {α:Type}{sz:Nat}{R:View->Value->α->Prop}{V:View}{p:OA}{n:Nat}{ls:List α}(h:cG sz R V p n ls)(hs:0<sz):∃xs:List Value,V.sl p xs/\xs.length=ls.length*sz/\Row sz R V xs ls:=by
 have step:∀k,k<=ls.length->∃xs:List Value,V.sl p xs/\xs.length=k*sz/\Row sz R V xs (ls.take k):=by
  intro k
  induction k with
  | zero=>exact fun _=>⟨[],fun i v hv=>by simp at hv,by simp,by rw [List.take_zero];exact Row.nil⟩
  | succ k ih=>
   intro hk
   obtain ⟨xs,x1,x2,x3⟩:=ih (by omega)
   obtain ⟨ad,ha,ys,y1,y2,y3⟩:=h.at_ k (by omega)
   have hl:(ls.take k).length=k:=by rw [List.length_take];omega
   refine ⟨xs++ys,fun i v hv=>?_,by rw [List.length_append,x2,y1,Nat.succ_mul],?_⟩
   ·by_cases c:i<xs.length
    ·rw [List.getElem?_append_left c] at hv;exact x1 i v hv
    ·rw [List.getElem?_append_right (by omega)] at hv
     cases p with
     | none=>cases ha
     | some a=>
      obtain rfl:=Option.some.inj (show some (a.add (k*sz))=some ad from ha)
      have:=y3 _ v hv
      rw [uc,x2] at this
      rw [show k*sz+(i-k*sz)=i by omega] at this
      exact ⟨a,rfl,this⟩
   ·have:=x3.snoc (sp:=[]) y1 y2 hs
    rw [hl,List.append_nil,List.take_of_length_le (by omega)] at this
    rw [List.take_add_one,List.getElem?_eq_getElem (by omega)]
    exact this
 obtain ⟨xs,x1,x2,x3⟩:=step ls.length (Nat.le_refl _)
 rw [List.take_length] at x3
 exact ⟨xs,x1,x2,x3⟩
theorem iS {α:Type}{sz:Nat}{R:View->Value->α->Prop}{V:View}{vs xs sp:List Value}{ls ms:List α}(h:Row sz R V vs ls)(h':Row sz R V xs ms)(hs:0<sz):Row sz R V (vs.take (ls.length*sz)++xs++sp) (ls++ms):=by
 have hl:=h.iL hs
 have hl':=h'.iL hs
 have ht:(vs.take (ls.length*sz)).length=ls.length*sz:=by rw [List.length_take];omega
 refine ⟨fun i hi=>?_⟩
 by_cases c:i<ls.length
 ·obtain ⟨ys,y1,y2,y3⟩:=h.at_ i c
  refine ⟨ys,y1,by rw [List.getElem_append_left c];exact y2,fun j x hj=>?_⟩
  have hj':=(List.getElem?_eq_some_iff.1 hj).1
  have hlt:i*sz+j<ls.length*sz:=by
   have:(i+1)*sz<=ls.length*sz:=Nat.mul_le_mul_right _ c
   rw [Nat.succ_mul] at this
   omega
  rw [List.append_assoc,List.getElem?_append_left (by omega),List.getElem?_take,if_pos hlt]
  exact y3 j x hj
 ·rw [List.length_append] at hi
  obtain ⟨m,rfl⟩:∃m,i=ls.length+m:=⟨i-ls.length,by omega⟩
  have hm:m<ms.length:=by omega
  obtain ⟨ys,y1,y2,y3⟩:=h'.at_ m hm
  refine ⟨ys,y1,?_,fun j x hj=>?_⟩
  ·have e:(ls++ms)[ls.length+m]=ms[m]:=by rw [List.getElem_append_right (by omega)];simp
   rw [e];exact y2
  ·have hj':=(List.getElem?_eq_some_iff.1 hj).1
   have hlt:m*sz+j<xs.length:=by
    have:(m+1)*sz<=ms.length*sz:=Nat.mul_le_mul_right _ hm
    rw [Nat.succ_mul] at this
    omega
   rw [List.append_assoc,List.getElem?_append_right (by rw [ht,Nat.add_mul];omega),ht,Nat.add_mul,List.getElem?_append_left (by omega)]
   rw [show ls.length*sz+m*sz+j-ls.length*sz=m*sz+j by omega]
   exact y3 j x hj
theorem lu {α:Type}{sz:Nat}{R:View->Value->α->Prop}{V:View}{vs:List Value}{al:List α}(h:Row sz R V vs al)(hs:0<sz)(hc:∀xs a,R V (.agg (List.toArray xs)) a->∀v∈xs,v.oneCell'=true){m:Nat}(hm:m<al.length*sz){v:Value}(hv:vs[m]?=some v):v.oneCell'=true:=by
 have hi:m / sz<al.length:=Nat.div_lt_of_lt_mul (by rw [Nat.mul_comm];exact hm)
 obtain ⟨xs,hl,hx,hat⟩:=h.at_ (m / sz) hi
 have hlt:m%sz<xs.length:=by rw [hl];exact Nat.mod_lt _ hs
 have e3:m=m / sz*sz+m%sz:=by rw [Nat.mul_comm];exact (Nat.div_add_mod m sz).symm
 have:=hat (m%sz) _ (List.getElem?_eq_getElem hlt)
 rw [←e3,hv] at this
 obtain rfl:=Option.some.inj this
 exact hc xs _ hx _ (List.getElem_mem hlt)
end Go.Proofs.Tryz
