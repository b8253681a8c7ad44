import Derived.Test.YthpmdmkmfoaamaaGreatDoorS13
set_option linter.unusedVariables false
open Go.IntKind (i64 u64 u32)
namespace Go.Proofs.Tryz
open Go.br Go.dS
theorem sL:∀{t:Tr},t.jB (fun x=>fF x=true)->t.jB Bd->t.jB Ds
 | .leaf _,_,_=>trivial
 | .node _ _ _,⟨a1,a2,a3⟩,⟨b1,b2,b3⟩=>⟨⟨a1,b1⟩,sL a2 b2,sL a3 b3⟩
theorem mY {V:View}{l:List Nd}(hb:∀x∈l,Bd x.ln){v:Value}{root:Int}(h:AT V v root l)(ho:dz l root=none){y:Value}(hy:mT V 0 y) :
  ab prog 35 #[v] V fun r V'=>r=.tuple #[.int .i64 0,y]:=by
 have h0:=h
 obtain ⟨p,n,c,rfl,hn⟩:=h
 refine uh root p _ c V _ fun V1 l1=>(dI hb (h0.le l1)).mono ?_
 rintro r V2 l2 rfl
 rw [ho]
 exact ⟨_,rfl,fun _=>⟨y,⟨_,rfl,hy.le (l1.trans l2)⟩,fun V3 l3=>rfl⟩,(fun h=>nomatch h)⟩
theorem lE {V:View}{l:List Nd}(hb:∀x∈l,Bd x.ln){v:Value}{root:Int}(h:AT V v root l)(ho:dz l root=none){y:Value}(hy:mT V 0 y) :
  ab prog 36 #[v] V fun r V'=>r=.tuple #[.slice none 0 0,y]:=by
 have h0:=h
 obtain ⟨p,n,c,rfl,hn⟩:=h
 refine rj root p _ c V _ fun V1 l1=>(dW hb (h0.le l1)).mono ?_
 rintro r V2 l2 ⟨q,rfl,hq⟩
 rw [ho]
 exact ⟨_,_,rfl,fun _=>⟨y,⟨_,rfl,hy.le (l1.trans l2)⟩,fun V3 l3=>rfl⟩,(fun h=>nomatch h)⟩
theorem kt {V:View}{y z:Value}(hs:D_ V y z){root:Int}{p:OA}{n c:Nat}{rs:List Rn}(h:wD 8 sJ V p n rs)(hc:n<=c)(hn:p.isNone=true->c=0) :
  ab prog 8 #[.agg #[.int .i64 root,.slice p n c]] V fun r V'=>r=.bool true:=by
 have hl:=h.len
 refine kf root p n c V _ ⟨fun _ V1 l1=>(nL (hs.le l1)).mono ?_,fun h12=>?_⟩
 ·rintro r V2 l2 rfl
  exact ⟨_,rfl,fun V3 l3=>rfl⟩
 have h12:n<=12:=by have:=of_decide_eq_false h12;omega
 refine ⟨fun z _=>∃i:Nat,z=(i:Int)/\i<=n/\∀r∈rs.take i,r.short,fun z=>(n-z).toNat,⟨0,by and_intros<;>first|rfl|trivial,0,rfl,Nat.zero_le _,fun r hr=>by simp at hr⟩,?_⟩
 rintro _ V4 l4 ⟨i,rfl,hi,hsh⟩
 refine ⟨by trivial,fun hlt=>?_,fun hlt iC l10=>?_⟩
 ·have hlt:i<n:=by have:=of_decide_eq_true hlt;omega
  have hi':i<rs.length:=by omega
  have w1:i64.wrap ((i:Int)+1)=((i+1:Nat):Int):=by rw [aD (by omega)];rfl
  rw [w1,Int.toNat_natCast]
  obtain ⟨is,p1,n1,c1,p2,n2,c2,p3,n3,c3,a,had,a0,a1,a2,a3,a4,a5,a6,a7,e1,e2,e3⟩:=Ha (h.le l4 fun _ _ g=>sJ.le g l4) hi'
  refine ⟨is,⟨by omega,by omega⟩,_,p1,n1,c1,_,p2,n2,c2,_,p3,n3,c3,_,_,a,had,a0,a1,a2,a3,a4,a5,a6,a7,fun V5 l5 bk hbk=>(AD 3 hbk).mono ?_⟩
  rintro r V6 l6 ⟨b,rfl,hb⟩
  refine ⟨_,rfl,fun _=>⟨fun _ V7 l7=>(nL (hs.le (l4.trans (l5.trans (l6.trans l7))))).mono ?_,fun hb'=>⟨((i+1:Nat):Int),by dsimp only;omega,by and_intros<;>first|rfl|trivial,i+1,rfl,hlt,fun r hr=>?_⟩⟩⟩
  ·rintro r V8 l8 rfl
   exact ⟨_,rfl,fun V9 l9=>rfl⟩
  ·rw [←List.take_append_getElem hi',List.mem_append,List.mem_singleton] at hr
   rcases hr with hr|rfl
   ·exact hsh r hr
   ·obtain ⟨g1,g2,g3⟩:=hb (by simpa using hb')
    exact ⟨by omega,by omega,by omega⟩
 have hlt:i=n:=by have:=of_decide_eq_false hlt;omega
 subst hlt
 rw [List.take_of_length_le (by omega)] at hsh
 have lM:=l4.trans l10
 obtain ⟨hns,hbd⟩:=NS.EO (h.le lM fun _ _ g=>sJ.le g lM) hsh hc hn
 have hlen:(rs.map Rn.nd).length<=12:=by rw [List.length_map];omega
 generalize rs.map Rn.nd=l at *
 have hA:∀{W:View},iC.Le W->AT W (.agg #[.int .i64 root,.slice p i c]) root l:=fun e=>⟨p,i,c,rfl,hns.le e⟩
 refine (sX hbd root hns).mono ?_
 rintro r mf cB ⟨q,rfl,hq⟩
 refine ⟨_,_,rfl,fun mg cX=>(s_ (hA (cB.trans cX)) hbd (hs.inv.le (lM.trans (cB.trans cX)))).mono ?_⟩
 rintro r nW cZ ⟨o,e,rfl,k1,k2⟩
 have mF:=cB.trans (cX.trans cZ)
 have xo:=lM.trans mF
 cases hof:dz l root with
 | none=>
  obtain ⟨rfl,rfl⟩:=k1 hof
  refine ⟨_,_,_,_,_,rfl,fun _ mU dL=>(mY hbd (hA (mF.trans dL)) hof (hs.inv.le (xo.trans dL))).mono ?_,(fun h=>by cases h)⟩
  rintro r mh eC rfl
  have A7:=dL.trans eC
  refine ⟨_,_,rfl,fun nX dM=>(lE hbd (hA (mF.trans (A7.trans dM))) hof (hs.inv.le (xo.trans (A7.trans dM)))).mono ?_⟩
  rintro r nJ dR rfl
  have DP:=A7.trans (dM.trans dR)
  refine ⟨_,_,_,_,rfl,fun ry fu=>(nL (hs.le (xo.trans (DP.trans fu)))).mono ?_⟩
  rintro r wE gG rfl
  have DQ:=DP.trans (fu.trans gG)
  refine ⟨_,rfl,fun _ Al lj=>(dI hbd (hA (mF.trans (DQ.trans lj)))).mono ?_,(fun h=>by cases h)⟩
  rintro r ux iy rfl
  have DR:=DQ.trans (lj.trans iy)
  rw [hof]
  refine ⟨_,rfl,fun _ yS lN=>(iM hbd (hns.le (mF.trans (DR.trans lN)))).mono ?_,(fun h=>by cases h)⟩
  rintro r wJ jy ⟨g1,-⟩
  have g1:=g1 hof
  subst g1
  have A8:=DR.trans (lN.trans jy)
  refine ⟨_,rfl,fun _ Cc xq=>(mw (hA (mF.trans (A8.trans xq))) (hA (mF.trans (A8.trans xq))) hbd hbd).mono ?_,(fun h=>by cases h)⟩
  rintro r Cd qk rfl
  have Gi:=xo.trans (A8.trans (xq.trans qk))
  rw [hof]
  refine ⟨_,rfl,fun _=>⟨e,⟨_,rfl,hs.inv.le Gi⟩,fun Fk yy=>(dX hs.yE).mono ?_⟩,(fun h=>by cases h)⟩
  rintro r Hy sj rfl
  have Gj:=Gi.trans (yy.trans sj)
  refine ⟨_,rfl,fun _=>⟨e,⟨_,rfl,hs.inv.le Gj⟩,fun Fl CQ=>(dX hs.yE).mono ?_⟩,(fun h=>by cases h)⟩
  rintro r H5 DS rfl
  have I8:=Gj.trans (CQ.trans DS)
  refine ⟨_,rfl,fun _=>⟨e,⟨_,rfl,hs.inv.le I8⟩,fun Fm zw=>(dX hs.yE).mono ?_⟩,(fun h=>by cases h)⟩
  rintro r Ly HL rfl
  exact ⟨_,rfl,fun _ Lz MZ=>rfl,(fun h=>by cases h)⟩
 | some t=>
  obtain ⟨ho,rfl⟩:=k2 t hof
  have IP:=CZ hof
  obtain ⟨-,hsz,hok⟩:=Bu hof
  have EA:t.jB Ds:=sL hok (jr hbd hof)
  have ho0:=ho
  obtain ⟨po,no,co,rfl,-⟩:=ho
  have MJ:=hq t hof
  refine ⟨_,_,_,_,_,rfl,(fun h=>by cases h),fun _ NI K4=>(qC (RW.le (cX.trans (cZ.trans K4)) MJ) EA (by omega)).mono ?_⟩
  rintro r NJ M1 hw
  have hw0:=hw
  obtain ⟨pw,nw,cw,rfl,-⟩:=hw
  have A9:=K4.trans M1
  refine ⟨_,_,_,_,rfl,fun NK K5=>(nL (hs.le (xo.trans (A9.trans K5)))).mono ?_⟩
  rintro r NL M3 rfl
  have DT:=K5.trans M3
  have DM:=mF.trans (A9.trans DT)
  refine ⟨_,rfl,fun _ NM I_=>(dI hbd (hA (DM.trans I_))).mono ?_,(fun h=>by cases h)⟩
  rintro r NN K6 rfl
  rw [hof]
  have A5:=DM.trans (I_.trans K6)
  refine ⟨_,rfl,fun _ H6 l46=>(mw (hA (A5.trans l46)) (hA (A5.trans l46)) hbd hbd).mono ?_,(fun h=>by cases h)⟩
  rintro r J_ HM rfl
  rw [hof]
  have DN:=A5.trans (l46.trans HM)
  have Gp:=DT.trans (I_.trans (K6.trans (l46.trans HM)))
  refine ⟨_,rfl,fun _ H7 Ja=>(iM hbd (hns.le (DN.trans Ja))).mono ?_,fun h=>by simp at h⟩
  rintro r Ka K7 ⟨-,g2⟩
  have g2:=g2 t hof
  subst g2
  have Gl:=DN.trans (Ja.trans K7)
  have DU:=Gp.trans (Ja.trans K7)
  have hwk:∀x∈wr 0 t,fF x.ln=true:=B8 EA
  have hwb:∀x∈wr 0 t,Bd x.ln:=kI (ER EA)
  refine ⟨_,rfl,fun H8 Jb=>(kx (hA (Gl.trans Jb)) (hw0.le (DU.trans Jb)) hbd IP hwk (by omega)).mono ?_⟩
  rintro r Kb M4 rfl
  have DV:=DU.trans (Jb.trans M4)
  refine ⟨_,rfl,fun _=>⟨vr.1,fun _ H9 K8=>(kx (ho0.le (A9.trans (DV.trans K8))) (hw0.le (DV.trans K8)) hwb hwk hwk (by rw [aW];omega)).mono ?_,fun h=>by rw [vr.2] at h;cases h⟩,fun h=>by simp at h⟩
  rintro r Kc N3 rfl
  refine ⟨_,rfl,fun H_ N4=>?_⟩
  simp
theorem EZ {V:View}{b1:Bool}{p1:OA}{n1 c1:Nat}{b2:Bool}{p2:OA}{n2 c2:Nat}{b3:Bool}{p3:OA}{n3 c3:Nat}{ln:L3}(h:Aa V (.agg #[.bool b1,.slice p1 n1 c1,.bool b2,.slice p2 n2 c2,.bool b3,.slice p3 n3 c3]) ln)(x y:Int) :
  ∃r:Rn,sJ V (.agg #[.bool b1,.slice p1 n1 c1,.bool b2,.slice p2 n2 c2,.bool b3,.slice p3 n3 c3,.int .i64 x,.int .i64 y]) r:=by
 rcases h with ⟨_,_,_,_,_,_,_,_,_,e,h1,h2,h3⟩|⟨-,_,_,_,_,_,_,_,_,_,_,_,_,_,_,_,e,h1,h2,h3,-⟩
 ·cases e
  exact ⟨⟨_,_,_,_,_,_,x,y⟩,_,_,_,_,_,_,_,_,_,rfl,h1,h2,h3⟩
 ·cases e
  exact ⟨⟨_,_,_,_,_,_,x,y⟩,_,_,_,_,_,_,_,_,_,rfl,h1,h2,h3⟩
theorem vi {α:Type}{P:Nat->α->Prop}(n:Nat)(h:∀i,i<n->∃a,P i a):∃l:List α,l.length=n/\∀i (hi:i<l.length),P i l[i]:=by
 induction n with
 | zero=>exact ⟨[],rfl,fun i hi=>absurd hi (Nat.not_lt_zero i)⟩
 | succ n ih=>
  obtain ⟨l,hl,hp⟩:=ih fun i hi=>h i (by omega)
  obtain ⟨a,ha⟩:=h n (by omega)
  refine ⟨l++[a],by simp [hl],fun i hi=>?_⟩
  rw [List.length_append,List.length_singleton] at hi
  by_cases e:i<l.length
  ·rw [List.getElem_append_left e];exact hp i e
  ·obtain rfl:i=l.length:=by omega
   rw [List.getElem_append_right (Nat.le_refl _)]
   simpa [hl] using ha
theorem C_ {V:View}{vs:List Value}{n:Nat}(h:∀i,i<n->∃d,sI V vs i d):∃rs:List Rn,rs.length=n/\Row 8 sJ V vs rs:=by
 obtain ⟨rs,h1,h2⟩:=vi (P:=fun i r=>∃xs:List Value,xs.length=8/\sJ V (.agg xs.toArray) r/\∀j x,xs[j]?=some x->vs[i*8+j]?=some x) n fun i hi=>by
  obtain ⟨d,_,_,_,_,_,_,_,_,_,_,_,_,g1,g2⟩:=h i hi
  obtain ⟨r,hr⟩:=EZ g2 d.left d.right
  exact ⟨r,_,rfl,hr,g1⟩
 exact ⟨rs,h1,⟨fun i hi=>h2 i hi⟩⟩
theorem yH {V:View}{vs:List Value}{rs:List Rn}(h:Row 8 sJ V vs rs){k m:Nat}(hk:k<rs.length)(hm:m=6\/m=7)(x:Int):∃rs':List Rn,rs'.length=rs.length/\Row 8 sJ V (vs.set (k*8+m) (.int .i64 x)) rs':=by
 obtain ⟨rs',h1,h2⟩:=vi (P:=fun i r=>∃xs:List Value,xs.length=8/\sJ V (.agg xs.toArray) r/\∀j y,xs[j]?=some y->(vs.set (k*8+m) (.int .i64 x))[i*8+j]?=some y) rs.length fun i hi=>by
  obtain ⟨xs,g1,g2,g3⟩:=h.at_ i hi
  by_cases e:i=k
  ·subst e
   obtain ⟨_,_,_,_,_,_,_,_,_,e,d1,d2,d3⟩:=g2
   have e:=congrArg Array.toList (Value.agg.inj e)
   dsimp only at e
   subst e
   have hlen:i*8+7<vs.length:=(List.getElem?_eq_some_iff.1 (g3 7 _ rfl)).1
   rcases hm with rfl|rfl
   ·refine ⟨⟨rs[i].b1,rs[i].xs,rs[i].b2,rs[i].ys,rs[i].b3,rs[i].zs,x,rs[i].right⟩,_,rfl,⟨_,_,_,_,_,_,_,_,_,rfl,d1,d2,d3⟩,fun j y hy=>?_⟩
    rw [List.getElem?_set]
    match j,hy with
    | 0,hy=>rw [if_neg (by omega)];exact g3 0 _ hy
    | 1,hy=>rw [if_neg (by omega)];exact g3 1 _ hy
    | 2,hy=>rw [if_neg (by omega)];exact g3 2 _ hy
    | 3,hy=>rw [if_neg (by omega)];exact g3 3 _ hy
    | 4,hy=>rw [if_neg (by omega)];exact g3 4 _ hy
    | 5,hy=>rw [if_neg (by omega)];exact g3 5 _ hy
    | 6,hy=>rw [if_pos rfl,if_pos (by omega)];exact hy
    | 7,hy=>rw [if_neg (by omega)];exact g3 7 _ hy
    | j+8,hy=>simp at hy
   ·refine ⟨⟨rs[i].b1,rs[i].xs,rs[i].b2,rs[i].ys,rs[i].b3,rs[i].zs,rs[i].left,x⟩,_,rfl,⟨_,_,_,_,_,_,_,_,_,rfl,d1,d2,d3⟩,fun j y hy=>?_⟩
    rw [List.getElem?_set]
    match j,hy with
    | 0,hy=>rw [if_neg (by omega)];exact g3 0 _ hy
    | 1,hy=>rw [if_neg (by omega)];exact g3 1 _ hy
    | 2,hy=>rw [if_neg (by omega)];exact g3 2 _ hy
    | 3,hy=>rw [if_neg (by omega)];exact g3 3 _ hy
    | 4,hy=>rw [if_neg (by omega)];exact g3 4 _ hy
    | 5,hy=>rw [if_neg (by omega)];exact g3 5 _ hy
    | 6,hy=>rw [if_neg (by omega)];exact g3 6 _ hy
    | 7,hy=>rw [if_pos rfl,if_pos (by omega)];exact hy
    | j+8,hy=>simp at hy
  ·refine ⟨rs[i],xs,g1,g2,fun j y hy=>?_⟩
   have hj:j<8:=by rw [←g1];exact (List.getElem?_eq_some_iff.1 hy).1
   rw [List.getElem?_set,if_neg (by rcases hm with rfl|rfl<;>omega)]
   exact g3 j y hy
 exact ⟨rs',h1,⟨fun i hi=>h2 i hi⟩⟩
theorem EF {n:Nat}(h:0<n)(hn:n<=1000000)(a:Int):∃k:Nat,(i64.wrap (a.tmod (n:Int)+(n:Int))).tmod (n:Int)=(k:Int)/\k<n:=by
 have m1:(a.tmod (n:Int)).natAbs<n:=by rw [Int.natAbs_tmod,Int.natAbs_natCast];exact Nat.mod_lt _ h
 rw [aD (by omega),Int.tmod_eq_emod_of_nonneg (by omega)]
 have m2:=Int.emod_lt_of_pos (a.tmod (n:Int)+(n:Int)) (show (0:Int)<(n:Int) by omega)
 have m3:=Int.emod_nonneg (a.tmod (n:Int)+(n:Int)) (show (n:Int)≠0 by omega)
 exact ⟨((a.tmod (n:Int)+(n:Int))%(n:Int)).toNat,by omega,by omega⟩
theorem jM {V:View}{y z:Value}(hs:D_ V y z){lp:OA}{ln lc:Nat}(hr:Cb V lp ln)(hc:ln<=lc)(at_ rJ:Int) :
  ab prog 9 #[.slice lp ln lc,.int .i64 at_,.int .i64 rJ] V fun r V'=>r=.bool true:=by
 refine jA lp ln lc at_ rJ V _ fun V1 l1=>(uO hc).mono ?_
 rintro r V2 l2 ⟨bk1,rfl,hfr,hb⟩
 refine ⟨bk1,_,_,_,_,rfl,hfr,hb,fun V3 l3 E6 e4 h4=>?_⟩
 have cZ:V1.Le V3:=Bb l2 hfr l3
 have hmin:min ln 400<=400:=Nat.min_le_right _ _
 have hr:Cb V lp (min ln 400):=fun i hi=>hr i (Nat.lt_of_lt_of_le hi (Nat.min_le_left _ _))
 generalize min ln 400=n at *
 have K3:V.Le V3:=l1.trans cZ
 refine (Eg 4 (V:=V3.aH [E6]) (by omega) (hr.le fun b o h=>K3 b o h) hmin e4 ⟨by simp,h4⟩ (Int.le_refl 0)).mono ?_
 rintro r V4 l4 ⟨qa,ta,uj,rfl,IQ,EA,hsa,t1,hw1⟩
 have xp:V.Le V4:=fun b o h=>l4 b o (K3 b o h)
 refine ⟨_,rfl,_,_,_,_,hw1,fun V5 l5=>(iK (RW.le (V:=V4) (V':=V5) (fun b o h=>l5 b o h) IQ) EA (by omega)).mono ?_⟩
 rintro r V6 l6 ⟨hA,hz⟩
 have HH:=hA
 obtain ⟨pa,na,ca,rfl,-⟩:=hA
 have zv:V.Le V6:=fun b o h=>l6 b o (l5 b o (xp b o h))
 have IJ:=aW ta 0
 refine ⟨_,_,_,_,rfl,fun V7 l7=>(wP (HH.le l7) (by omega) (by have:=BT 0 ta;omega) (fun d hd=>by have:=ui ta 0 d hd;omega) (fun h=>hz (by rw [←IJ,h];rfl)) rJ).mono ?_⟩
 rintro r V8 l8 ⟨bm,vs,s1,s2,root,rfl,s3,s4⟩
 rw [IJ] at s3 s4
 rw [IJ]
 have MY:V.Le (V8.shut.bh (vs≠[]) bm):=kH (V':=V7) ((zv.trans l7).trans l8) (zv.trans l7) fun h=>.inl (s2 h)
 obtain ⟨rs,hrl,hrow⟩:=C_ s4
 have fin:∀{V9 V':View} {ws:List Value} {us:List Rn} {bk:Nat} {x:Int} {b:Value} ,us.length=ta.size->Row 8 sJ (V8.bh (vs≠[]) bm) ws us->(V8.shut.bh (vs≠[]) bm).Le V9->(ws≠[]->V9.bf bk (.cells ws.toArray 76 (0,0))) ->
   ab prog 8 #[.agg #[.int .i64 x,.slice (mA bk ta.size) ta.size ta.size]] V9 fun r V'=>r=.bool true:=by
  intro V9 _ ws us bk x _ hu hw l9 Iz
  have MT:Row 8 sJ V9 ws us:=hw.le fun _ _ g=>sJ.le g fun b o h=>l9 b o h
  have hL:=wD.C1 (c:=ta.size) Iz MT (by decide) (by omega)
  rw [hu] at hL
  exact kt (hs.le (MY.trans l9)) hL (Nat.le_refl _) fun h=>by
   unfold mA at h
   split at h
   ·assumption
   ·cases h
 refine ⟨bm,vs,s1,fun h=>.inl (s2 h),root,none,_,_,rfl,fun h=>?_,fun _ ry fu bk Iy=>?_⟩
 ·have hpos:0<ta.size:=by have:=of_decide_eq_true h;omega
  obtain ⟨k,ek,hk⟩:=EF hpos (by omega) at_
  rw [ek,Int.toNat_natCast]
  refine ⟨by omega,by omega,⟨by omega,by omega⟩,Nat.le_refl _,by omega,by omega,fun _=>⟨by omega,by omega,fun V9 l9 bk Iz=>?_⟩,fun _=>⟨fun _=>⟨by omega,by omega,fun mg cX bk Iw=>?_⟩,fun _=>⟨by omega,fun mh eC bk Ix=>?_⟩⟩⟩
  ·obtain ⟨us,u1,u2⟩:=yH hrow (k:=k) (m:=6) (by omega) (.inl rfl) (rJ.tmod 10)
   refine (fin (V':=V9) (b:=.nilIface) (u1.trans hrl) u2 l9 Iz).mono ?_
   rintro r iC l10 rfl
   exact ⟨_,rfl,fun _ mf cB=>rfl⟩
  ·obtain ⟨us,u1,u2⟩:=yH hrow (k:=k) (m:=7) (by omega) (.inr rfl) (rJ.tmod 10)
   refine (fin (V':=mg) (b:=.nilIface) (u1.trans hrl) u2 cX Iw).mono ?_
   rintro r nW cZ rfl
   exact ⟨_,rfl,fun _ mU dL=>rfl⟩
  ·refine (fin (V':=mh) (b:=.nilIface) hrl hrow eC Ix).mono ?_
   rintro r nX dM rfl
   exact ⟨_,rfl,fun _ nJ dR=>rfl⟩
 ·refine (fin (V':=ry) (b:=.nilIface) hrl hrow fu Iy).mono ?_
  rintro r wE gG rfl
  exact ⟨_,rfl,fun _ Al lj=>rfl⟩
end Go.Proofs.Tryz
