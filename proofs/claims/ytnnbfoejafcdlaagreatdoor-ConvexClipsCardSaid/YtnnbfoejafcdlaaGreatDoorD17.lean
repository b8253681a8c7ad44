import Derived.Test.YtnnbfoejafcdlaaGreatDoorD16
import Derived.Test.YtnnbfoejafcdlaaGreatDoorD5
import Derived.Test.YtnnbfoejafcdlaaGreatDoorD9
import Derived.Test.YtnnbfoejafcdlaaGreatDoorD14
import Derived.Test.YtnnbfoejafcdlaaGreatDoorD7
import Derived.Test.YtnnbfoejafcdlaaGreatDoorD8
set_option linter.unusedVariables false
open Go.IntKind (i64 u64 u32)
namespace Go.Proofs.Tryz
open Go.bF Go.eK
theorem Mj {M:List L3}(h:∀l∈mF,l∈M)(v:ah.V2)(hv:∀m∈M,0<=ah.nv m v):v.1=0/\v.2=0:=by
 have h1:=hv _ (h (0,1,0) (by decide))
 have h2:=hv _ (h (-1,0,1) (by decide))
 have h3:=hv _ (h (0,-1,1) (by decide))
 have h4:=hv _ (h (1,0,0) (by decide))
 unfold ah.nv at h1 h2 h3 h4
 have e0:((0:Int):Rat)=0:=rfl
 have e1:((1:Int):Rat)=1:=rfl
 have e2:((-1:Int):Rat)=-1:=rfl
 simp only [e0,e1,e2] at h1 h2 h3 h4
 grind
theorem DQ {M:List L3}{c:List Sd}(h:dS M c)(hk:∀m∈M,cE m=true)(hs:∀l∈mF,l∈M):(∀s∈c,s.2.a=false/\s.2.b=false)/\c≠[]:=by
 refine ⟨CS h hk (Mj hs),fun e=>?_⟩
 obtain ⟨q,hq⟩:=h.pos
 obtain ⟨l,hl,es⟩:=ah.ED (C9 hk hq) (fun m hm=>nF (hk m hm)) hq (fun e=>by have:=hs _ (List.mem_cons_self ..);rw [e] at this;cases this)
 obtain ⟨v,hv⟩:=h.all l hl es
 rw [e] at hv
 cases hv
theorem oq (c:List Sd):ng c=true↔c≠[]/\∀s∈c,s.2.a=false/\s.2.b=false:=by
 unfold ng
 rw [Bool.and_eq_true,decide_eq_true_eq,List.all_eq_true]
 simp
theorem Ji {M M':List L3}{c c':List Sd}(h:dS M c)(hk:∀m∈M,cE m=true)(h':dS M' c')(hk':∀m∈M',cE m=true)(e:c.map Prod.fst=c'.map Prod.fst):ng c=ng c':=by
 have e1:=GO h hk
 have e2:=GO h' hk'
 rw [e] at e1
 rw [Bool.eq_iff_iff,oq,oq,e1,e2]
theorem DB {M:List L3}{c:List Sd}(h:dS M c)(hk:∀m∈M,cE m=true)(hs:∀l∈mF,l∈M):∃c2,bB (c.map Prod.fst) [] []=some c2/\ng c2=true/\tw (iR (c2.map Prod.fst))=(c.map gS).sum/\0<(c.map gS).sum:=by
 obtain ⟨c2,e1,e2,e3⟩:=C5 h hk
 obtain ⟨b1,b2⟩:=DQ h hk hs
 have Wy:=IB (uR h hk)
 refine ⟨c2,e1,?_,?_,Mr h hk b1 b2⟩
 ·rw [Ji e2 Wy h hk e3]
  exact (oq c).2 ⟨b2,b1⟩
 ·rw [e3]
  exact B8 h hk b1
def mK (o:Option (List Sd)):Rat:=match o with|some c=>(c.map gS).sum|none=>0
theorem L_ {M:List L3}{c:List Sd}(h:dS M c)(hk:∀m∈M,cE m=true){l:L3}(hl:cE l=true)(e:(bD c l aA).isSome=false){q:ah.V2}(hq:ah.pos M q):au l q.1 q.2≠0:=fun h0=>by
 rw [(jS h hk hl).2 ⟨q,h0,hq⟩] at e;cases e
theorem Fy {M:List L3}{c:List Sd}(h:dS M c)(hk:∀m∈M,cE m=true)(hs:∀l∈mF,l∈M){l:L3}(hl:cE l=true) :
  (bo c l).isSome=decide (0<=FZ c l)/\(bo c (bE l)).isSome=decide (FZ c l<=0)/\mK (bo c l)+mK (bo c (bE l))=(c.map gS).sum:=by
 obtain ⟨b1,b2⟩:=DQ h hk hs
 have hr:cE (bE l)=true:=uF hl
 have vr:∀q:ah.V2,au (bE l) q.1 q.2=-au l q.1 q.2:=fun q=>val_rev l q.1 q.2
 have same:(bD c l aA).isSome=(bD c (bE l) aA).isSome:=by
  rw [Bool.eq_iff_iff,jS h hk hl,jS h hk hr]
  constructor
  ·rintro ⟨x,hx,hp⟩;exact ⟨x,by rw [vr,hx];rfl,hp⟩
  ·rintro ⟨x,hx,hp⟩
   rw [vr] at hx
   exact ⟨x,by grind,hp⟩
 cases e:bD c l aA with
 | some v=>
  rw [e] at same
  obtain ⟨w,e'⟩:=Option.isSome_iff_exists.1 same.symm
  have p0:FZ c l=0:=by unfold FZ;rw [e];rfl
  rw [p0,ns e,ns e']
  exact ⟨rfl,rfl,Km h hk b1 b2 hl e e'⟩
 | none=>
  rw [e] at same
  have e':bD c (bE l) aA=none:=by
   cases e2:bD c (bE l) aA with
   | none=>rfl
   | some w=>rw [e2] at same;cases same
  have p0:FZ c l=cV c l:=by unfold FZ;rw [e];rfl
  have i1:(bD c l aA).isSome=false:=by rw [e];rfl
  have i2:(bD c (bE l) aA).isSome=false:=by rw [e'];rfl
  rw [p0,nr e,nr e']
  obtain ⟨f1,f2⟩:=BM h hk hl
  obtain ⟨g1,g2⟩:=BM h hk hr
  obtain ⟨q,hq⟩:=h.pos
  have qn:=L_ h hk hl i1 hq
  rcases f2 i1 with ⟨h1,q1,hq1,hp1⟩|⟨h1,hno⟩
  ·have h2:cV c (bE l)=-1:=by
    rcases g2 i2 with ⟨-,q2,hq2,hp2⟩|⟨h2,-⟩
    ·rw [vr] at hp2
     have:=f1.2 ⟨⟨q1,hq1,hp1⟩,q2,hq2,by grind⟩
     rw [i1] at this;cases this
    ·exact h2
   rw [h1,h2]
   exact ⟨rfl,rfl,by show (c.map gS).sum+0=_;rw [Rat.add_zero]⟩
  ·have h2:cV c (bE l)=1:=by
    rcases g2 i2 with ⟨h2,-⟩|⟨-,Q3⟩
    ·exact h2
    ·exfalso
     by_cases c0:0<au l q.1 q.2
     ·exact hno ⟨q,hq,c0⟩
     ·exact Q3 ⟨q,hq,by rw [vr];grind⟩
   rw [h1,h2]
   exact ⟨rfl,rfl,by show (0:Rat)+(c.map gS).sum=_;rw [Rat.zero_add]⟩
theorem Jq {M:List L3}{c c':List Sd}(h:dS M c)(hk:∀m∈M,cE m=true)(hs:∀l∈mF,l∈M){l:L3}(hl:cE l=true)(e:bo c l=some c'):dS (l::M) c'/\(∀m∈l::M,cE m=true)/\∀x∈mF,x∈l::M:=
 ⟨(zf h hk hl).1 c' e,List.forall_mem_cons.2 ⟨hl,hk⟩,fun x hx=>List.mem_cons_of_mem _ (hs x hx)⟩
end Go.Proofs.Tryz
namespace Go.Proofs.Tryz
open Go.bF
set_option maxRecDepth 100000
end Go.Proofs.Tryz
namespace Go.Proofs.Tryz
open Go.bF Go.eK
def zU (A B:Rat)(i:Nat):Rat:=if i=0 then 0 else if i=1 then A*((2:Int):Rat)⁻¹ else A*((2:Int):Rat)⁻¹+B*((2:Int):Rat)⁻¹
set_option maxHeartbeats 2000000 in
theorem mz {V:View}{lp:OA}{ln lc:Nat}(hr:Gn V lp ln)(hc:ln<=lc){yi ye yu:Value}(E:Er V yi ye yu) :
  ab prog 6 #[.slice lp ln lc] V fun r V'=>r=.bool true:=by
 refine lY lp ln lc V _ fun V1 l1=>(A0 hc).mono ?_
 rintro r V2 l2 ⟨tb,rfl,hfr,hb⟩
 have hrm:Gn V lp (min ln 400):=fun i hi=>hr i (by have:=Nat.min_le_left ln 400;omega)
 have KH:min ln 400<=400:=Nat.min_le_right ln 400
 generalize min ln 400=m at *
 refine ⟨tb,lp,m,lc,0,rfl,hfr,hb,fun V3 l3=>lj.mono ?_⟩
 have dL:V1.Le V3:=HL l2 hfr l3
 rintro r V4 l4 ⟨bm,n4,c4,vm,rfl,f1,f2,hg4⟩
 refine ⟨bm,vm,f1,fun h=>.inl (f2 h),none,n4,c4,rfl,fun V5 l5 Ql e7 h7=>?_⟩
 have Rn:V3.Le V5:=(oQ l4 fun h=>.inl (f2 h)).trans l5
 have MI:=l1.trans (dL.trans Rn)
 have hg5:GR 6 cF V5 n4 c4 vm mF:=hg4.mono fun _ _ g=>cF.le g fun b o h=>l5 b o h
 refine (Lg (V:=V5.bg [Ql]) (hrm.le fun b o h=>MI b o h) KH e7 ⟨by simp,h7⟩ (Int.le_refl 0)).mono ?_
 rintro r V6 l6 ⟨Gp,ls,q,n1,c1,t1,hw1,rfl,hL,hlen,hls⟩
 have Wo:V5.Le V6:=fun b o h=>l6 b o h
 have hL6:cP 6 cF V6.shut q n1 ls:=hL.le (V:=V6) (V':=V6.shut) (fun b o h=>h) fun _ _ g=>cF.le (V:=V6) (V':=V6.shut) g fun b o h=>h
 obtain ⟨xs,hsl,hxl,TT⟩:=FR hL6 (by decide)
 have hn1:=hL.len
 have Q1:=hg5.len
 have hx1:=IC TT hxl
 have h4:mF.length=4:=rfl
 refine ⟨_,_,_,rfl,lp,m,lc,Gp,hw1,xs,hsl,by omega,by omega,hg5.le,hg5.cap,by omega,hx1,fun sp c13 k1 k2 V7 l7 Qh QM=>?_⟩
 have T5:V5.Le V7:=fun b o h=>l7 b o (Wo b o h)
 have hk:∀l∈mF++ls,cE l=true:=fun l hl=>(List.mem_append.1 hl).elim (Mi l) fun h=>(hls l h).1
 have hbd:∀l∈mF++ls,Bd l:=fun l hl=>(List.mem_append.1 hl).elim (yv l) fun h=>(hls l h).2
 have hsub:∀l∈mF,l∈(mF++ls).reverse:=fun l hl=>List.mem_reverse.2 (List.mem_append_left _ hl)
 have VQ:(mF++ls).length<=11:=by rw [List.length_append];omega
 have hX:cP 6 cF V7 (mA Qh c13) (n4+n1) (mF++ls):=by
  have hR:=kE (sp:=sp) (hg5.row.le (V':=V7) fun _ _ g=>cF.le g T5) (TT.le (V':=V7) fun _ _ g=>cF.le (V:=V6.shut) g l7) (by decide)
  rw [←Q1] at hR
  have e:n4+n1=(mF++ls).length:=by rw [List.length_append];omega
  rw [e]
  exact cP.fE QM hR (by decide) (by omega)
 generalize mF++ls=X at *
 refine (mT hX (by omega) hbd).mono ?_
 rintro r V8 l8 ⟨q2,n2,c2,rfl,hW⟩
 have Wq:=T5.trans l8
 have L8:=MI.trans Wq
 have wq:∀{W:View},V8.Le W->cP 6 og W q2 n2 X:=fun l=>cP.q (hW.le l fun _ _ g=>cF.le g l)
 refine ⟨_,_,_,rfl,fun J V9 l9 Qi e17 Vt=>(Td (V:=V9.bg [Qi]) (hrm.le fun b o h=>l9 b o (L8 b o h)) KH e17 ⟨by simp,Vt⟩ t1).mono ?_⟩
 rintro r jm l10 ⟨l,at2,hl,ok,bd,t2,hw2⟩
 have hl0:cF jm r l:=hl
 obtain ⟨_,_,_,_,_,_,_,_,_,_,_,_,rfl⟩:=bA hl0
 have xX:V8.Le jm:=fun b o h=>l10 b o (l9 b o h)
 obtain ⟨d1,d2,d3⟩:=bd.ag
 refine ⟨_,_,_,_,_,_,_,_,_,_,_,_,rfl,lp,m,lc,at2,hw2,fun kR bW=>(iX (a:=l.1) (b:=l.2.1) (c:=l.2.2) (cF.le (V:=jm) (V':=kR) hl0 fun b o h=>bW b o h) (by omega) (by omega) (by omega)).mono ?_⟩
 rintro r nZ dh gm
 have Tv:cF nZ r l:=gm
 obtain ⟨_,_,_,_,_,_,_,_,_,_,_,_,rfl⟩:=bA Tv
 have Dm:jm.Le nZ:=fun b o h=>dh b o (bW b o h)
 have HI:=xX.trans Dm
 have oC:vP X=true:=H9 (by omega) hk
 refine ⟨_,_,_,_,_,_,_,_,_,_,_,_,rfl,fun sY FP=>(tF (wq (HI.trans FP)) hbd (Tv.le FP) bd ok (E.le (L8.trans (HI.trans FP)))).mono ?_⟩
 rintro r pF fk hP
 have Dn:=FP.trans fk
 have EJ:=HI.trans Dn
 have yE:=L8.trans EJ
 cases hcan:bB X [] [] with
 | none=>
  obtain rfl:=hP.RJ oC hcan
  obtain ⟨i1,i2⟩:=iq E.se
  refine ⟨_,_,rfl,i1,fun _ n_ eZ=>(mP (E.le (yE.trans eZ))).mono ?_,fun hf=>by rw [i2] at hf;cases hf⟩
  rintro r oa eF rfl
  refine ⟨_,rfl,fun _=>⟨ye,⟨_,rfl,(E.le (yE.trans (eZ.trans eF))).emp⟩,fun pH ew=>(pP E.se).mono ?_⟩,fun hf=>by cases hf⟩
  rintro r sE fo rfl
  exact ⟨_,rfl,fun xh fl=>rfl⟩
 | some cs=>
  obtain rfl:=hP.some oC hcan
  have Nn:=(oD dS.nil (fun m hm=>by cases hm) hk).1 cs hcan
  rw [List.append_nil] at Nn
  have PA:∀m∈X.reverse,cE m=true:=IB hk
  obtain ⟨U9,U_,Va⟩:=Fy Nn PA hsub ok
  obtain ⟨bb1,bb2⟩:=DQ Nn PA hsub
  have Qm:=(oq cs).2 ⟨bb2,bb1⟩
  have WR:=B8 Nn PA bb1
  have Qp:=me hcan
  rw [List.length_nil] at Qp
  have Im:∀{l':L3} {c':List Sd},cE l'=true->Bd l'->bo cs l'=some c'->(∃c2,bB (c'.map Prod.fst) [] []=some c2/\ng c2=true/\tw (iR (c2.map Prod.fst))=(c'.map gS).sum/\0<(c'.map gS).sum)/\vP (c'.map Prod.fst)=true/\∀y∈c'.map Prod.fst,Bd y:=fun {l' c'} ok' U2 e=>by
   obtain ⟨g1,g2,g3⟩:=Jq Nn PA hsub ok' e
   have:=mf e
   refine ⟨DB g1 g2 g3,H9 (by rw [List.length_map];omega) (uR g1 g2),fun y hy=>?_⟩
   obtain ⟨s,hs,rfl⟩:=List.mem_map.1 hy
   rcases List.mem_cons.1 (g1.mem s hs).1 with h|h
   ·rw [h];exact U2
   ·exact hbd _ (List.mem_reverse.1 h)
  refine ⟨_,_,rfl,dm.1,(fun hf=>by cases hf),fun _ xi gG=>(iX (a:=l.1) (b:=l.2.1) (c:=l.2.2) (cF.le (V:=jm) (V':=xi) hl0 (Dm.trans (Dn.trans gG))) (by omega) (by omega) (by omega)).mono ?_⟩
  rintro r vO kO gn
  have Tw:cF vO r l:=gn
  obtain ⟨_,_,_,_,_,_,_,_,_,_,_,_,rfl⟩:=bA Tw
  have Dp:=gG.trans kO
  refine ⟨_,_,_,_,_,_,_,_,_,_,_,_,rfl,fun CG je=>(mL (wq (EJ.trans (Dp.trans je))) hbd (by omega) (Tw.le je) bd ok (E.le (yE.trans (Dp.trans je)))).mono ?_⟩
  rintro r Jf Dr Nm
  obtain ⟨hA1,hA2⟩:=Nm.some oC hcan
  clear Nm
  have qf:=Dp.trans (je.trans Dr)
  have fA:∃(qa:OA)(na ca:Nat)(ya:Value),r=.tuple #[.agg #[.slice qa na ca],ya]/\IsIface ya/\aU ya=(bo cs l).isSome/\∀c',bo cs l=some c'->cP 6 cF Jf qa na (c'.map Prod.fst):=by
   cases e:bo cs l with
   | none=>exact ⟨none,0,0,ye,hA1 e,(iq E.se).1,(iq E.se).2,fun c' e=>by cases e⟩
   | some c'=>
    obtain ⟨q',m',e',e2,hL'⟩:=hA2 c' e
    exact ⟨q',m',e',.nilIface,e2,dm.1,dm.2,fun c2 e3=>by cases e3;exact hL'⟩
  obtain ⟨qa,na,ca,ya,rfl,ia,ja,Vv⟩:=fA
  clear hA1 hA2
  refine ⟨_,_,_,_,rfl,fun I9 sM=>(qQ (a:=l.1) (b:=l.2.1) (c:=l.2.2) (cF.le (V:=jm) (V':=I9) hl0 (Dm.trans (Dn.trans (qf.trans sM))))).mono ?_⟩
  rintro r Kw Aw gr
  have Nl:cF Kw r (bE l):=gr
  obtain ⟨_,_,_,_,_,_,_,_,_,_,_,_,rfl⟩:=bA Nl
  have Uc:=uF ok
  have Qd:=bd.rev
  obtain ⟨d1',XJ,XK⟩:=Qd.ag
  refine ⟨_,_,_,_,_,_,_,_,_,_,_,_,rfl,fun Mw mV=>(iX (a:=(bE l).1) (b:=(bE l).2.1) (c:=(bE l).2.2) (Nl.le mV) (by omega) (by omega) (by omega)).mono ?_⟩
  rintro r K7 Gv gt
  have gt0:cF K7 r (bE l):=gt
  obtain ⟨_,_,_,_,_,_,_,_,_,_,_,_,rfl⟩:=bA gt0
  have Ds:=sM.trans (Aw.trans (mV.trans Gv))
  refine ⟨_,_,_,_,_,_,_,_,_,_,_,_,rfl,fun Pr CI=>(mL (wq (EJ.trans (qf.trans (Ds.trans CI)))) hbd (by omega) (gt0.le CI) Qd Uc (E.le (yE.trans (qf.trans (Ds.trans CI))))).mono ?_⟩
  rintro r Kx Dt hB0
  obtain ⟨hB1,hB2⟩:=hB0.some oC hcan
  clear hB0
  have uk:=Ds.trans (CI.trans Dt)
  have fB:∃(qb:OA)(nb cb:Nat)(yb:Value),r=.tuple #[.agg #[.slice qb nb cb],yb]/\IsIface yb/\aU yb=(bo cs (bE l)).isSome/\∀c',bo cs (bE l)=some c'->cP 6 cF Kx qb nb (c'.map Prod.fst):=by
   cases e:bo cs (bE l) with
   | none=>exact ⟨none,0,0,ye,hB1 e,(iq E.se).1,(iq E.se).2,fun c' e=>by cases e⟩
   | some c'=>
    obtain ⟨q',m',e',e2,hL'⟩:=hB2 c' e
    exact ⟨q',m',e',.nilIface,e2,dm.1,dm.2,fun c2 e3=>by cases e3;exact hL'⟩
  obtain ⟨qb,nb,cb,yb,rfl,ib,jb,Vw⟩:=fB
  clear hB1 hB2
  refine ⟨_,_,_,_,rfl,fun SN KO=>(jn (wq (EJ.trans (qf.trans (uk.trans KO)))) hbd (E.le (yE.trans (qf.trans (uk.trans KO))))).mono ?_⟩
  rintro r Us TZ hS0
  obtain ⟨-,hS1⟩:=hS0.some oC hcan
  obtain ⟨wa,rfl,gA,sA⟩:=hS1 Qm
  clear hS0 hS1
  rw [WR] at gA sA
  have QB:=gA
  obtain ⟨_,_,_,_,_,_,_,rfl⟩:=gA.shape
  have HG:=KO.trans TZ
  have LP:=qf.trans (uk.trans HG)
  have tA:∀{c'},bo cs l=some c'->mK (bo cs l)=(c'.map gS).sum:=fun e=>by rw [e];rfl
  have tB:∀{c'},bo cs (bE l)=some c'->mK (bo cs (bE l))=(c'.map gS).sum:=fun e=>by rw [e];rfl
  have nA:bo cs l=none->mK (bo cs l)=0:=fun e=>by rw [e];rfl
  have nB:bo cs (bE l)=none->mK (bo cs (bE l))=0:=fun e=>by rw [e];rfl
  have Qq:∀{x:Rat},x=mK (bo cs l)->∀{y:Rat},y=mK (bo cs (bE l))->x*((2:Int):Rat)⁻¹+y*((2:Int):Rat)⁻¹=(cs.map gS).sum*((2:Int):Rat)⁻¹:=fun ex y ey=>by rw [ex,ey,←Va];grind
  generalize mK (bo cs l)=A at *
  generalize mK (bo cs (bE l))=B at *
  refine ⟨_,_,_,_,_,_,_,_,rfl,dm.1,(fun hf=>by cases hf),fun _=>⟨ia,(fun hf=>?_),fun _=>⟨ib,(fun hf=>?_),fun _=>?_⟩⟩⟩
  ·rw [ja,U9] at hf
   simp at hf
  ·rw [jb,U_] at hf
   simp at hf
  refine ⟨fun z V'=>∃i:Nat,z.1=(i:Int)/\i<=2/\RQ V' (.agg #[.bool z.2.1,.slice z.2.2.1 z.2.2.2.1 z.2.2.2.2.1,.slice z.2.2.2.2.2.1 z.2.2.2.2.2.2.1 z.2.2.2.2.2.2.2.1]) (zU A B i)/\Sz (20000000100*i+1) (zU A B i)/\z.2.2.2.2.2.2.2.2=[.slice qa na ca,.slice qb nb cb],fun z=>2-z.1.toNat,
   ⟨(0,false,none,0,0,none,0,0,_),by and_intros<;>rfl,0,rfl,by omega,RQ.zero,KW _ (by omega),rfl⟩,?_⟩
  rintro ⟨z1,zb,zp,zn,zc,zq,zm,zd,YL⟩ Xw MJ ⟨i,e1,hi,gs,ss,ez⟩
  dsimp only at e1 gs ez
  subst e1 ez
  have HD:=LP.trans MJ
  refine ⟨rfl,fun hlt=>?_,fun hlt P4 Rs=>(mP (E.le (yE.trans (HD.trans Rs)))).mono ?_⟩
  ·have hlt:(i:Int)<2:=of_decide_eq_true hlt
   have w:i64.wrap ((i:Int)+1)=((i+1:Nat):Int):=by rw [ay (by omega)];rfl
   dsimp only
   rw [w]
   have part:∃(qi:OA)(ni ci:Nat)(skip:Bool)(D:Rat),(0+((i:Int).toNat*1))+1<=([.slice qa na ca,.slice qb nb cb]:List Value).length/\(([.slice qa na ca,.slice qb nb cb]:List Value).drop (0+((i:Int).toNat*1))).take 1=[.slice qi ni ci]/\zU A B (i+1)=zU A B i+D*((2:Int):Rat)⁻¹ /\
     (skip=true->D=0)/\(skip=false->∃c':List Sd,cP 6 cF Kx qi ni (c'.map Prod.fst)/\D=(c'.map gS).sum/\(∃c2,bB (c'.map Prod.fst) [] []=some c2/\ng c2=true/\tw (iR (c2.map Prod.fst))=(c'.map gS).sum/\0<(c'.map gS).sum)/\vP (c'.map Prod.fst)=true/\∀y∈c'.map Prod.fst,Bd y) /\
     ((i=0->skip=!aU ya)/\(i=1->skip=!aU yb)):=by
    rcases (show i=0\/i=1 by omega) with rfl|rfl
    ·have es:zU A B (0+1)=zU A B 0+A*((2:Int):Rat)⁻¹:=by show A*((2:Int):Rat)⁻¹=0+A*((2:Int):Rat)⁻¹;rw [Rat.zero_add]
     refine ⟨qa,na,ca,!aU ya,A,by simp,rfl,es,fun h=>?_,fun h=>?_,fun _=>rfl,fun h=>by omega⟩
     ·rw [ja] at h;exact nA (by simpa using h)
     ·rw [ja] at h
      obtain ⟨c',e⟩:=Option.isSome_iff_exists.1 (show (bo cs l).isSome=true by simpa using h)
      exact ⟨c',(Vv c' e).le uk fun _ _ g=>cF.le g uk,tA e,Im ok bd e⟩
    ·have es:zU A B (1+1)=zU A B 1+B*((2:Int):Rat)⁻¹:=rfl
     refine ⟨qb,nb,cb,!aU yb,B,by simp,rfl,es,fun h=>?_,fun h=>?_,fun h=>by omega,fun _=>rfl⟩
     ·rw [jb] at h;exact nB (by simpa using h)
     ·rw [jb] at h
      obtain ⟨c',e⟩:=Option.isSome_iff_exists.1 (show (bo cs (bE l)).isSome=true by simpa using h)
      exact ⟨c',Vw c' e,tB e,Im Uc Qd e⟩
   obtain ⟨qi,ni,ci,skip,D,p1,p2,p3,p4,p5,p6,p7⟩:=part
   refine ⟨⟨by omega,by omega⟩,qi,ni,ci,⟨p1,p2⟩,fun z _=>z=skip,⟨fun h0=>⟨ia,fun hf=>⟨true,by and_intros<;>rfl,?_⟩,fun hf=>⟨fun h1=>?_,fun h1=>⟨false,by and_intros<;>rfl,?_⟩⟩⟩,fun h0=>⟨fun h1=>⟨ib,_,by and_intros<;>rfl,?_⟩,fun h1=>?_⟩⟩,?_⟩
   ·rw [p6 (by have:=beq_iff_eq.1 h0;omega),hf]
   ·have:=beq_iff_eq.1 h0
    have:=beq_iff_eq.1 h1
    omega
   ·rw [p6 (by have:=beq_iff_eq.1 h0;omega),hf]
   ·rw [p7 (by have:=beq_iff_eq.1 h1;omega)]
   ·have h0':¬(i:Int)=0:=by simpa using h0
    have h1':¬(i:Int)=1:=by simpa using h1
    omega
   rintro z Xx PD rfl
   refine ⟨rfl,fun hz=>⟨(((i+1:Nat):Int),zb,zp,zn,zc,zq,zm,zd,_),by dsimp only;omega,by and_intros<;>rfl,i+1,rfl,by omega,?_,?_,rfl⟩,fun hz Xy Ro=>?_⟩
   ·rw [p3,p4 hz,Rat.zero_mul,Rat.add_zero]
    exact gs.le PD
   ·rw [p3,p4 hz,Rat.zero_mul,Rat.add_zero]
    exact ss.mono (by omega)
   obtain ⟨c',Vx,eD,⟨c2,y1,y2,y3,y4⟩,y5,y6⟩:=p5 hz
   have HH:=HG.trans (MJ.trans (PD.trans Ro))
   refine (jn (cP.q (Vx.le HH fun _ _ g=>cF.le g HH)) y6 (E.le (yE.trans (HD.trans (PD.trans Ro))))).mono ?_
   rintro r Xz Wm hS0
   obtain ⟨-,hS1⟩:=hS0.some y5 y1
   obtain ⟨wb,rfl,gB,sB⟩:=hS1 y2
   clear hS0 hS1
   rw [y3,←eD] at gB sB
   have Ts:=gB
   obtain ⟨_,_,_,_,_,_,_,rfl⟩:=gB.shape
   refine ⟨_,_,_,_,_,_,_,_,rfl,dm.1,(fun hf=>by cases hf),fun _ XA Rp=>(yP (Ts.le Rp) sB (by omega)).mono ?_⟩
   rintro r XB T0 gq
   have Nk:=gq
   obtain ⟨_,_,_,_,_,_,rfl⟩:=gq.shape
   refine ⟨_,_,_,_,_,_,_,rfl,fun XC Rq=>(G1 (Nk.le Rq)).mono ?_⟩
   rintro r XD T1 rfl
   refine ⟨_,rfl,fun hf=>?_,fun _ P2 l46=>(yP (Ts.le (Rp.trans (T0.trans (Rq.trans (T1.trans l46))))) sB (by omega)).mono ?_⟩
   ·exfalso
    have:=of_decide_eq_true hf
    have hp:0<D*((2:Int):Rat)⁻¹:=by
     rw [show (((2:Int):Rat))⁻¹=1 / 2 by decide +kernel,eD]
     grind
    have:=ah.lJ.2 hp
    omega
   rintro r SO Rr Tx
   have QI:=Tx
   obtain ⟨_,_,_,_,_,_,rfl⟩:=Tx.shape
   have LU:=Ro.trans (Wm.trans (Rp.trans (T0.trans (Rq.trans (T1.trans (l46.trans Rr))))))
   refine ⟨_,_,_,_,_,_,_,rfl,fun P3 Jb=>(dj (gs.le (PD.trans (LU.trans Jb))) (QI.le Jb) ss sB (by omega)).mono ?_⟩
   rintro r SP XU gz
   have Vs:=gz
   obtain ⟨_,_,_,_,_,_,rfl⟩:=gz.shape
   refine ⟨_,_,_,_,_,_,_,rfl,(((i+1:Nat):Int),_,_,_,_,_,_,_,_),by dsimp only;omega,by and_intros<;>rfl,i+1,rfl,by omega,?_,?_,rfl⟩
   ·rw [p3];exact Vs
   ·rw [p3];exact (ss.add sB).mono (by omega)
  ·have hlt:¬(i:Int)<2:=of_decide_eq_false hlt
   obtain rfl:i=2:=by omega
   have e2:zU A B 2=(cs.map gS).sum*((2:Int):Rat)⁻¹:=Qq rfl rfl
   rw [e2] at gs ss
   rintro r SQ T2 rfl
   have LR:=MJ.trans (Rs.trans T2)
   refine ⟨_,rfl,fun _ P5 T3=>(yP (QB.le (LR.trans T3)) sA (by omega)).mono ?_,fun hf=>by cases hf⟩
   rintro r SR Wn gq
   have Nk:=gq
   obtain ⟨_,_,_,_,_,_,rfl⟩:=gq.shape
   refine ⟨_,_,_,_,_,_,_,rfl,fun P6 T4=>(sG (gs.le (Rs.trans (T2.trans (T3.trans (Wn.trans T4))))) (Nk.le T4) sA sA (by omega)).mono ?_⟩
   rintro r SS XV rfl
   refine ⟨_,rfl,fun P7 Wp=>?_⟩
   rw [show fJ ((cs.map gS).sum*((2:Int):Rat)⁻¹) ((cs.map gS).sum*((2:Int):Rat)⁻¹)=0 from gO.1 rfl]
   rfl
end Go.Proofs.Tryz
