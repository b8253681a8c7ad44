import Derived.Test.YtnnbfoejafcdlaaGreatDoorH17
import Derived.Test.YtnnbfoejafcdlaaGreatDoorH16
import Derived.Test.YtnnbfoejafcdlaaGreatDoorH8
import Derived.Test.YtnnbfoejafcdlaaGreatDoorH15
import Derived.Test.YtnnbfoejafcdlaaGreatDoorH5
import Derived.Test.YtnnbfoejafcdlaaGreatDoorH14
set_option linter.unusedVariables false
open Go.IntKind (i64 u64 u32)
namespace Go.Proofs.Tryz
open Go.bE Go.dP
theorem xF {V:View}{lp:OA}{ln lc:Nat}{ls:List L3}{pv vv:Value}{p v:Rat×Rat}(h:cB 6 fE V lp ln ls)(hb:∀l∈ls,Bd l)(hl:ls.length<=1000)(hp:RP V pv p.1 p.2)(hv:RP V vv v.1 v.2)(s1:Sz 60000000 p.1)(s2:Sz 60000000 p.2)(s3:Sz 6000 v.1)(s4:Sz 6000 v.2) :
  ab prog 118 #[.slice lp ln lc,pv,vv] V fun r V'=>RP V' r (p.1+ls.foldl (aq.Bi p v) 1*v.1) (p.2+ls.foldl (aq.Bi p v) 1*v.2)/\Sz 500000000 (p.1+ls.foldl (aq.Bi p v) 1*v.1)/\Sz 500000000 (p.2+ls.foldl (aq.Bi p v) 1*v.2):=by
 have hn:=h.len
 subst hn
 have hp0:=hp
 have hv0:=hv
 obtain ⟨_,_,_,_,_,_,_,_,_,_,_,_,rfl,-⟩:=hp
 obtain ⟨_,_,_,_,_,_,_,_,_,_,_,_,rfl,-⟩:=hv
 refine yG lp ls.length lc _ _ _ _ _ _ _ _ _ _ _ _ _ _ _ _ _ _ _ _ _ _ _ _ _ _ _ _ V _ fun V1 l1=>(fN 1 (by omega) (by omega)).mono ?_
 rintro r V2 l2 g
 have g0:=g
 obtain ⟨_,_,_,_,_,_,rfl⟩:=g.shape
 have JQ:=l1.trans l2
 refine ⟨_,_,_,_,_,_,_,rfl,fun z V'=>∃i:Nat,z.1=(i:Int)/\i<=ls.length/\RQ V' (.agg #[.bool z.2.1,.slice z.2.2.1 z.2.2.2.1 z.2.2.2.2.1,.slice z.2.2.2.2.2.1 z.2.2.2.2.2.2.1 z.2.2.2.2.2.2.2]) ((ls.take i).foldl (aq.Bi p v) 1)/\Sz 400000000 ((ls.take i).foldl (aq.Bi p v) 1),fun z=>(ls.length-z.1).toNat,⟨(0,_,_,_,_,_,_,_),by and_intros<;>first|rfl|trivial,0,rfl,Nat.zero_le _,g0,uc.mono (by omega)⟩,?_⟩
 rintro ⟨z,zb,zp,zn,zc,zq,zm,ze⟩ V3 l3 ⟨i,e,hi,gs,ss⟩
 dsimp only at e gs ⊢
 subst e
 have C9:=JQ.trans l3
 refine ⟨by trivial,fun hlt=>?_,fun hlt SD H5=>?_⟩
 ·have hlt:i<ls.length:=by have:=of_decide_eq_true hlt;omega
  have w1:i64.wrap ((i:Int)+1)=((i+1:Nat):Int):=by rw [aB (by omega)];rfl
  rw [w1,Int.toNat_natCast]
  obtain ⟨is,b1,p1,n1,c1,b2,p2,n2,c2,b3,p3,n3,c3,a,had,a0,a1,a2,a3,a4,a5,hl1⟩:=pL (h.le C9 fun _ _ g=>fE.le g C9) hlt
  have bd:=hb _ (List.getElem_mem hlt)
  have sl:=bd.lA
  have et:=Kc (p:=p) (v:=v) hlt 1
  generalize ls[i]=A at *
  generalize (ls.take i).foldl (aq.Bi p v) 1=s at *
  have next:∀{W:View} {b:Bool} {q1 q2:OA} {m1 d1 m2 d2:Nat} {s':Rat},RQ W (.agg #[.bool b,.slice q1 m1 d1,.slice q2 m2 d2]) s'->Sz 400000000 s'->aq.Bi p v s A=s'->∃i':Nat,((i+1:Nat):Int)=(i':Int)/\i'<=ls.length/\RQ W (.agg #[.bool b,.slice q1 m1 d1,.slice q2 m2 d2]) ((ls.take i').foldl (aq.Bi p v) 1)/\Sz 400000000 ((ls.take i').foldl (aq.Bi p v) 1):=fun g1 g2 e=>⟨i+1,rfl,hlt,by rw [et,e];exact g1,by rw [et,e];exact g2⟩
  have t1:Sz 70000000 (p.1+((1:Int):Rat)*v.1):=(s1.add (uc.mul s3)).mono (by omega)
  have t2:Sz 70000000 (p.2+((1:Int):Rat)*v.2):=(s2.add (uc.mul s4)).mono (by omega)
  refine ⟨is,⟨by omega,by omega⟩,b1,p1,n1,c1,b2,p2,n2,c2,b3,p3,n3,c3,a,had,a0,a1,a2,a3,a4,a5,fun V4 l4=>(fN 1 (by omega) (by omega)).mono ?_⟩
  rintro r V5 l5 g
  have g0:=g
  obtain ⟨_,_,_,_,_,_,rfl⟩:=g.shape
  have H6:=l4.trans l5
  refine ⟨_,_,_,_,_,_,_,rfl,fun V6 l6=>(jq (hp0.le (C9.trans (H6.trans l6))) (g0.le l6) (hv0.le (C9.trans (H6.trans l6))) s1 s2 (uc.mono (by omega)) s3 s4 (by omega)).mono ?_⟩
  rintro r V7 l7 gq
  have On:=gq
  obtain ⟨_,_,_,_,_,_,_,_,_,_,_,_,rfl,-⟩:=gq
  have NA:=H6.trans (l6.trans l7)
  refine ⟨_,_,_,_,_,_,_,_,_,_,_,_,_,_,rfl,fun V8 l8=>(gM (k:=70000000) (hl1.le (NA.trans l8)) (On.le l8) (sl.1.mono (by omega)) (sl.2.1.mono (by omega)) (sl.2.2.mono (by omega)) t1 t2 (by omega)).mono ?_⟩
  rintro r V9 l9 gA
  have TM:RQ V9 r (ar A (p.1+((1:Int):Rat)*v.1) (p.2+((1:Int):Rat)*v.2)):=gA
  obtain ⟨_,_,_,_,_,_,rfl⟩:=gA.shape
  have Mi:=NA.trans (l8.trans l9)
  refine ⟨_,_,_,_,_,_,_,rfl,fun jG l10=>(gM (k:=70000000) (hl1.le (Mi.trans l10)) (hp0.le (C9.trans (Mi.trans l10))) (sl.1.mono (by omega)) (sl.2.1.mono (by omega)) (sl.2.2.mono (by omega)) (s1.mono (by omega)) (s2.mono (by omega)) (by omega)).mono ?_⟩
  rintro r jZ bI gB
  have TN:RQ jZ r (ar A p.1 p.2):=gB
  obtain ⟨_,_,_,_,_,_,rfl⟩:=gB.shape
  have zA:=R_ bd (p:=((p.1+((1:Int):Rat)*v.1),(p.2+((1:Int):Rat)*v.2))) t1 t2
  have zB:=R_ bd s1 s2
  have UT:=Mi.trans (l10.trans bI)
  refine ⟨_,_,_,_,_,_,_,rfl,fun mQ bV=>(gE (TM.le (l10.trans (bI.trans bV))) (TN.le bV) zA zB (by omega)).mono ?_⟩
  rintro r qv cC gc
  have ec:ar A (p.1+((1:Int):Rat)*v.1) (p.2+((1:Int):Rat)*v.2)-ar A p.1 p.2=aq.nv A v:=by
   have:=aq.gR A p v 1
   have e1:((1:Int):Rat)=1:=rfl
   rw [e1,this];grind
  have zc:=zA.sub zB
  dsimp only at zc
  rw [ec] at gc zc
  have PB:=gc
  obtain ⟨_,_,_,_,_,_,rfl⟩:=gc.shape
  have UU:=UT.trans (bV.trans cC)
  refine ⟨_,_,_,_,_,_,_,rfl,fun mS du=>(uJ (PB.le du)).mono ?_⟩
  rintro r lH dv rfl
  have Fl:=UU.trans (du.trans dv)
  refine ⟨_,rfl,fun c0=>⟨(((i+1:Nat):Int),_,_,_,_,_,_,_),by dsimp only;omega,by and_intros<;>first|rfl|trivial,next (gs.le Fl) ss ?_⟩,fun c0 lP cX=>(FF (x:=p.1) (y:=p.2) (hl1.le (Fl.trans cX)) (hp0.le (C9.trans (Fl.trans cX))) ⟨sl.1.mono (Nat.le_trans (by omega) (Nat.le_refl 60000000)),sl.2.1.mono (by omega),sl.2.2.mono (by omega)⟩ s1 s2 (by omega)).mono ?_⟩
  ·unfold aq.Bi;rw [if_pos (.inl (aq.fh.1 (beq_iff_eq.1 c0)))]
  have c0:aq.nv A v≠0:=fun e=>by rw [aq.fh.2 e] at c0;cases c0
  rintro r mT c_ rfl
  have Fm:=Fl.trans (cX.trans c_)
  refine ⟨_,rfl,fun v0=>⟨(((i+1:Nat):Int),_,_,_,_,_,_,_),by dsimp only;omega,by and_intros<;>first|rfl|trivial,next (gs.le Fm) ss ?_⟩,fun v0 qt cR=>(gM (k:=70000000) (hl1.le (Fm.trans cR)) (hp0.le (C9.trans (Fm.trans cR))) (sl.1.mono (by omega)) (sl.2.1.mono (by omega)) (sl.2.2.mono (by omega)) (s1.mono (by omega)) (s2.mono (by omega)) (by omega)).mono ?_⟩
  ·unfold aq.Bi;rw [if_pos (.inr (aq.fh.1 (beq_iff_eq.1 v0)))]
  have v0:ar A p.1 p.2≠0:=fun e=>by rw [aq.fh.2 e] at v0;cases v0
  have ns:¬(aq.nv A v=0\/ar A p.1 p.2=0):=fun h=>h.elim c0 v0
  rintro r rK dA gD
  have Zh:RQ rK r (ar A p.1 p.2):=gD
  obtain ⟨_,_,_,_,_,_,rfl⟩:=gD.shape
  refine ⟨_,_,_,_,_,_,_,rfl,fun yV fG=>(gC (Zh.le fG) (PB.le (du.trans (dv.trans (cX.trans (c_.trans (cR.trans (dA.trans fG))))))) (fun e=>c0 (Rat.num_eq_zero.1 e)) zB zc (by omega)).mono ?_⟩
  rintro r ui fv gt
  have gt0:=gt
  obtain ⟨_,_,_,_,_,_,rfl⟩:=gt.shape
  have zt:=(zB.mul (cY zc)).neg
  refine ⟨_,_,_,_,_,_,_,rfl,fun uj gF=>(ES (gt0.le gF)).mono ?_⟩
  rintro r xu gY go
  have go0:=go
  obtain ⟨_,_,_,_,_,_,rfl⟩:=go.shape
  have Da:=Fm.trans (cR.trans (dA.trans (fG.trans (fv.trans (gF.trans gY)))))
  refine ⟨_,_,_,_,_,_,_,rfl,fun Gp lN=>(uJ (go0.le lN)).mono ?_⟩
  rintro r Gq lQ rfl
  have QY:=Da.trans (lN.trans lQ)
  have eh:-(ar A p.1 p.2*(aq.nv A v)⁻¹)*((2:Int):Rat)⁻¹=-(ar A p.1 p.2*(aq.nv A v)⁻¹)*(1 / 2):=by rw [show (((2:Int):Rat))⁻¹=1 / 2 by decide +kernel]
  have zh:Sz 400000000 (-(ar A p.1 p.2*(aq.nv A v)⁻¹)*((2:Int):Rat)⁻¹):=(zt.mul (cY (X7 (z:=2) (by omega)))).mono (by omega)
  refine ⟨_,rfl,fun g1 IZ lE=>(nZ (go0.le (lN.trans (lQ.trans lE))) zt (by omega)).mono ?_,fun g1=>⟨(((i+1:Nat):Int),_,_,_,_,_,_,_),by dsimp only;omega,by and_intros<;>first|rfl|trivial,next (gs.le QY) ss ?_⟩⟩
  ·have g1:-(ar A p.1 p.2*(aq.nv A v)⁻¹)>0:=aq.mz.1 (of_decide_eq_true g1)
   rintro r Ng lO gh
   have Zl:=gh
   obtain ⟨_,_,_,_,_,_,rfl⟩:=gh.shape
   have QZ:=QY.trans (lE.trans lO)
   refine ⟨_,_,_,_,_,_,_,rfl,fun Nh tX=>(oZ (Zl.le tX) (gs.le (QZ.trans tX)) zh ss (by omega)).mono ?_⟩
   rintro r Px xS rfl
   refine ⟨_,rfl,fun g2 Lf xT=>(nZ (go0.le (lN.trans (lQ.trans (lE.trans (lO.trans (tX.trans (xS.trans xT))))))) zt (by omega)).mono ?_,fun g2=>⟨(((i+1:Nat):Int),_,_,_,_,_,_,_),by dsimp only;omega,by and_intros<;>first|rfl|trivial,next (gs.le (QZ.trans (tX.trans xS))) ss ?_⟩⟩
   ·have g2:=mX.1 (of_decide_eq_true g2)
    rintro r PV C_ gk
    have Zm:=gk
    obtain ⟨_,_,_,_,_,_,rfl⟩:=gk.shape
    refine ⟨_,_,_,_,_,_,_,rfl,(((i+1:Nat):Int),_,_,_,_,_,_,_),by dsimp only;omega,by and_intros<;>first|rfl|trivial,next Zm zh ?_⟩
    rw [eh] at g2 ⊢
    unfold aq.Bi;rw [if_neg ns,if_pos ⟨g1,g2⟩]
   ·have g2:¬_:=fun h=>of_decide_eq_false g2 (mX.2 h)
    rw [eh] at g2
    unfold aq.Bi;rw [if_neg ns,if_neg fun h=>g2 h.2]
  ·have g1:¬_:=fun h=>of_decide_eq_false g1 (aq.mz.2 h)
   unfold aq.Bi;rw [if_neg ns,if_neg fun h=>g1 h.1]
 ·have hlt:i=ls.length:=by have:=of_decide_eq_false hlt;omega
  subst hlt
  rw [List.take_length] at gs ss
  generalize ls.foldl (aq.Bi p v) 1=s at *
  refine (jq (hp0.le (C9.trans H5)) (gs.le H5) (hv0.le (C9.trans H5)) s1 s2 ss (s3.mono (by omega)) (s4.mono (by omega)) (by omega)).mono ?_
  rintro r PX zV gq
  have On:=gq
  obtain ⟨_,_,_,_,_,_,_,_,_,_,_,_,rfl,-⟩:=gq
  exact ⟨_,_,_,_,_,_,_,_,_,_,_,_,_,_,rfl,fun Tl Ll=>⟨On.le Ll,(s1.add (ss.mul s3)).mono (by omega),(s2.add (ss.mul s4)).mono (by omega)⟩⟩
def vr (c:List Sd)(p:Rat×Rat):Bool:=c.all fun s=>decide (0<=ar s.1 p.1 p.2)
def Mc (c:List Sd)(p:Rat×Rat):Bool:=c.all fun s=>decide (0<ar s.1 p.1 p.2)
theorem KL (q:Rat):q.num.sign<0↔¬0<=q:=by
 have:=@aq.DL q
 constructor
 ·intro h;have:=this.1 h;grind
 ·intro h;exact this.2 (by grind)
theorem KK (q:Rat):q.num.sign<=0↔¬0<q:=by
 have:=@aq.mz q
 constructor
 ·intro h h';have:=this.2 h';omega
 ·intro h;by_cases c:q.num.sign>0
  ·exact absurd (this.1 c) h
  ·omega
theorem EJ {V:View}{p:OA}{n c:Nat}{cs:List Sd}{pv:Value}{x:Rat×Rat}(h:cB 17 fX V p n cs)(hp:nG V pv x.1 x.2)(s1:Sz 1000000000 x.1)(s2:Sz 1000000000 x.2)(hn:cs.length<=100000) :
  ab prog 116 #[.slice p n c,pv] V fun r V'=>r=.bool (vr cs x):=by
 have hp0:=hp
 obtain rfl:=h.len
 obtain ⟨_,_,_,_,_,_,rfl,-,-⟩:=hp
 refine tq p _ c _ _ _ _ _ _ V _ ⟨fun z V'=>∃j:Nat,z=(j:Int)/\j<=cs.length/\vr (cs.take j) x=true,fun z=>cs.length-z.toNat,⟨0,by and_intros<;>rfl,0,rfl,Nat.zero_le _,rfl⟩,?_⟩
 rintro z1 V1 l1 ⟨j,rfl,GM,hall⟩
 refine ⟨rfl,fun hlt=>?_,fun hlt V4 l4=>?_⟩
 ·have hlt:(j:Int)<cs.length:=of_decide_eq_true hlt
  have hi:j<cs.length:=by omega
  have w:i64.wrap ((j:Int)+1)=((j+1:Nat):Int):=by rw [aB (by omega)];rfl
  rw [Int.toNat_natCast,w]
  obtain ⟨ps,a1,a2,a3,a4,a5,a6,a7,a8,a9,b1,b2,b3,b4,b5,b6,a,ha,k0,k1,k2,k3,k4,k5,k6,k7,k8,k9,k10,k11,k12,k13,k14,k15,k16,hr⟩:=iw (h.le l1 fun _ _ g=>fX.le g l1) hi
  obtain ⟨rl,-,-,-⟩:=hr.both
  refine ⟨ps,⟨by omega,by omega⟩,_,_,_,_,_,_,_,_,_,_,_,_,_,_,_,_,_,a,ha,k0,k1,k2,k3,k4,k5,k6,k7,k8,k9,k10,k11,k12,k13,k14,k15,k16,fun V2 l2=>(Fk (rl.le l2) (hp0.le (l1.trans l2)) (hr.2.1.lA.up (by omega)) s1 s2 (by omega)).mono ?_⟩
  rintro r V3 l3 rfl
  refine ⟨_,rfl,fun hc V4 l4=>?_,fun hc=>⟨((j+1:Nat):Int),by dsimp only;omega,by and_intros<;>rfl,j+1,rfl,hi,?_⟩⟩
  ·have hc:=(KL _).1 (of_decide_eq_true hc)
   have e:vr cs x=false:=by
    unfold vr
    rw [List.all_eq_false]
    exact ⟨_,List.getElem_mem hi,by simpa using hc⟩
   rw [e]
  ·have hc:¬_:=fun h=>of_decide_eq_false hc ((KL _).2 h)
   have hc:=Classical.not_not.1 hc
   unfold vr at hall ⊢
   rw [List.take_add_one,List.getElem?_eq_getElem hi,List.all_append,hall]
   simpa using hc
 ·have hlt:¬(j:Int)<cs.length:=of_decide_eq_false hlt
  obtain rfl:j=cs.length:=by omega
  rw [List.take_length] at hall
  rw [hall]
theorem xw {V:View}{p:OA}{n c:Nat}{cs:List Sd}{pv:Value}{x:Rat×Rat}(h:cB 17 fX V p n cs)(hp:nG V pv x.1 x.2)(s1:Sz 1000000000 x.1)(s2:Sz 1000000000 x.2)(hn:cs.length<=100000) :
  ab prog 117 #[.slice p n c,pv] V fun r V'=>r=.bool (Mc cs x):=by
 have hp0:=hp
 obtain rfl:=h.len
 obtain ⟨_,_,_,_,_,_,rfl,-,-⟩:=hp
 refine oI p _ c _ _ _ _ _ _ V _ ⟨fun z V'=>∃j:Nat,z=(j:Int)/\j<=cs.length/\Mc (cs.take j) x=true,fun z=>cs.length-z.toNat,⟨0,by and_intros<;>rfl,0,rfl,Nat.zero_le _,rfl⟩,?_⟩
 rintro z1 V1 l1 ⟨j,rfl,GM,hall⟩
 refine ⟨rfl,fun hlt=>?_,fun hlt V4 l4=>?_⟩
 ·have hlt:(j:Int)<cs.length:=of_decide_eq_true hlt
  have hi:j<cs.length:=by omega
  have w:i64.wrap ((j:Int)+1)=((j+1:Nat):Int):=by rw [aB (by omega)];rfl
  rw [Int.toNat_natCast,w]
  obtain ⟨ps,a1,a2,a3,a4,a5,a6,a7,a8,a9,b1,b2,b3,b4,b5,b6,a,ha,k0,k1,k2,k3,k4,k5,k6,k7,k8,k9,k10,k11,k12,k13,k14,k15,k16,hr⟩:=iw (h.le l1 fun _ _ g=>fX.le g l1) hi
  obtain ⟨rl,-,-,-⟩:=hr.both
  refine ⟨ps,⟨by omega,by omega⟩,_,_,_,_,_,_,_,_,_,_,_,_,_,_,_,_,_,a,ha,k0,k1,k2,k3,k4,k5,k6,k7,k8,k9,k10,k11,k12,k13,k14,k15,k16,fun V2 l2=>(Fk (rl.le l2) (hp0.le (l1.trans l2)) (hr.2.1.lA.up (by omega)) s1 s2 (by omega)).mono ?_⟩
  rintro r V3 l3 rfl
  refine ⟨_,rfl,fun hc V4 l4=>?_,fun hc=>⟨((j+1:Nat):Int),by dsimp only;omega,by and_intros<;>rfl,j+1,rfl,hi,?_⟩⟩
  ·have hc:=(KK _).1 (of_decide_eq_true hc)
   have e:Mc cs x=false:=by
    unfold Mc
    rw [List.all_eq_false]
    exact ⟨_,List.getElem_mem hi,by simpa using hc⟩
   rw [e]
  ·have hc:¬_:=fun h=>of_decide_eq_false hc ((KK _).2 h)
   have hc:=Classical.not_not.1 hc
   unfold Mc at hall ⊢
   rw [List.take_add_one,List.getElem?_eq_getElem hi,List.all_append,hall]
   simpa using hc
 ·have hlt:¬(j:Int)<cs.length:=of_decide_eq_false hlt
  obtain rfl:j=cs.length:=by omega
  rw [List.take_length] at hall
  rw [hall]
def HK (cs:List Sd)(x:Rat×Rat):Int:=if vr cs x=true then (if Mc cs x=true then 2 else 1) else 0
theorem lV {V:View}{p:OA}{n c:Nat}{ls:List L3}(h:cB 6 lG V p n ls)(hb:∀l∈ls,Bd l){pv:Value}{x:Rat×Rat}(hp:Hm V pv x)(s1:Sz 1000000000 x.1)(s2:Sz 1000000000 x.2){yi ye yu:Value}(E:Er V yi ye yu) :
  ab prog 50 #[.agg #[.slice p n c],pv] V fun r V'=>Ev ls (r=.tuple #[.int .i64 0,yi]) (r=.tuple #[.int .i64 0,.nilIface]) fun cs=>r=.tuple #[.int .i64 (HK cs x),.nilIface]:=by
 have hp0:=hp
 obtain ⟨⟨_,_,_,_,_,_,_,_,_,_,_,_,_,_,rfl⟩,-⟩:=hp
 refine te p n c _ _ _ _ _ _ _ _ _ _ _ _ _ _ V _ fun V1 l1=>(mU (h.le l1 fun _ _ g=>lG.le g l1) hb).mono ?_
 rintro r V2 l2 ⟨q,m,e,rfl,g⟩
 have L2:=l1.trans l2
 refine ⟨_,_,_,_,rfl,fun ho=>⟨yi,⟨_,rfl,(E.le L2).inv⟩,fun V3 l3=>.inl ⟨by simpa using ho,rfl⟩⟩,fun ho V4 l4=>?_⟩
 have ho:q_ ls=true:=by simpa using ho
 have hg:=g ho
 refine (kH (hg.le l4 fun _ _ g=>xo.le g l4) (gP ho).2 (by have:=(gP ho).1;omega)).mono ?_
 rintro r V5 l5 ⟨q',m',e',rfl,hn,hs⟩
 refine ⟨_,_,_,_,rfl,fun V6 l6=>(hp0.2 V6 (L2.trans (l4.trans (l5.trans l6)))).mono ?_⟩
 rintro r V7 l7 gp
 have Np:=gp
 obtain ⟨_,_,_,_,_,_,rfl,-,-⟩:=gp
 refine ⟨_,_,_,_,_,_,rfl,fun hf V8 l8=>?_,fun hf V9 l9=>?_⟩
 ·have hf:bw ls [] []=none:=by simpa using hf
  exact .inr (.inl ⟨ho,hf,rfl⟩)
 ·have hf:(bw ls [] []).isSome=true:=by simpa using hf
  obtain ⟨cs,hc⟩:=Option.isSome_iff_exists.1 hf
  obtain ⟨hL,-⟩:=hs cs hc
  have hl:=uS hc ho
  have SR:=l6.trans (l7.trans l9)
  refine (EJ (hL.le SR fun _ _ g=>fX.le g SR) (Np.le l9) s1 s2 hl).mono ?_
  rintro r jG l10 rfl
  refine ⟨_,rfl,fun h1 jZ bI=>?_,fun h1 mQ bV=>(xw (hL.le (SR.trans (l10.trans bV)) fun _ _ g=>fX.le g (SR.trans (l10.trans bV))) (Np.le (l9.trans (l10.trans bV))) s1 s2 hl).mono ?_⟩
  ·have h1:vr cs x=false:=by simpa using h1
   refine .inr (.inr ⟨ho,cs,hc,?_⟩)
   unfold HK
   dsimp only
   rw [if_neg (by rw [h1];exact Bool.false_ne_true)]
  ·have h1:vr cs x=true:=by simpa using h1
   rintro r qv cC rfl
   refine ⟨_,rfl,fun h2 mS du=>.inr (.inr ⟨ho,cs,hc,?_⟩),fun h2 lH dv=>.inr (.inr ⟨ho,cs,hc,?_⟩)⟩
   ·unfold HK
    dsimp only
    rw [if_pos h1,if_pos h2]
   ·unfold HK
    dsimp only
    rw [if_pos h1,if_neg (by rw [h2];exact Bool.false_ne_true)]
end Go.Proofs.Tryz
namespace Go.Proofs.Tryz
open Go.bE
set_option maxRecDepth 100000
end Go.Proofs.Tryz
namespace Go.Proofs.Tryz
open Go.bE Go.dP
def vy (ls:List L3):Bool:=decide (ls=[]\/∃l∈ls,(dL l ls bD).isSome=true)
theorem CX {ls:List L3}(hk:∀m∈ls,dO m=true):vy ls=true↔∃q,aq.pos ls q:=by
 unfold vy
 rw [decide_eq_true_eq,←H3 hk]
 refine or_congr Iff.rfl ⟨fun ⟨l,h1,h2⟩=>⟨l,h1,(tU (Bl (hk l h1))).1 h2⟩,fun ⟨l,h1,h2⟩=>⟨l,h1,(tU (Bl (hk l h1))).2 h2⟩⟩
theorem G_ (V:View):RP V (.agg #[.bool false,.slice none 0 0,.slice none 0 0,.bool false,.slice none 0 0,.slice none 0 0]) 0 0:=⟨_,_,_,_,_,_,_,_,_,_,_,_,rfl,SX _,SX _⟩
theorem nM {V:View}{cp:OA}{cn cc:Nat}{ls:List L3}(h:cB 6 fE V cp cn ls)(hb:∀l∈ls,Bd l)(hk:∀l∈ls,dO l=true)(hl:ls.length<=1000) :
  ab prog 51 #[.slice cp cn cc] V fun r V'=>∃u p,r=.tuple #[u,.bool (vy ls)]/\RP V' u (Prod.fst p) (Prod.snd p):=by
 have hn:=h.len
 subst hn
 refine wY cp ls.length cc V _ ⟨fun h0 V1 l1=>?_,fun h0=>⟨fun z _=>∃i:Nat,z=(i:Int)/\i<=ls.length/\∀(k:Nat)(g:k<ls.length),k<i->(dL ls[k] ls bD).isSome=false,fun z=>(ls.length-z).toNat,⟨0,by and_intros<;>rfl,0,rfl,Nat.zero_le _,fun k _ g=>absurd g (Nat.not_lt_zero k)⟩,?_⟩⟩
 ·have e:ls=[]:=List.length_eq_zero_iff.1 (by have:=of_decide_eq_true h0;omega)
  refine ⟨_,(0,0),?_,G_ V1⟩
  rw [show vy ls=true from decide_eq_true (.inl e)]
 have h0:ls.length≠0:=fun e=>by rw [e] at h0;cases h0
 rintro z V2 l2 ⟨i,rfl,hi,hf⟩
 refine ⟨by trivial,fun hlt=>?_,fun hlt lP cX=>?_⟩
 rotate_left
 ·have e:i=ls.length:=by have:=of_decide_eq_false hlt;omega
  subst e
  refine ⟨_,(0,0),?_,G_ lP⟩
  rw [show vy ls=false from decide_eq_false ?_]
  rintro (g|⟨l,g1,g2⟩)
  ·rw [g] at h0;exact h0 rfl
  ·obtain ⟨k,g3,rfl⟩:=List.mem_iff_getElem.1 g1
   rw [hf k g3 g3] at g2;cases g2
 have hlt:i<ls.length:=by have:=of_decide_eq_true hlt;omega
 have w1:i64.wrap ((i:Int)+1)=((i+1:Nat):Int):=by rw [aB (by omega)];rfl
 rw [w1,Int.toNat_natCast]
 have hL:∀{W:View},V.Le W->cB 6 fE W cp ls.length ls:=fun g=>h.le g fun _ _ k=>fE.le k g
 obtain ⟨is,b1,p1,n1,c1,b2,p2,n2,c2,b3,p3,n3,c3,a,had,a0,a1,a2,a3,a4,a5,hl1⟩:=pL (hL l2) hlt
 have bd:=hb _ (List.getElem_mem hlt)
 have ok:=hk _ (List.getElem_mem hlt)
 have hm:=List.getElem_mem hlt
 have sl:=bd.lA
 have nz:=Bl ok
 have hd:=i_ bd
 have Up:(dL ls[i] ls bD).isSome=false->∀(k:Nat)(g:k<ls.length),k<i+1->(dL ls[k] ls bD).isSome=false:=fun e k g hk'=>by
  by_cases e':k=i
  ·subst e';exact e
  ·exact hf k g (by omega)
 refine ⟨is,⟨by omega,by omega⟩,b1,p1,n1,c1,b2,p2,n2,c2,b3,p3,n3,c3,a,had,a0,a1,a2,a3,a4,a5,fun V3 l3=>(AO (hL (l2.trans l3)) hb hk hl hlt).mono ?_⟩
 generalize ls[i]=L at *
 rintro r V4 l4 ⟨u,s,rfl,gs,ss,-⟩
 have gs0:=gs
 obtain ⟨_,_,_,_,_,_,_,_,_,_,_,_,_,_,rfl⟩:=DJ gs
 have lN:=l3.trans l4
 refine ⟨_,_,_,_,_,_,_,_,_,_,_,_,_,_,_,_,_,rfl,fun hz V5 l5=>(fq (hl1.le (lN.trans l5)) sl.1 sl.2.1 sl.2.2 (by omega)).mono ?_,fun hz=>⟨((i+1:Nat):Int),by dsimp only;omega,by and_intros<;>rfl,i+1,rfl,hlt,Up hz⟩⟩
 rintro r V6 l6 gd
 have gd0:=gd
 obtain ⟨_,_,_,_,_,_,_,_,_,_,_,_,rfl,xj,hdy⟩:=gd
 have lE:=lN.trans (l5.trans l6)
 refine ⟨_,_,_,_,_,_,_,_,_,_,_,_,_,_,rfl,fun V7 l7=>(uO (gs0.le (l5.trans (l6.trans l7))) ss (by omega)).mono ?_⟩
 rintro r V8 l8 gq
 have On:=gq
 obtain ⟨_,_,_,_,_,_,rfl⟩:=gq.shape
 have sq:=Hh ss
 have tX:=lE.trans (l7.trans l8)
 refine ⟨_,_,_,_,_,_,_,rfl,fun V9 l9=>(VC (hl1.le (tX.trans l9)) (On.le l9) nz (sl.up (K:=200010) (by omega)) sq (by omega)).mono ?_⟩
 rintro r jG l10 ga
 have TR:=ga
 obtain ⟨_,_,_,_,_,_,_,_,_,_,_,_,rfl,-⟩:=ga
 have UR:=tX.trans (l9.trans l10)
 refine ⟨_,_,_,_,_,_,_,_,_,_,_,_,_,_,rfl,fun jZ bI=>(oa (hdy.le ((l7.trans l8).trans ((l9.trans l10).trans bI))) hd.2 (by omega)).mono ?_⟩
 rintro r mQ bV go
 have go0:=go
 obtain ⟨_,_,_,_,_,_,rfl⟩:=go.shape
 have US:=UR.trans (bI.trans bV)
 have sx:=(FO (sl.up (K:=200010) (by omega)) sq).mono (show _<=60000000 by omega)
 have sy:=(FP (sl.up (K:=200010) (by omega)) sq).mono (show _<=60000000 by omega)
 refine ⟨_,_,_,_,_,_,_,rfl,fun qv cC=>(xF (p:=(ij L s.cD,il L s.cD)) (v:=(-(-((L.1:Int):Rat)),((L.2.1:Int):Rat))) (hL (l2.trans (US.trans cC))) hb hl (TR.le (bI.trans (bV.trans cC))) ⟨_,_,_,_,_,_,_,_,_,_,_,_,rfl,go0.le cC,xj.le ((l7.trans l8).trans ((l9.trans l10).trans ((bI.trans bV).trans cC)))⟩ sx sy (Sz.mono hd.2.neg (by omega)) (Sz.mono hd.1 (by omega))).mono ?_⟩
 rintro r mS du ⟨gp,-,-⟩
 have Np:=gp
 obtain ⟨_,_,_,_,_,_,_,_,_,_,_,_,rfl,-⟩:=gp
 refine ⟨_,_,_,_,_,_,_,_,_,_,_,_,_,_,rfl,fun lH dv=>⟨_,(_,_),?_,Np.le dv⟩⟩
 rw [show vy ls=true from decide_eq_true (.inr ⟨L,hm,hz⟩)]
def AP (ls:List L3)(x:Rat×Rat):Int:=if vy ls=true then (if ∀l∈ls,0<=ar l x.1 x.2 then (if ∃l∈ls,ar l x.1 x.2=0 then 1 else 2) else 0) else 0
theorem MB {ls:List L3}(q:aq.V2):aq.pos ls q↔aq.pos ls.reverse q:=⟨fun h m hm=>h m (List.mem_reverse.1 hm),fun h m hm=>h m (List.mem_reverse.2 hm)⟩
theorem CZ {ls:List L3}(hk:∀m∈ls,dO m=true){c:List Sd}(e:bw ls [] []=some c):vy ls=true:=by
 obtain ⟨q,hq⟩:=((uR hk).1 c e).2.1.pos
 exact (CX hk).2 ⟨q,(MB q).2 hq⟩
theorem CY {ls:List L3}(hk:∀m∈ls,dO m=true)(e:bw ls [] []=none):vy ls=false:=by
 cases g:vy ls
 ·rfl
 ·exact absurd ((CX hk).1 g) ((uR hk).2 e).2.2
theorem LI {ls:List L3}(hk:∀m∈ls,dO m=true){c:List Sd}(e:bw ls [] []=some c)(x:Rat×Rat):AP ls x=HK c x:=by
 have hc:=((uR hk).1 c e).2.1
 have hr:∀m∈ls.reverse,dO m=true:=fun m hm=>hk m (List.mem_reverse.1 hm)
 obtain ⟨k1,k2⟩:=CB hc hr x
 have g1:vr c x=true↔∀m∈ls,0<=ar m x.1 x.2:=by
  unfold vr
  rw [List.all_eq_true]
  refine Iff.trans ⟨fun h s hs=>of_decide_eq_true (h s hs),fun h s hs=>decide_eq_true (h s hs)⟩ (k1.trans ⟨fun h m hm=>h m (List.mem_reverse.2 hm),fun h m hm=>h m (List.mem_reverse.1 hm)⟩)
 have g2:Mc c x=true↔∀m∈ls,0<ar m x.1 x.2:=by
  unfold Mc
  rw [List.all_eq_true]
  refine Iff.trans ⟨fun h s hs=>of_decide_eq_true (h s hs),fun h s hs=>decide_eq_true (h s hs)⟩ (k2.trans ⟨fun h m hm=>h m (List.mem_reverse.2 hm),fun h m hm=>h m (List.mem_reverse.1 hm)⟩)
 unfold AP HK
 rw [if_pos (CZ hk e)]
 by_cases c1:vr c x=true
 ·rw [if_pos c1,if_pos (g1.1 c1)]
  by_cases c2:Mc c x=true
  ·rw [if_pos c2,if_neg]
   rintro ⟨l,hl,h0⟩
   have:=g2.1 c2 l hl
   grind
  ·rw [if_neg c2,if_pos]
   refine Classical.byContradiction fun hn=>c2 (g2.2 fun m hm=>?_)
   have h1:=g1.1 c1 m hm
   have h2:ar m x.1 x.2≠0:=fun h=>hn ⟨m,hm,h⟩
   grind
 ·rw [if_neg c1,if_neg (fun h=>c1 (g1.2 h))]
theorem HL {ls:List L3}(hk:∀m∈ls,dO m=true)(e:bw ls [] []=none)(x:Rat×Rat):AP ls x=0:=by
 unfold AP;rw [CY hk e];rfl
theorem xJ {V:View}{cp:OA}{cn cc:Nat}{ls:List L3}(h:cB 6 fE V cp cn ls)(hb:∀l∈ls,Bd l)(hk:∀l∈ls,dO l=true)(hl:ls.length<=1000){pv:Value}{x:Rat×Rat}(hp:RP V pv x.1 x.2)(s1:Sz 1000000000 x.1)(s2:Sz 1000000000 x.2) :
  ab prog 33 #[.slice cp cn cc,pv] V fun r V'=>r=.int .i64 (AP ls x):=by
 have hn:=h.len
 subst hn
 have hp0:=hp
 obtain ⟨_,_,_,_,_,_,_,_,_,_,_,_,rfl,-⟩:=hp
 have hL:∀{W:View},V.Le W->cB 6 fE W cp ls.length ls:=fun g=>h.le g fun _ _ k=>fE.le k g
 refine wX cp ls.length cc _ _ _ _ _ _ _ _ _ _ _ _ _ _ V _ fun V1 l1=>(nM (hL l1) hb hk hl).mono ?_
 rintro r V2 l2 ⟨u,p,rfl,gu⟩
 obtain ⟨_,_,_,_,_,_,_,_,_,_,_,_,rfl,-⟩:=gu
 have JQ:=l1.trans l2
 refine ⟨_,_,_,_,_,_,_,_,_,_,_,_,_,_,_,rfl,fun hz V3 l3=>?_,fun hz=>⟨fun z _=>∃i:Nat,z.2=(i:Int)/\i<=ls.length/\(∀l∈ls.take i,0<=ar l x.1 x.2)/\z.1=if ∃l∈ls.take i,ar l x.1 x.2=0 then 1 else 2,fun z=>(ls.length-z.2).toNat,⟨(2,0),by and_intros<;>rfl,0,rfl,Nat.zero_le _,(fun l hl=>by rw [List.take_zero] at hl;cases hl),by rw [List.take_zero];rfl⟩,?_⟩⟩
 ·rw [Bool.not_eq_true'] at hz
  unfold AP
  rw [hz];rfl
 rw [Bool.not_eq_false'] at hz
 rintro ⟨o,z⟩ V4 l4 ⟨i,e,hi,hall,ho⟩
 dsimp only at e ho ⊢
 subst e
 have IU:=JQ.trans l4
 refine ⟨by trivial,fun hlt=>?_,fun hlt V8 l8=>?_⟩
 rotate_left
 ·have e:i=ls.length:=by have:=of_decide_eq_false hlt;omega
  subst e
  rw [List.take_length] at hall ho
  unfold AP
  rw [if_pos hz,if_pos hall,ho]
 have hlt:i<ls.length:=by have:=of_decide_eq_true hlt;omega
 have w1:i64.wrap ((i:Int)+1)=((i+1:Nat):Int):=by rw [aB (by omega)];rfl
 rw [w1,Int.toNat_natCast]
 obtain ⟨is,b1,p1,n1,c1,b2,p2,n2,c2,b3,p3,n3,c3,a,had,a0,a1,a2,a3,a4,a5,hl1⟩:=pL (hL IU) hlt
 have bd:=hb _ (List.getElem_mem hlt)
 have hm:=List.getElem_mem hlt
 have sl:=bd.lA
 have et:ls.take (i+1)=ls.take i++[ls[i]]:=(List.take_append_getElem hlt).symm
 generalize ls[i]=L at *
 refine ⟨is,⟨by omega,by omega⟩,b1,p1,n1,c1,b2,p2,n2,c2,b3,p3,n3,c3,a,had,a0,a1,a2,a3,a4,a5,fun V5 l5=>(FF (hl1.le l5) (hp0.le (IU.trans l5)) (sl.up (K:=1000000000) (by omega)) s1 s2 (by omega)).mono ?_⟩
 rintro r V6 l6 rfl
 have next:∀{o':Int},0<=ar L x.1 x.2->(o'=if ar L x.1 x.2=0 then 1 else o)->∃i':Nat,((i+1:Nat):Int)=(i':Int)/\i'<=ls.length/\(∀l∈ls.take i',0<=ar l x.1 x.2)/\o'=if ∃l∈ls.take i',ar l x.1 x.2=0 then 1 else 2:=fun {o'} g1 g2=>by
  refine ⟨i+1,rfl,hlt,fun l hl=>?_,?_⟩
  ·rw [et] at hl
   rcases List.mem_append.1 hl with h|h
   ·exact hall l h
   ·rw [List.mem_singleton.1 h];exact g1
  ·rw [g2,ho,et]
   by_cases c0:ar L x.1 x.2=0
   ·rw [if_pos c0,if_pos ⟨L,List.mem_append_right _ (List.mem_singleton.2 rfl),c0⟩]
   ·rw [if_neg c0]
    by_cases c1:∃l∈ls.take i,ar l x.1 x.2=0
    ·obtain ⟨l,h1,h2⟩:=c1
     rw [if_pos ⟨l,h1,h2⟩,if_pos ⟨l,List.mem_append_left _ h1,h2⟩]
    ·rw [if_neg c1,if_neg]
     rintro ⟨l,h1,h2⟩
     rcases List.mem_append.1 h1 with h|h
     ·exact c1 ⟨l,h,h2⟩
     ·rw [List.mem_singleton.1 h] at h2;exact c0 h2
 have sg:=lu (ar L x.1 x.2)
 refine ⟨_,rfl,fun hs V7 l7=>?_,fun hs=>⟨fun hs0=>⟨(1,((i+1:Nat):Int)),by dsimp only;omega,by and_intros<;>rfl,next ?_ ?_⟩,fun hs0=>⟨(o,((i+1:Nat):Int)),by dsimp only;omega,by and_intros<;>rfl,next ?_ ?_⟩⟩⟩
 ·have hs:(ar L x.1 x.2).num.sign=-1:=by simpa using hs
  have hneg:¬0<=ar L x.1 x.2:=by
   rcases sg with ⟨g,e⟩|⟨g,e⟩|⟨g,e⟩<;>first|(rw [e] at hs;omega)|grind
  unfold AP
  rw [if_pos hz,if_neg (fun h=>hneg (h L hm))]
 ·have hs0:(ar L x.1 x.2).num.sign=0:=by simpa using hs0
  rcases sg with ⟨g,e⟩|⟨g,e⟩|⟨g,e⟩<;>first|(rw [e] at hs0;omega)|grind
 ·have hs0:(ar L x.1 x.2).num.sign=0:=by simpa using hs0
  rw [if_pos]
  rcases sg with ⟨g,e⟩|⟨g,e⟩|⟨g,e⟩<;>first|(rw [e] at hs0;omega)|grind
 ·have hs:¬(ar L x.1 x.2).num.sign=-1:=by simpa using hs
  rcases sg with ⟨g,e⟩|⟨g,e⟩|⟨g,e⟩<;>first|(rw [e] at hs;omega)|grind
 ·have hs0:¬(ar L x.1 x.2).num.sign=0:=by simpa using hs0
  rw [if_neg]
  intro h0
  rw [h0] at hs0;exact hs0 rfl
set_option maxHeartbeats 1000000 in
theorem nA {V:View}{sp:OA}{sn sc:Nat}{rs:List Rl}(h:cB 6 Hq V sp sn rs)(hn:sn<=sc){pv:Value}{f:PW}(hp:Hr V pv f){yi ye yu:Value}(E:Er V yi ye yu) :
  ab prog 8 #[.agg #[.slice sp sn sc],pv] V fun r V'=>r=.bool true:=by
 have hl:=h.len
 have hp0:=hp
 obtain ⟨_,_,_,_,_,_,_,_,_,_,_,_,rfl,-⟩:=hp
 refine mM sp sn sc _ _ _ _ _ _ _ _ _ _ _ _ _ _ V _ ⟨fun _ V1 l1=>(eQ (E.le l1)).mono ?_,fun h6 V4 l4=>(Hz 3 (h.le l4 fun _ _ g=>Hq.le g l4) ?_).mono ?_⟩
 ·rintro r V2 l2 rfl
  exact ⟨_,rfl,fun V3 l3=>rfl⟩
 ·have:=of_decide_eq_false h6;omega
 have h6:rs.length<=6:=by have:=of_decide_eq_false h6;omega
 rintro r V5 l5 ⟨b,rfl,hsm⟩
 have L5:=l4.trans l5
 refine ⟨_,rfl,fun _ V6 l6=>(eQ (E.le (L5.trans l6))).mono ?_,fun hb V9 l9 bk hbk=>(Jg 3 hbk).mono ?_⟩
 ·rintro r V7 l7 rfl
  exact ⟨_,rfl,fun V8 l8=>rfl⟩
 rw [Bool.not_eq_false'] at hb
 have hsm:=hsm hb
 have L9:=L5.trans l9
 rintro r jG l10 ⟨b',rfl,hsp⟩
 have Lc:=L9.trans l10
 refine ⟨_,rfl,fun J=>⟨fun _ jZ bI=>(eQ (E.le (Lc.trans bI))).mono ?_,fun hb' mS du=>?_⟩⟩
 ·rintro r mQ bV rfl
  exact ⟨_,rfl,fun qv cC=>rfl⟩
 rw [Bool.not_eq_false'] at hb'
 obtain ⟨s1,s2,s3,s4⟩:=hsp hb'
 obtain ⟨k1,k2,k3,k4⟩:=hp0.lens
 have hsh:f.short:=⟨by omega,by omega,by omega,by omega⟩
 obtain ⟨hq0,hbd⟩:=Mo h (fun r hr=>by obtain ⟨a,b,c⟩:=hsm r hr;exact ⟨by omega,by omega,by omega⟩)
 have hls:(rs.map Rl.ln).length<=6:=by rw [List.length_map];exact h6
 generalize rs.map Rl.ln=ls at *
 have hq:∀{W:View},V.Le W->cB 6 lG W sp sn ls:=fun l=>hq0.le l fun _ _ g=>lG.le g l
 have Gm:=Lc.trans du
 obtain ⟨z1,z2⟩:=PW.sz hp0 hsh
 refine (AL (hq Gm) hbd (by omega)).mono ?_
 rintro r lH dv ⟨q,m,e,rfl,hR⟩
 have M8:=Gm.trans dv
 refine ⟨_,_,_,_,rfl,fun lP cX=>(uD (hq (M8.trans cX)) hbd (E.le (M8.trans cX))).mono ?_⟩
 rintro r mT c_ hE
 have IK:=M8.trans (cX.trans c_)
 cases hO:q_ ls with
 | false=>
  obtain rfl:=hE.bad hO
  refine ⟨_,_,rfl,fun qt cR=>(lV (hq (IK.trans cR)) hbd ((hp0.le (IK.trans cR)).WX hsh) (z1.mono (by omega)) (z2.mono (by omega)) (E.le (IK.trans cR))).mono ?_⟩
  rintro r rK dA hC
  obtain rfl:=hC.bad hO
  have PN:=IK.trans (cR.trans dA)
  refine ⟨_,_,rfl,fun _ yV fG=>(lU (hq (PN.trans fG)) hbd (E.le (PN.trans fG))).mono ?_,(fun hf=>by cases hf)⟩
  rintro r ui fv hA
  obtain rfl:=hA.bad hO
  have Td:=PN.trans (fG.trans fv)
  refine ⟨_,_,_,_,rfl,fun uj gF=>(nH (hq (Td.trans gF)) hbd (E.le (Td.trans gF))).mono ?_⟩
  rintro r xu gY hB
  obtain rfl:=hB.bad hO
  have PO:=Td.trans (gF.trans gY)
  refine ⟨_,_,_,_,_,_,_,_,rfl,fun Gp lN=>(eQ (E.le (PO.trans lN))).mono ?_⟩
  rintro r Gq lQ rfl
  have Wp:=PO.trans (lN.trans lQ)
  refine ⟨_,rfl,fun _ IZ lE=>(lW (hq (Wp.trans lE)) hbd).mono ?_,(fun hf=>by cases hf)⟩
  rintro r Ng lO rfl
  have Wq:=Wp.trans (lE.trans lO)
  rw [hO]
  refine ⟨_,rfl,fun _=>⟨_,⟨_,rfl,(E.le Wq).inv⟩,fun Nh tX=>(eo E.si).mono ?_⟩,(fun hf=>by cases hf)⟩
  rintro r Px xS rfl
  have Wr:=Wq.trans (tX.trans xS)
  refine ⟨_,rfl,fun _=>⟨_,⟨_,rfl,(E.le Wr).inv⟩,fun Lf xT=>(eo E.si).mono ?_⟩,(fun hf=>by cases hf)⟩
  rintro r PV C_ rfl
  have Ws:=Wr.trans (xT.trans C_)
  refine ⟨_,rfl,fun _=>⟨_,⟨_,rfl,(E.le Ws).inv⟩,fun SD H5=>(eo E.si).mono ?_⟩,(fun hf=>by cases hf)⟩
  rintro r PX zV rfl
  have Yu:=Ws.trans (H5.trans zV)
  refine ⟨_,rfl,fun _=>⟨_,⟨_,rfl,(E.le Yu).inv⟩,fun Tl Ll=>(eo E.si).mono ?_⟩,(fun hf=>by cases hf)⟩
  rintro r Wv H6 rfl
  exact ⟨_,rfl,fun _=>⟨fun _ Yy Q1=>rfl,(fun hf=>by cases hf)⟩,(fun hf=>by cases hf)⟩
 | true=>
  have hok:=(gP hO).2
  have hR:=hR hO
  have hE':r=.tuple #[.bool (!vy ls),.nilIface]:=by
   cases hcan:bw ls [] [] with
   | none=>rw [CY hok hcan];exact hE.SU hO hcan
   | some cs=>rw [CZ hok hcan];exact hE.some hO hcan
  subst hE'
  refine ⟨_,_,rfl,fun qt cR=>(lV (hq (IK.trans cR)) hbd ((hp0.le (IK.trans cR)).WX hsh) (z1.mono (by omega)) (z2.mono (by omega)) (E.le (IK.trans cR))).mono ?_⟩
  rintro r rK dA hC
  have hC':r=.tuple #[.int .i64 (AP ls f.pt),.nilIface]:=by
   cases hcan:bw ls [] [] with
   | none=>rw [HL hok hcan];exact hC.SU hO hcan
   | some cs=>rw [LI hok hcan];exact hC.some hO hcan
  subst hC'
  have Bb:=(cX.trans c_).trans (cR.trans dA)
  have PN:=M8.trans Bb
  refine ⟨_,_,rfl,(fun hf=>by cases hf),fun _ Yz OR=>(nM (hR.le (Bb.trans OR) fun _ _ g=>fE.le g (Bb.trans OR)) hbd hok (by omega)).mono ?_⟩
  rintro r YA OS ⟨u,pp,rfl,gu⟩
  obtain ⟨_,_,_,_,_,_,_,_,_,_,_,_,rfl,-⟩:=gu
  have Wt:=PN.trans (OR.trans OS)
  refine ⟨_,_,_,_,_,_,_,_,_,_,_,_,_,_,_,rfl,fun SE l46=>(eQ (E.le (Wt.trans l46))).mono ?_⟩
  rintro r Tn PJ rfl
  have Wu:=Wt.trans (l46.trans PJ)
  refine ⟨_,rfl,fun _ SF H7=>(lW (hq (Wu.trans H7)) hbd).mono ?_,(fun hf=>by cases hf)⟩
  rintro r To Q4 rfl
  have Yv:=Wu.trans (H7.trans Q4)
  rw [hO]
  refine ⟨_,rfl,fun _=>⟨ju.1,fun _=>⟨ju.1,fun _=>⟨fun _ Tp XS=>((hp0.le (Yv.trans XS)).pt hsh).mono ?_,(fun hf=>by simp at hf)⟩,(fun hf=>by cases hf)⟩,(fun hf=>by cases hf)⟩,(fun hf=>by cases hf)⟩
  rintro r Ww l51 gp
  have Np:=gp
  obtain ⟨_,_,_,_,_,_,_,_,_,_,_,_,rfl,-⟩:=gp
  have JS:=Bb.trans ((OR.trans OS).trans ((l46.trans PJ).trans ((H7.trans Q4).trans (XS.trans l51))))
  refine ⟨_,_,_,_,_,_,_,_,_,_,_,_,_,_,rfl,fun Tq UZ=>(xJ (hR.le (JS.trans UZ) fun _ _ g=>fE.le g (JS.trans UZ)) hbd hok (by omega) (Np.le UZ) (z1.mono (by omega)) (z2.mono (by omega))).mono ?_⟩
  rintro r Wx l53 rfl
  exact ⟨_,rfl,fun Ts l54=>by simp⟩
end Go.Proofs.Tryz
