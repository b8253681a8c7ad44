import Derived.Test.YtdhlkpfmlimjfaaGreatDoorN15
import Derived.Test.YtdhlkpfmlimjfaaGreatDoorN6
import Derived.Test.YtdhlkpfmlimjfaaGreatDoorN8
import Derived.Test.YtdhlkpfmlimjfaaGreatDoorN11
import Derived.Test.YtdhlkpfmlimjfaaGreatDoorN14
import Derived.Test.YtdhlkpfmlimjfaaGreatDoorN9
set_option linter.unusedVariables false
open Go.IntKind (i64 u64 u32)
namespace Go.Proofs.Tryz
open Go.Eng Go.Big
theorem KF {L M:L3}:((L.1:Rat)=(M.1:Rat)/\(L.2.1:Rat)=(M.2.1:Rat)/\(L.2.2:Rat)=(M.2.2:Rat))↔L=M:=by
 constructor
 ·rintro ⟨a,b,c⟩;exact Prod.ext (Rat.intCast_inj.1 a) (Prod.ext (Rat.intCast_inj.1 b) (Rat.intCast_inj.1 c))
 ·rintro rfl;exact ⟨rfl,rfl,rfl⟩
theorem Ae {V:View}{v w:Value}{L M:L3}(hl:RLi V v L)(hm:RLi V w M){k:Nat}(sl:jL k L)(sm:jL k M)(hk:k+k<1099511627776) :
  Acts prog 197 #[v,w] V fun r V'=>r=.bool (decide (L=M)):=by
 refine (Bx hl hm sl.1 sl.2.1 sl.2.2 sm.1 sm.2.1 sm.2.2 hk).mono ?_;rintro r V' l rfl;rw [decide_eq_decide.2 KF]
def Rq (u:Value):Prop:=∃(x1 x2:Int)(p:OA)(y1 y2:Int)(q:OA)(a b:Bool),u=.agg #[.int .i64 x1,.int .i64 x2,.pointer p,.int .i64 y1,.int .i64 y2,.pointer q,.bool a,.bool b]
theorem Gf {V:View}{v w:Value}{M:L3}{t:Sp}{L:L3}(h:LH V v M t)(hl:RLi V w L){k:Nat}(sm:jL k M)(st:t.sz k)(sl:jL k L)(hk:2*k+2<274877906944) :
  Acts prog 156 #[v,w] V fun r V'=>∃u,r=.tuple #[u,.bool (FG M L)]/\Rq u/\(FG M L=true->Bi V' u (GX M t L)):=by
 have a:=hl;obtain ⟨_,_,_,_,_,_,_,_,_,_,_,_,_,_,_,rfl,l,m⟩:=h;obtain ⟨_,_,_,_,_,_,_,_,_,rfl,-,-,-⟩:=hl;refine vN _ _ _ _ _ _ _ _ _ _ _ _ _ _ _ _ _ _ _ _ _ _ _ _ _ _ V _ fun D b=>(Ae (l.le b) (a.le b) sm sl (by omega)).mono ?_;rintro r V2 d rfl;refine ⟨_,rfl,fun he E q=>?_,fun he F n=>(k_Reverse (a.le (b.trans (d.trans n))) sl (by omega)).mono ?_⟩
 ·have he:=of_decide_eq_true he;have c:FG M L=true:=by unfold FG;simp [he]
  have e:GX M t L=t:=if_pos he;rw [c,e];exact ⟨_,rfl,⟨_,_,_,_,_,_,_,_,rfl⟩,fun _=>m.le (b.trans (d.trans q))⟩
 ·have he:=of_decide_eq_false he;rintro r G s g;have x:=g;obtain ⟨_,_,_,_,_,_,_,_,_,rfl,-,-,-⟩:=g;have o:=b.trans (d.trans (n.trans s));refine ⟨_,_,_,_,_,_,_,_,_,rfl,fun H f=>(Ae (l.le (o.trans f)) (x.le f) sm sl.rev (by omega)).mono ?_⟩;rintro r I y rfl;refine ⟨_,rfl,fun h' J z=>(HV (m.le (o.trans (f.trans (y.trans z)))) st (by omega)).mono ?_,fun h' A B=>?_⟩
  ·have c:FG M L=true:=by unfold FG;rw [h',Bool.or_true]
   have e:GX M t L=t.neg:=if_neg he;rw [c,e];rintro r K N p;have i:=p;obtain ⟨_,_,_,_,_,_,rfl,-,-⟩:=p;exact ⟨_,_,_,_,_,_,_,_,rfl,fun C j=>⟨_,rfl,⟨_,_,_,_,_,_,_,_,rfl⟩,fun _=>i.le j⟩⟩
  ·have c:FG M L=false:=by unfold FG;rw [h',decide_eq_false he];rfl
   rw [c];exact ⟨_,rfl,⟨_,_,_,_,_,_,_,_,rfl⟩,(fun h=>nomatch h)⟩
theorem Ra (V:View):RQ V (.agg #[.bool false,.slice none 0 0,.slice none 0 0]) 0:=by have:=RQ.zero (V:=V);simpa using this
theorem hZ {V:View}:Acts prog 75 #[] V fun r V'=>lf V' r ⟨0,0,true,true⟩:=
 xP V _ fun a b=>⟨_,_,_,_,_,_,_,_,_,_,_,_,_,_,rfl,Ra _,Ra _⟩
theorem CQ {V:View}{v:Value}{s:Sp}(h:lf V v s):∃b p n c p' n' c' d q m e q' m' e',v=.agg #[.bool b,.slice p n c,.slice p' n' c',.bool d,.slice q m e,.slice q' m' e',.bool s.a,.bool s.b]:=by
 obtain ⟨_,_,_,_,_,_,_,_,_,_,_,_,_,_,e,-⟩:=h;exact ⟨_,_,_,_,_,_,_,_,_,_,_,_,_,_,e⟩
end Go.Proofs.Tryz
namespace Go.Proofs.Tryz
open Go.Eng
set_option maxRecDepth 100000
end Go.Proofs.Tryz
namespace Go.Proofs.Tryz
open Go.Eng Go.Big
theorem jA {V:View}(z w:Int){p q:OA}{n c m e:Nat}(ha:RD V p n c (af z.natAbs))(hb:RD V q m e (af w.natAbs))(hm:(af z.natAbs).length<=1099511627776)(hn:(af w.natAbs).length<=1099511627776) :
  Acts prog 122 #[.agg #[.bool (decide (z<0)),.slice p n c],.agg #[.bool (decide (w<0)),.slice q m e]] V fun r V'=>r=.int .i64 (z-w).sign:=by
 refine vW _ p n c _ q m e V _ fun i a=>(gI w (hb.le a)).mono ?_;rintro r V2 d ⟨j,k,l,rfl,f⟩;refine ⟨_,_,_,_,rfl,fun o b=>(qk z (-w) (ha.le (a.trans (d.trans b))) (f.le b) hm (by rw [Int.natAbs_neg];exact hn)).mono ?_⟩;rintro r s t ⟨u,v,x,rfl,g⟩;refine ⟨_,_,_,_,rfl,fun y h=>(tZ _ (g.le h)).mono ?_⟩;rintro r A B rfl;exact ⟨_,rfl,fun C D=>by rw [Int.sub_eq_add_neg]⟩
def BJ (l m:L3):Int:=if (l.1-m.1).sign≠0 then (l.1-m.1).sign else if (l.2.1-m.2.1).sign≠0 then (l.2.1-m.2.1).sign else (l.2.2-m.2.2).sign
theorem Fg {l m:L3}:BJ l m=0↔l=m:=by
 have e:∀{a b:Int},(a-b).sign=0↔a=b:=fun {a b}=>by rw [Int.sign_eq_zero_iff_zero];omega
 unfold BJ;constructor
 ·intro h;by_cases c:(l.1-m.1).sign=0
  ·rw [if_neg (by simpa using c)] at h;by_cases d:(l.2.1-m.2.1).sign=0
   ·rw [if_neg (by simpa using d)] at h;exact Prod.ext (e.1 c) (Prod.ext (e.1 d) (e.1 h))
   ·rw [if_pos d] at h;exact absurd h d
  ·rw [if_pos c] at h;exact absurd h c
 ·rintro rfl;simp
theorem gK {V:View}{v w:Value}{l m:L3}(hl:RL V v l.1 l.2.1 l.2.2)(hm:RL V w m.1 m.2.1 m.2.2){k:Nat}(sl:jL k l)(sm:jL k m)(hk:k<=1099511627776) :
  Acts prog 74 #[v,w] V fun r V'=>r=.int .i64 (BJ l m):=by
 obtain ⟨d1,d2,d3⟩:=sl.af hk;obtain ⟨f,g,i⟩:=sm.af hk;obtain ⟨_,_,_,_,_,_,_,_,_,rfl,j,n,o⟩:=hl;obtain ⟨_,_,_,_,_,_,_,_,_,rfl,p,q,s⟩:=hm;refine A6 _ _ _ _ _ _ _ _ _ _ _ _ _ _ _ _ _ _ _ _ _ _ _ _ V _ fun t a=>(jA _ _ (j.le a) (p.le a) d1 f).mono ?_;rintro r V2 b rfl;unfold BJ;refine ⟨_,rfl,fun h u x=>?_,fun h y c=>(jA _ _ (n.le (a.trans (b.trans c))) (q.le (a.trans (b.trans c))) d2 g).mono ?_⟩
 ·rw [bne_iff_ne] at h;rw [if_pos h]
 ·rw [bne_eq_false_iff_eq] at h;rw [if_neg (by rw [h];decide)];rintro r z d rfl;refine ⟨_,rfl,fun h A B=>?_,fun h C e=>(jA _ _ (o.le (a.trans (b.trans (c.trans (d.trans e))))) (s.le (a.trans (b.trans (c.trans (d.trans e))))) d3 i).mono ?_⟩
  ·rw [bne_iff_ne] at h;rw [if_pos h]
  ·rw [bne_eq_false_iff_eq] at h;rw [if_neg (by rw [h];decide)];rintro r D E rfl;exact ⟨_,rfl,fun F G=>rfl⟩
theorem jS {l m:L3}:(BJ l m==(0:Int))=decide (l=m):=by
 by_cases h:l=m
 ·rw [decide_eq_true h,beq_iff_eq];exact Fg.2 h
 ·rw [decide_eq_false h,beq_eq_false_iff_ne];exact fun e=>h (Fg.1 e)
theorem oJ {V:View}{v w:Value}{l m:L3}(hl:RL V v l.1 l.2.1 l.2.2)(hm:RL V w m.1 m.2.1 m.2.2){k:Nat}(sl:jL k l)(sm:jL k m)(hk:k<=1099511627776) :
  Acts prog 76 #[v,w] V fun r V'=>r=.bool (FG l m):=by
 have a:=hl;have b:=hm;obtain ⟨_,_,_,_,_,_,_,_,_,_,_,_,rfl⟩:=vr hl;obtain ⟨_,_,_,_,_,_,_,_,_,_,_,_,rfl⟩:=vr hm;refine ot _ _ _ _ _ _ _ _ _ _ _ _ _ _ _ _ _ _ _ _ _ _ _ _ V _ fun n c=>(gK (a.le c) (b.le c) sl sm hk).mono ?_;rintro r V2 d rfl;unfold FG;refine ⟨_,rfl,fun h o p=>by rw [jS] at h;rw [h];rfl,fun h q e=>(c_ref04_Rev (b.le (c.trans (d.trans e)))).mono ?_⟩;rw [jS] at h;rintro r s i g;have j:=Qt g;obtain ⟨_,_,_,_,_,_,_,_,_,_,_,_,rfl⟩:=vr g;refine ⟨_,_,_,_,_,_,_,_,_,_,_,_,rfl,fun t f=>(gK (a.le (c.trans (d.trans (e.trans (i.trans f))))) (j.le f) sl sm.rev hk).mono ?_⟩;rintro r u x rfl;refine ⟨_,rfl,fun y z=>?_⟩;rw [jS,h,Bool.false_or]
def Hz (u:Value):Prop:=u=.agg #[.bool false,.slice none 0 0,.slice none 0 0,.bool false,.slice none 0 0,.slice none 0 0]
theorem Jz {V:View}{v w:Value}{l m:L3}(hl:RL V v l.1 l.2.1 l.2.2)(hm:RL V w m.1 m.2.1 m.2.2){k:Nat}(sl:jL k l)(sm:jL k m)(hk:20*k+20<274877906944) :
  Acts prog 48 #[v,w] V fun r V'=>∃u,r=.tuple #[u,.bool (decide (aV l m≠0))]/\(aV l m=0->Hz u)/\(aV l m≠0->RP V' u (NC l m) (ND l m)):=by
 have e0:((l.1:Int):Rat)*((m.2.1:Int):Rat)-((m.1:Int):Rat)*((l.2.1:Int):Rat)=aV l m:=by unfold aV;grind
 have e1:((l.2.1:Int):Rat)*((m.2.2:Int):Rat)-((m.2.1:Int):Rat)*((l.2.2:Int):Rat)=((l.2.1:Rat)*(m.2.2:Rat))-((l.2.2:Rat)*(m.2.1:Rat)):=by grind
 have e2:((m.1:Int):Rat)*((l.2.2:Int):Rat)-((l.1:Int):Rat)*((m.2.2:Int):Rat)=((l.2.2:Rat)*(m.1:Rat))-((l.1:Rat)*(m.2.2:Rat)):=by grind
 obtain ⟨a,b,i⟩:=sl;obtain ⟨j,n,o⟩:=sm;obtain ⟨_,_,_,_,_,_,_,_,_,rfl,a1,a2,a3⟩:=hl;obtain ⟨_,_,_,_,_,_,_,_,_,rfl,b1,b2,b3⟩:=hm;refine xK _ _ _ _ _ _ _ _ _ _ _ _ _ _ _ _ _ _ _ _ _ _ _ _ V _ fun V1 C=>(aR (a1.le C) a (by omega)).mono ?_;rintro r V2 R Vq;have R8:=Vq;obtain ⟨_,_,_,_,_,_,rfl⟩:=Vq.shape;refine ⟨_,_,_,_,_,_,_,rfl,fun V3 D=>(aR (b2.le (C.trans (R.trans (D)))) n (by omega)).mono ?_⟩;rintro r V4 S Vs;have R9:=Vs;obtain ⟨_,_,_,_,_,_,rfl⟩:=Vs.shape;refine ⟨_,_,_,_,_,_,_,rfl,fun V5 E=>(aG (R8.le (D.trans (S.trans (E)))) (R9.le E) a n (by omega)).mono ?_⟩;rintro r V6 l6 Vt;have R_:=Vt;obtain ⟨_,_,_,_,_,_,rfl⟩:=Vt.shape;refine ⟨_,_,_,_,_,_,_,rfl,fun V7 T=>(aR (b1.le (C.trans (R.trans (D.trans (S.trans (E.trans (l6.trans (T)))))))) j (by omega)).mono ?_⟩;rintro r V8 l8 Vu;have Sa:=Vu;obtain ⟨_,_,_,_,_,_,rfl⟩:=Vu.shape;refine ⟨_,_,_,_,_,_,_,rfl,fun V9 U=>(aR (a2.le (C.trans (R.trans (D.trans (S.trans (E.trans (l6.trans (T.trans (l8.trans (U)))))))))) b (by omega)).mono ?_⟩;rintro r a6 q Vv;have Sb:=Vv;obtain ⟨_,_,_,_,_,_,rfl⟩:=Vv.shape;refine ⟨_,_,_,_,_,_,_,rfl,fun a7 e=>(aG (Sa.le (U.trans (q.trans (e)))) (Sb.le e) j b (by omega)).mono ?_⟩;rintro r a8 F Vw;have Sc:=Vw;obtain ⟨_,_,_,_,_,_,rfl⟩:=Vw.shape;refine ⟨_,_,_,_,_,_,_,rfl,fun a9 s=>(iy (R_.le (T.trans (l8.trans (U.trans (q.trans (e.trans (F.trans (s)))))))) (Sc.le s) (a.mul n) (j.mul b) (by omega)).mono ?_⟩;rintro r b4 c_ Se;rw [e0] at Se;have p:=Se;obtain ⟨_,_,_,_,_,_,rfl,Sf,-⟩:=Se;have sD:Sz (4*k+3) (((l.1:Int):Rat)*((m.2.1:Int):Rat)-((m.1:Int):Rat)*((l.2.1:Int):Rat)):=Sz.mono ((a.mul n).sub (j.mul b)) (by omega);rw [e0] at sD;refine ⟨_,_,_,_,_,_,_,rfl,fun b5 dq=>(tg _ (Sf.le dq)).mono ?_⟩;rintro r ll du rfl;refine ⟨_,rfl,fun t ny cM=>?_,fun t=>?_⟩
 ·rw [beq_iff_eq,pI] at t;rw [t];exact ⟨_,rfl,fun _=>rfl,fun h=>absurd rfl h⟩
 ·rw [beq_eq_false_iff_ne,ne_eq,pI] at t;rw [decide_eq_true t];have G:¬(aV l m).num=0:=fun h=>t (Rat.num_eq_zero.1 h);intro ny cM;have H:V.Le ny:=(C.trans (R.trans (D.trans (S.trans (E.trans (l6.trans (T.trans (l8.trans (U.trans (q.trans (e.trans (F.trans (s.trans (c_.trans (dq.trans (du.trans (cM)))))))))))))))))
  replace p:=p.le (dq.trans (du.trans (cM)))
  refine (aR (a2.le H) b (by omega)).mono ?_;rintro r oD I VA;have Si:=VA;obtain ⟨_,_,_,_,_,_,rfl⟩:=VA.shape;refine ⟨_,_,_,_,_,_,_,rfl,fun rZ x=>(aR (b3.le (H.trans (I.trans (x)))) o (by omega)).mono ?_⟩;rintro r Bk J VB;have Sj:=VB;obtain ⟨_,_,_,_,_,_,rfl⟩:=VB.shape;refine ⟨_,_,_,_,_,_,_,rfl,fun r_ y=>(aG (Si.le (x.trans (J.trans (y)))) (Sj.le y) b o (by omega)).mono ?_⟩;rintro r wI W VC;have Sk:=VC;obtain ⟨_,_,_,_,_,_,rfl⟩:=VC.shape;refine ⟨_,_,_,_,_,_,_,rfl,fun xZ K=>(aR (b2.le (H.trans (I.trans (x.trans (J.trans (y.trans (W.trans (K)))))))) n (by omega)).mono ?_⟩;rintro r Kg X VD;have Sl:=VD;obtain ⟨_,_,_,_,_,_,rfl⟩:=VD.shape;refine ⟨_,_,_,_,_,_,_,rfl,fun HA c=>(aR (a3.le (H.trans (I.trans (x.trans (J.trans (y.trans (W.trans (K.trans (X.trans (c)))))))))) i (by omega)).mono ?_⟩;rintro r MH f VE;have Sm:=VE;obtain ⟨_,_,_,_,_,_,rfl⟩:=VE.shape;refine ⟨_,_,_,_,_,_,_,rfl,fun Ou d=>(aG (Sl.le (c.trans (f.trans (d)))) (Sm.le d) n i (by omega)).mono ?_⟩;rintro r Ov IL VF;have Sn:=VF;obtain ⟨_,_,_,_,_,_,rfl⟩:=VF.shape;refine ⟨_,_,_,_,_,_,_,rfl,fun Ru Y=>(iy (Sk.le (K.trans (X.trans (c.trans (f.trans (d.trans (IL.trans (Y)))))))) (Sn.le Y) (b.mul o) (n.mul i) (by omega)).mono ?_⟩;rintro r MI DE So;rw [e1] at So;have M6:=So;obtain ⟨_,_,_,_,_,_,rfl⟩:=So.shape;have sX:Sz (4*k+3) (((l.2.1:Rat)*(m.2.2:Rat))-((l.2.2:Rat)*(m.2.1:Rat))):=by rw [←e1];exact Sz.mono ((b.mul o).sub (n.mul i)) (by omega)
  have Z:V.Le MI:=(H.trans (I.trans (x.trans (J.trans (y.trans (W.trans (K.trans (X.trans (c.trans (f.trans (d.trans (IL.trans (Y.trans (DE))))))))))))))
  replace p:=p.le (I.trans (x.trans (J.trans (y.trans (W.trans (K.trans (X.trans (c.trans (f.trans (d.trans (IL.trans (Y.trans (DE)))))))))))))
  refine ⟨_,_,_,_,_,_,_,rfl,fun UK z=>(aR (b1.le (Z.trans z)) j (by omega)).mono ?_⟩;rintro r UL L VG;have Sq:=VG;obtain ⟨_,_,_,_,_,_,rfl⟩:=VG.shape;refine ⟨_,_,_,_,_,_,_,rfl,fun Rv A=>(aR (a3.le (Z.trans (z.trans (L.trans (A))))) i (by omega)).mono ?_⟩;rintro r WY M VH;have Sr:=VH;obtain ⟨_,_,_,_,_,_,rfl⟩:=VH.shape;refine ⟨_,_,_,_,_,_,_,rfl,fun WZ B=>(aG (Sq.le (A.trans (M.trans (B)))) (Sr.le B) j i (by omega)).mono ?_⟩;rintro r b6 Q5 VI;have Ss:=VI;obtain ⟨_,_,_,_,_,_,rfl⟩:=VI.shape;refine ⟨_,_,_,_,_,_,_,rfl,fun b7 N=>(aR (a1.le (Z.trans (z.trans (L.trans (A.trans (M.trans (B.trans (Q5.trans (N))))))))) a (by omega)).mono ?_⟩;rintro r b8 K1 VJ;have Su:=VJ;obtain ⟨_,_,_,_,_,_,rfl⟩:=VJ.shape;refine ⟨_,_,_,_,_,_,_,rfl,fun b9 O=>(aR (b3.le (Z.trans (z.trans (L.trans (A.trans (M.trans (B.trans (Q5.trans (N.trans (K1.trans (O))))))))))) o (by omega)).mono ?_⟩;rintro r c0 Q6 VK;have Sv:=VK;obtain ⟨_,_,_,_,_,_,rfl⟩:=VK.shape;refine ⟨_,_,_,_,_,_,_,rfl,fun c1 P=>(aG (Su.le (O.trans (Q6.trans (P)))) (Sv.le P) a o (by omega)).mono ?_⟩;rintro r c2 Tl VL;have Sw:=VL;obtain ⟨_,_,_,_,_,_,rfl⟩:=VL.shape;refine ⟨_,_,_,_,_,_,_,rfl,fun c3 Q7=>(iy (Ss.le (N.trans (K1.trans (O.trans (Q6.trans (P.trans (Tl.trans (Q7)))))))) (Sw.le Q7) (j.mul i) (a.mul o) (by omega)).mono ?_⟩;rintro r c4 Wl Sx;rw [e2] at Sx;have Sy:=Sx;obtain ⟨_,_,_,_,_,_,rfl⟩:=Sx.shape;have sY:Sz (4*k+3) (((l.2.2:Rat)*(m.1:Rat))-((l.1:Rat)*(m.2.2:Rat))):=by rw [←e2];exact Sz.mono ((j.mul i).sub (a.mul o)) (by omega)
  replace p:=p.le (z.trans (L.trans (A.trans (M.trans (B.trans (Q5.trans (N.trans (K1.trans (O.trans (Q6.trans (P.trans (Tl.trans (Q7.trans (Wl))))))))))))))
  replace M6:=M6.le (z.trans (L.trans (A.trans (M.trans (B.trans (Q5.trans (N.trans (K1.trans (O.trans (Q6.trans (P.trans (Tl.trans (Q7.trans (Wl))))))))))))))
  refine ⟨_,_,_,_,_,_,_,rfl,fun c5 g=>(iI (M6.le g) (p.le g) G sX sD (by omega)).mono ?_⟩;rintro r Rw Q gr;have a4:=gr;obtain ⟨_,_,_,_,_,_,rfl⟩:=gr.shape;refine ⟨_,_,_,_,_,_,_,rfl,fun UM PO=>(iI (Sy.le (g.trans (Q.trans (PO)))) (p.le (g.trans (Q.trans (PO)))) G sY sD (by omega)).mono ?_⟩;rintro r Rx Q8 gs;have a5:=gs;obtain ⟨_,_,_,_,_,_,rfl⟩:=gs.shape;exact ⟨_,_,_,_,_,_,_,rfl,fun UN Wm=>⟨_,rfl,fun h=>absurd h t,fun _=>⟨_,_,_,_,_,_,_,_,_,_,_,_,rfl,a4.le (PO.trans (Q8.trans (Wm))),a5.le Wm⟩⟩⟩
end Go.Proofs.Tryz
namespace Go.Proofs.Tryz
open Go.Big
section
variable {α:Type} {c:α->α->Int} {d:α}
variable {l0 l m:List α} {a0 b0 a b mid:Nat}
variable {P:α->Prop} {i j:Nat}
end
end Go.Proofs.Tryz
namespace Go.Proofs.Tryz
open Go.Eng Go.Big
structure GR {α:Type} (sz:Nat) (R:View->Value->α->Prop) (V:View) (n c:Nat) (vs:List Value) (l:List α):Prop where
 len:n=l.length
 le:n<=c
 cap:c*sz<=vs.length
 row:Row sz R V vs l
theorem GR.nil {α:Type}{sz:Nat}{R:View->Value->α->Prop}{V:View}:GR sz R V 0 0 [] []:=⟨rfl,Nat.le_refl _,by simp,Row.nil⟩
theorem GR.mono {α:Type}{sz:Nat}{R:View->Value->α->Prop}{V V':View}{n c:Nat}{vs:List Value}{l:List α}(h:GR sz R V n c vs l)(m:∀v a,R V v a->R V' v a):GR sz R V' n c vs l:=⟨h.len,h.le,h.cap,h.row.le m⟩
theorem GR.snoc {α:Type}{sz:Nat}{R:View->Value->α->Prop}{V:View}{n c:Nat}{vs:List Value}{l:List α}(h:GR sz R V n c vs l){xs:List Value}{a:α}(hx:xs.length=sz)(ha:R V (.agg xs.toArray) a)(h0:0<sz){sp:List Value}{c':Nat}(h1:n+1<=c')(h2:c'*sz<=(n+1)*sz+sp.length) :
  GR sz R V (n+1) c' (vs.take (n*sz)++xs++sp) (l++[a]):=by
 have b:=h.len;have e:=h.cap;have f:n*sz<=c*sz:=Nat.mul_le_mul_right _ h.le;refine ⟨by rw [List.length_append,b];rfl,h1,?_,?_⟩
 ·have d:(vs.take (n*sz)).length=n*sz:=by rw [List.length_take];omega
  rw [List.length_append,List.length_append,d,hx];rw [Nat.succ_mul] at h2;exact h2
 ·have:=h.row.snoc (sp:=sp) hx ha h0;rw [←b] at this;exact this
def lL (l:L3):L3:=if l.1<0\/l.1=0/\l.2.1<0 then revL l else l
def Tr.Tp:Tr->List L3
 | .leaf _=>[]
 | .node l a b=>l::(a.Tp++b.Tp)
theorem Bd.rev {l:L3}(h:Bd l):Bd (revL l):=by
 obtain ⟨a,b,c⟩:=h;unfold Bd revL;simp only [Int.natAbs_neg];exact ⟨a,b,c⟩
theorem Bd.szl {l:L3}(h:Bd l):jL 1000 l:=⟨h.sz.1,h.sz.2.1,h.sz.2.2⟩
def lnS:List Tr->List L3
 | []=>[]
 | t::r=>t.Tp.map lL++lnS r
end Go.Proofs.Tryz
namespace Go.Proofs.Tryz.Sec
open Go.Eng Go.Big
def nv (l:L3)(v:V2):Rat:=(l.1:Rat)*v.1+(l.2.1:Rat)*v.2
def dirL (l:L3):V2:=((l.2.1:Rat),-(l.1:Rat))
theorem I_ (l:L3)(v:V2):nv l v=cr (dirL l) v:=by unfold nv cr dirL;grind
theorem JM {q:Rat}:q.num.sign=-1↔q<0:=by
 rw [Int.sign_eq_neg_one_iff_neg,←Int.not_le,←Rat.not_le,Rat.num_nonneg]
theorem NZ {q:Rat}:q.num.sign=1↔q>0:=by
 have h:=@JM (-q);rw [Rat.neg_num,Int.sign_neg] at h;constructor
 ·intro e;have:=h.1 (by rw [e]);grind
 ·intro e;have:=h.2 (by grind);omega
theorem pH {q:Rat}:q.num.sign=0↔q=0:=by rw [Int.sign_eq_zero_iff_zero,Rat.num_eq_zero]
theorem fX (l:L3)(p v:V2)(s:Rat):aj l (p.1+s*v.1) (p.2+s*v.2)=aj l p.1 p.2+s*nv l v:=by unfold aj nv;grind
theorem inv_mul {c:Rat}(h:c≠0)(a:Rat):a*c⁻¹*c=a:=by rw [Rat.mul_assoc,Rat.inv_mul_cancel _ h,Rat.mul_one]
def half (u:V2):Int:=if u.2.num.sign>0\/u.2.num.sign=0/\u.1.num.sign>0 then 1 else if u.2.num.sign<0\/u.1.num.sign<0 then 2 else 0
def ang (u v:V2):Int:=if half u<half v then -1 else if half u>half v then 1 else -(cr u v).num.sign
theorem rR {q:Rat}:q.num.sign>0↔q>0:=by
 have:=Rat.num_nonneg (q:=-q);rw [Rat.neg_num] at this;rw [gt_iff_lt,Int.sign_pos_iff];have a:(0<=-q)↔¬q>0:=by constructor<;>intro h<;>grind
 rw [a] at this;by_cases h:q>0
 ·exact ⟨fun _=>h,fun _=>by
   have:¬0<=-q.num:=fun g=>this.1 g h;omega⟩
 ·exact ⟨fun g=>by have:=this.2 h;omega,fun g=>absurd g h⟩
theorem FU {q:Rat}:q.num.sign<0↔q<0:=by
 have:=@rR (-q);rw [Rat.neg_num,Int.sign_neg] at this;constructor
 ·intro h;have:=this.1 (by omega);grind
 ·intro h;have:=this.2 (by grind);omega
theorem cW (u:V2):half u=1/\up u\/half u=2/\dn u\/half u=0/\u.1=0/\u.2=0:=by
 unfold half up dn;split
 ·rename_i h;rw [rR,rR,pH] at h;exact .inl ⟨rfl,h⟩
 ·rename_i h;rw [rR,rR,pH] at h;split
  ·rename_i h';rw [FU,FU] at h';exact .inr (.inl ⟨rfl,by grind⟩)
  ·rename_i h';rw [FU,FU] at h';exact .inr (.inr ⟨rfl,by grind,by grind⟩)
theorem zz {u v:V2}:ang u v<0↔half u<half v\/half u=half v/\cr u v>0:=by
 have:=@rR (cr u v);unfold ang;by_cases a:half u<half v
 ·simp [a]
 ·by_cases b:half u>half v
  ·rw [if_neg a,if_pos b];omega
  ·rw [if_neg a,if_neg b];constructor
   ·intro h;exact .inr ⟨by omega,this.1 (by omega)⟩
   ·rintro (h|⟨h,h'⟩)
    ·omega
    ·have:=this.2 h';omega
theorem Bm {u v:V2}:ang u v=0↔half u=half v/\cr u v=0:=by
 have:=@pH (cr u v);unfold ang;by_cases a:half u<half v
 ·rw [if_pos a];constructor
  ·intro h;omega
  ·rintro ⟨h,_⟩;omega
 ·by_cases b:half u>half v
  ·rw [if_neg a,if_pos b];constructor
   ·intro h;omega
   ·rintro ⟨h,_⟩;omega
  ·rw [if_neg a,if_neg b];constructor
   ·intro h;exact ⟨by omega,this.1 (by omega)⟩
   ·rintro ⟨_,h⟩;have:=this.2 h;omega
theorem HD (u v:V2):ang u v<0\/ang u v=0\/ang v u<0:=by
 rw [zz,Bm,zz];have:=Fj u v;rcases Int.lt_trichotomy (half u) (half v) with h|h|h
 ·exact .inl (.inl h)
 ·by_cases p:cr u v>0
  ·exact .inl (.inr ⟨h,p⟩)
  ·by_cases q:cr u v=0
   ·exact .inr (.inl ⟨h,q⟩)
   ·exact .inr (.inr (.inr ⟨h.symm,by grind⟩))
 ·exact .inr (.inr (.inl h))
theorem zy (u v:V2)(h:ang u v<0):¬ang v u<0:=by
 rw [zz] at *;have:=Fj u v;rintro (h'|⟨h',a⟩)<;>rcases h with h|⟨h,g⟩
 ·omega
 ·omega
 ·omega
 ·grind
theorem KD {a b d:V2}(hab:half a=half b)(hbd:half b=half d)(h1:cr a b<=0)(h2:cr b d<=0):cr a d<=0:=by
 by_cases h:cr a d<=0
 ·exact h
 exfalso;have c:cr a d>0:=by grind
 have r:=Td a d b;have s:=Te a d b;rcases cW b with ⟨e,i⟩|⟨e,i⟩|⟨e,i⟩
 ·have g:up a:=by rcases cW a with ⟨f,h⟩|⟨f,h⟩|⟨f,h⟩<;>first|exact h|omega
  have j:up d:=by rcases cW d with ⟨f,h⟩|⟨f,h⟩|⟨f,h⟩<;>first|exact h|omega
  unfold up at g i j;have n:=mn (show -(cr a b)≥0 by grind) (show d.2≥0 by grind);have o:=mn (show -(cr b d)≥0 by grind) (show a.2≥0 by grind);have p:=mn (show cr a d≥0 by grind) (show b.2≥0 by grind);have k:cr a d*b.2=0:=by grind
  have l:b.2=0:=by rcases Rat.mul_eq_zero.1 k with h|h<;>grind
  have m:b.1>0:=by grind
  have d2:d.2=0:=by
   by_cases q:d.2>0
   ·have:=mp m q;unfold cr at h2;rw [l] at h2;grind
   ·grind
  have d1:d.1>0:=by grind
  have:=mn (show a.2≥0 by grind) (show d.1≥0 by grind);unfold cr at c;rw [d2] at c;grind
 ·have g:dn a:=by rcases cW a with ⟨f,h⟩|⟨f,h⟩|⟨f,h⟩<;>first|exact h|omega
  have j:dn d:=by rcases cW d with ⟨f,h⟩|⟨f,h⟩|⟨f,h⟩<;>first|exact h|omega
  unfold dn at g i j;have n:=mn (show -(cr a b)≥0 by grind) (show -d.2≥0 by grind);have o:=mn (show -(cr b d)≥0 by grind) (show -a.2≥0 by grind);have p:=mn (show cr a d≥0 by grind) (show -b.2≥0 by grind);have k:cr a d*b.2=0:=by grind
  have l:b.2=0:=by rcases Rat.mul_eq_zero.1 k with h|h<;>grind
  have m:-b.1>0:=by grind
  have d2:d.2=0:=by
   by_cases q:-d.2>0
   ·have:=mp m q;unfold cr at h2;rw [l] at h2;grind
   ·grind
  have d1:d.1<0:=by grind
  have:=mn (show -a.2≥0 by grind) (show -d.1≥0 by grind);unfold cr at c;rw [d2] at c;grind
 ·have g:a.1=0/\a.2=0:=by rcases cW a with ⟨f,h⟩|⟨f,h⟩|⟨f,h⟩<;>first|exact h|omega
  unfold cr at c;rw [g.1,g.2] at c;grind
theorem MN {u v:V2}:¬ang u v<0↔half v<half u\/half u=half v/\cr u v<=0:=by
 rw [zz];constructor
 ·intro h;rcases Int.lt_trichotomy (half u) (half v) with g|g|g
  ·exact absurd (.inl g) h
  ·exact .inr ⟨g,by by_cases p:cr u v>0;exact absurd (.inr ⟨g,p⟩) h;grind⟩
  ·exact .inl g
 ·rintro (h|⟨h,g⟩) (h'|⟨h',a⟩)
  ·omega
  ·omega
  ·omega
  ·grind
theorem MO (a b d:V2)(h:¬ang a b<0)(h':¬ang b d<0):¬ang a d<0:=by
 rw [MN] at *;rcases h with h|⟨h,g⟩<;>rcases h' with h'|⟨h',g'⟩
 ·exact .inl (by omega)
 ·exact .inl (by omega)
 ·exact .inl (by omega)
 ·exact .inr ⟨by omega,KD h h' g g'⟩
theorem HE {u v:V2}(hu:nz u)(h:ang u v=0):∃c:Rat,c>0/\u=(c*v.1,c*v.2):=by
 rw [Bm] at h;obtain ⟨e,c⟩:=h;have fin:∀k:Rat,k>0->u.1=k*v.1->u.2=k*v.2->∃c:Rat,c>0/\u=(c*v.1,c*v.2):=fun k a b g=>⟨k,a,Prod.ext b g⟩
 have pos:∀x y:Rat,y≠0->x*y>0->x*y⁻¹>0:=fun x y j h=>by
  have e:=inv_mul j x;generalize x*y⁻¹=t at *;have n:t*(y*y)=x*y:=by grind
  have:=sq_pos (u:=(y,0)) (.inl j);unfold dt at this;by_cases q:t>0
  ·exact q
  ·have:=mn (show -t≥0 by grind) (show y*y≥0 by grind);grind
 unfold cr at c
 have two:v.2≠0->u.2*v.2>0->∃c:Rat,c>0/\u=(c*v.1,c*v.2):=fun a b=>by
  refine fin (u.2*v.2⁻¹) (pos _ _ a b) ?_ (inv_mul a _).symm;have:=inv_mul a u.1;have:u.1*v.2*v.2⁻¹=u.2*v.1*v.2⁻¹:=by rw [show u.1*v.2=u.2*v.1 by grind]
  grind
 have one:v.1≠0->u.1*v.1>0->v.2=0->u.2=0->∃c:Rat,c>0/\u=(c*v.1,c*v.2):=fun a b g m=>
  fin (u.1*v.1⁻¹) (pos _ _ a b) (inv_mul a _).symm (by rw [g,m];grind)
 rcases cW u with ⟨l,h⟩|⟨l,h⟩|⟨l,h⟩
 ·have h':up v:=by rcases cW v with ⟨d,h⟩|⟨d,h⟩|⟨d,h⟩<;>first|exact h|omega
  unfold up at h h';by_cases q:v.2>0
  ·refine two (by grind) ?_;by_cases f:u.2>0
   ·exact mp f q
   ·have i:u.2=0:=by grind
    have:=mp (show u.1>0 by grind) q;rw [i] at c;grind
  ·have v2:v.2=0:=by grind
   have v1:v.1>0:=by grind
   by_cases f:u.2>0
   ·have:=mp f v1;rw [v2] at c;grind
   ·exact one (by grind) (mp (by grind) v1) v2 (by grind)
 ·have h':dn v:=by rcases cW v with ⟨d,h⟩|⟨d,h⟩|⟨d,h⟩<;>first|exact h|omega
  unfold dn at h h';by_cases q:v.2<0
  ·refine two (by grind) ?_;by_cases f:u.2<0
   ·have:=mp (show -u.2>0 by grind) (show -v.2>0 by grind);grind
   ·have i:u.2=0:=by grind
    have:=mp (show -u.1>0 by grind) (show -v.2>0 by grind);rw [i] at c;grind
  ·have v2:v.2=0:=by grind
   have v1:-v.1>0:=by grind
   by_cases f:u.2<0
   ·have:=mp (show -u.2>0 by grind) v1;rw [v2] at c;grind
   ·refine one (by grind) ?_ v2 (by grind);have:=mp (show -u.1>0 by grind) v1;grind
 ·unfold nz at hu;grind
section
variable {D:List V2} (h:QT D)
include h
end
theorem tq {a b c x y z:Int}(h1:a*y=b*x)(h2:a*z=c*x)(g:Nat.gcd (Nat.gcd x.natAbs y.natAbs) z.natAbs=1):x.natAbs∣a.natAbs:=by
 have d:a.natAbs*y.natAbs=b.natAbs*x.natAbs:=by rw [←Int.natAbs_mul,←Int.natAbs_mul,h1]
 have e:a.natAbs*z.natAbs=c.natAbs*x.natAbs:=by rw [←Int.natAbs_mul,←Int.natAbs_mul,h2]
 have d1:x.natAbs∣a.natAbs*Nat.gcd (Nat.gcd x.natAbs y.natAbs) z.natAbs:=by
  rw [←Nat.gcd_mul_left,←Nat.gcd_mul_left];exact Nat.dvd_gcd (Nat.dvd_gcd ⟨a.natAbs,by rw [Nat.mul_comm]⟩ ⟨b.natAbs,by rw [d,Nat.mul_comm]⟩) ⟨c.natAbs,by rw [e,Nat.mul_comm]⟩
 rwa [g,Nat.mul_one] at d1
theorem Hd {l m:L3}(ol:okL l=true)(om:okL m=true)(cl:lL l=l)(cm:lL m=m){x y:Rat}(hl:aj l x y=0)(hm:aj m x y=0)
  (hc:cr (dirL l) (dirL m)=0):l=m:=by
 unfold okL at ol om;rw [Bool.and_eq_true,decide_eq_true_iff,decide_eq_true_iff] at ol om
 have d:l.1*m.2.1=l.2.1*m.1:=by
  unfold cr dirL at hc;have:(l.1:Rat)*(m.2.1:Rat)=(l.2.1:Rat)*(m.1:Rat):=by grind
  exact_mod_cast this
 unfold aj at hl hm;have o:(l.1:Rat)*(m.2.1:Rat)=(l.2.1:Rat)*(m.1:Rat):=by exact_mod_cast d
 have e:l.1*m.2.2=l.2.2*m.1:=by
  have:(l.1:Rat)*(m.2.2:Rat)=(l.2.2:Rat)*(m.1:Rat):=by grind
  exact_mod_cast this
 have f:l.2.1*m.2.2=l.2.2*m.2.1:=by
  have:(l.2.1:Rat)*(m.2.2:Rat)=(l.2.2:Rat)*(m.2.1:Rat):=by grind
  exact_mod_cast this
 obtain ⟨p,j⟩:=ol;obtain ⟨q,k⟩:=om;unfold iM at j k;have r:Nat.gcd (Nat.gcd l.2.1.natAbs l.1.natAbs) l.2.2.natAbs=1:=by rw [Nat.gcd_comm l.2.1.natAbs];exact j
 have s:Nat.gcd (Nat.gcd m.2.1.natAbs m.1.natAbs) m.2.2.natAbs=1:=by rw [Nat.gcd_comm m.2.1.natAbs];exact k
 have u:l.1.natAbs=m.1.natAbs:=Nat.dvd_antisymm (tq (a:=m.1) (b:=m.2.1) (c:=m.2.2) (by rw [Int.mul_comm,←d,Int.mul_comm]) (by rw [Int.mul_comm,←e,Int.mul_comm]) j) (tq d e k);have v:l.2.1.natAbs=m.2.1.natAbs:=Nat.dvd_antisymm (tq (a:=m.2.1) (b:=m.1) (c:=m.2.2) (by rw [Int.mul_comm,d,Int.mul_comm]) (by rw [Int.mul_comm,←f,Int.mul_comm]) r) (tq (b:=l.1) (c:=l.2.2) d.symm f s)
 have sl:¬(l.1<0\/l.1=0/\l.2.1<0):=fun h=>by
  unfold lL at cl;rw [if_pos h] at cl;have g:-l.1=l.1:=congrArg (fun x:L3=>x.1) cl;have i:-l.2.1=l.2.1:=congrArg (fun x:L3=>x.2.1) cl;omega
 have sm:¬(m.1<0\/m.1=0/\m.2.1<0):=fun h=>by
  unfold lL at cm;rw [if_pos h] at cm;have g:-m.1=m.1:=congrArg (fun x:L3=>x.1) cm;have i:-m.2.1=m.2.1:=congrArg (fun x:L3=>x.2.1) cm;omega
 have g:l.1=m.1:=by omega
 by_cases z:l.1=0
 ·have i:l.2.1=m.2.1:=by omega
  have t:l.2.1≠0:=fun h=>p ⟨z,h⟩;have n:m.2.2=l.2.2:=Int.eq_of_mul_eq_mul_left t (by rw [f,i,Int.mul_comm]);exact Prod.ext g (Prod.ext i n.symm)
 ·have i:m.2.1=l.2.1:=Int.eq_of_mul_eq_mul_left z (by rw [d,g,Int.mul_comm]);have n:m.2.2=l.2.2:=Int.eq_of_mul_eq_mul_left z (by rw [e,g,Int.mul_comm]);exact Prod.ext g (Prod.ext i.symm n.symm)
end Go.Proofs.Tryz.Sec
namespace Go.Proofs.Tryz.Sec
def mx (x:Rat×Rat)(t:Rat):Rat:=x.1+t*(x.2-x.1)
theorem Eh {x:Rat×Rat}{t:Rat}(h1:x.1>0)(h2:x.2>0)(t0:t>0)(t1:t<=1):mx x t>0:=by
 have a:=mn (show 1-t≥0 by grind) (show x.1≥0 by grind);have b:=mp t0 h2;unfold mx;grind
theorem NG {x:Rat×Rat}{t s:Rat}(h1:x.1>0)(hs:mx x s≥0)(s0:s>0)(t0:t>0)(ts:t<=s):mx x t≥0:=by
 unfold mx at *;have e:s*(x.1+t*(x.2-x.1))=(s-t)*x.1+t*(x.1+s*(x.2-x.1)):=by grind
 have a:=mn (show s-t≥0 by grind) (show x.1≥0 by grind);have b:=mn (show t≥0 by grind) hs;by_cases h:x.1+t*(x.2-x.1)≥0
 ·exact h
 ·have:=mp s0 (show -(x.1+t*(x.2-x.1))>0 by grind);grind
theorem tI {y:Rat×Rat}(h1:y.1>0){s:Rat}(s0:s>0)(hs:mx y s<=0):∃t,t>0/\t<=s/\mx y t=0:=by
 have a:y.1-y.2>0:=by
  by_cases c:y.1-y.2>0
  ·exact c
  ·have:=mn (show s≥0 by grind) (show y.2-y.1≥0 by grind);unfold mx at hs;grind
 have e:=inv_mul (show y.1-y.2≠0 by grind) y.1;have p:=mp h1 (Rat.inv_pos.2 a);refine ⟨y.1*(y.1-y.2)⁻¹,p,?_,?_⟩
 ·generalize y.1*(y.1-y.2)⁻¹=t at *;by_cases c:t<=s
  ·exact c
  ·have:=mp (show t-s>0 by grind) a;unfold mx at hs;grind
 ·generalize y.1*(y.1-y.2)⁻¹=t at *;unfold mx;grind
theorem D1:∀(L:List (Rat×Rat)),(∀x∈L,x.1>0)->(∃x∈L,x.2<=0)->∃t,t>0/\t<=1/\(∀x∈L,mx x t≥0)/\∃x∈L,mx x t=0
 | [],_,h=>by obtain ⟨x,hx,_⟩:=h;cases hx
 | y::L,h0,h=>by
  have j:=h0 y (List.mem_cons_self ..);have f:=fun x hx=>h0 x (List.mem_cons_of_mem y hx);by_cases c:∃x∈L,x.2<=0
  ·obtain ⟨t,t0,t1,a,x,hx,e⟩:=D1 L f c;by_cases g:mx y t≥0
   ·exact ⟨t,t0,t1,fun z b=>by rcases List.mem_cons.1 b with rfl|b;exact g;exact a z b,x,List.mem_cons_of_mem _ hx,e⟩
   ·obtain ⟨s,d,st,es⟩:=tI j t0 (by grind);exact ⟨s,d,by grind,fun z b=>by rcases List.mem_cons.1 b with rfl|b;grind;exact NG (f z b) (a z b) t0 d st,y,List.mem_cons_self ..,es⟩
  ·obtain ⟨x,hx,i⟩:=h
   have:x=y:=by
    rcases List.mem_cons.1 hx with rfl|hx
    ·rfl
    ·exact absurd ⟨x,hx,i⟩ c
   subst this;obtain ⟨s,d,st,es⟩:=tI j (s:=1) (by decide) (by unfold mx;grind);refine ⟨s,d,st,fun z b=>?_,x,List.mem_cons_self ..,es⟩;rcases List.mem_cons.1 b with rfl|b
   ·grind
   ·have:z.2>0:=by
     by_cases q:z.2>0
     ·exact q
     ·exact absurd ⟨z,b,by grind⟩ c
    have:=Eh (f z b) this d st;grind
theorem vC:∀(L:List (Rat×Rat)),(∀x∈L,x.1>0)->∃s,s>0/\∀x∈L,x.1+s*x.2>0
 | [],_=>⟨1,by decide,fun x h=>by cases h⟩
 | y::L,h0=>by
  have hy:=h0 y (List.mem_cons_self ..);obtain ⟨s,d,h⟩:=vC L fun x f=>h0 x (List.mem_cons_of_mem y f);by_cases c:y.1+s*y.2>0
  ·exact ⟨s,d,fun z a=>by rcases List.mem_cons.1 a with rfl|a;exact c;exact h z a⟩
  ·have b:-y.2>0:=by
    by_cases q:y.2<0
    ·grind
    ·have:=mn (show s≥0 by grind) (show y.2≥0 by grind);grind
   have e:=inv_mul (show -y.2≠0 by grind) y.1;have p:=mp hy (Rat.inv_pos.2 b);generalize y.1*(-y.2)⁻¹=r at *
   have j:r<=s:=by
    by_cases q:r<=s
    ·exact q
    ·have:=mp (show r-s>0 by grind) b;grind
   refine ⟨r*(1 / 2),by grind,fun z a=>?_⟩;rcases List.mem_cons.1 a with rfl|a
   ·grind
   ·have g:=h0 z (List.mem_cons_of_mem _ a);have i:=h z a;by_cases q:z.2≥0
    ·have:=mn (show r*(1 / 2)≥0 by grind) q;grind
    ·have:=mn (show s-r*(1 / 2)≥0 by grind) (show -z.2≥0 by grind);grind
def pos (M:List L3)(p:V2):Prop:=∀m∈M,aj m p.1 p.2>0
def Es (M:List L3)(l:L3):Prop:=∃p:V2,aj l p.1 p.2=0/\∀m∈M,m≠l->aj m p.1 p.2>0
def Ro (M:List L3):Prop:=∀l∈M,∀m∈M,l≠m->∀p:V2,aj l p.1 p.2=0->aj m p.1 p.2=0->cr (dirL l) (dirL m)≠0
theorem Lg {l m:L3}{w:V2}(hw:w.1≠0\/w.2≠0)(h1:nv l w=0)(h2:nv m w=0):cr (dirL l) (dirL m)=0:=by
 have a:cr (dirL l) (dirL m)*w.1=0:=by unfold nv at *;unfold cr dirL;grind
 have b:cr (dirL l) (dirL m)*w.2=0:=by unfold nv at *;unfold cr dirL;grind
 rcases hw with h|h
 ·rcases Rat.mul_eq_zero.1 a with g|g;exact g;exact absurd g h
 ·rcases Rat.mul_eq_zero.1 b with g|g;exact g;exact absurd g h
theorem Fi (u:V2):cr u u=0:=by unfold cr;grind
theorem pP (m:L3)(q p:V2)(t:Rat):aj m (q.1+t*(p.1-q.1)) (q.2+t*(p.2-q.2))=aj m q.1 q.2+t*(aj m p.1 p.2-aj m q.1 q.2):=by unfold aj;grind
theorem NI (m:L3)(q p:V2)(t:Rat):nv m (q.1+t*(p.1-q.1),q.2+t*(p.2-q.2))=nv m q+t*(nv m p-nv m q):=by unfold nv;grind
theorem NJ (m:L3)(q x:V2):nv m (q.1-x.1,q.2-x.2)=aj m q.1 q.2-aj m x.1 x.2:=by unfold nv aj;grind
theorem Vk {M:List L3}(hd:Ro M)(hn:∀m∈M,(dirL m).1≠0\/(dirL m).2≠0){q p:V2}(hq:pos M q)(hp:∀m∈M,Es M m->aj m p.1 p.2>0):pos M p:=by
 intro B C;by_cases c:aj B p.1 p.2>0
 ·exact c
 exfalso;let f:L3->Rat×Rat:=fun m=>(aj m q.1 q.2,aj m p.1 p.2);obtain ⟨t,t0,t1,ge,x,j,ex⟩:=D1 (M.map f) (fun x j=>by obtain ⟨m,hm,rfl⟩:=List.mem_map.1 j;exact hq m hm) ⟨f B,List.mem_map_of_mem C,by show aj B p.1 p.2<=0;grind⟩;obtain ⟨i,l,rfl⟩:=List.mem_map.1 j;let X:V2:=(q.1+t*(p.1-q.1),q.2+t*(p.2-q.2));have D:∀m,aj m X.1 X.2=mx (f m) t:=fun m=>pP m q p t;have N:∀m∈M,aj m X.1 X.2≥0:=fun m hm=>by rw [D];exact ge _ (List.mem_map_of_mem hm)
 have J:aj i X.1 X.2=0:=by rw [D];exact ex
 let u:V2:=(q.1-X.1,q.2-X.2);have K:∀m,nv m u=aj m q.1 q.2-aj m X.1 X.2:=fun m=>NJ m q X;let Z:=M.filter fun m=>decide (aj m X.1 X.2=0);have r:∀m,m∈Z↔m∈M/\aj m X.1 X.2=0:=fun m=>by simp [Z,List.mem_filter]
 have O:i∈Z:=(r i).2 ⟨l,J⟩;let d:=dirL i;have d0:nv i d=0:=by rw [I_];exact Fi _
 let g:L3->Rat×Rat:=fun m=>(nv m u,nv m d)
 obtain ⟨k,k0,k1,P,y,Q,R⟩:=D1 (Z.map g) (fun x j=>by
  obtain ⟨m,hm,rfl⟩:=List.mem_map.1 j;obtain ⟨S,T⟩:=(r m).1 hm;show nv m u>0;rw [K,T];have:=hq m S;grind) ⟨g i,List.mem_map_of_mem O,by show nv i d<=0;rw [d0];grind⟩
 obtain ⟨n,E,rfl⟩:=List.mem_map.1 Q;obtain ⟨F,G⟩:=(r n).1 E;let w:V2:=(u.1+k*(d.1-u.1),u.2+k*(d.2-u.2));have H:∀m,nv m w=mx (g m) k:=fun m=>NI m u d k;have L:nv n w=0:=by rw [H];exact R
 have U:w.1≠0\/w.2≠0:=by
  by_cases e:k=1
  ·have:=hn i l;have v:w.1=d.1:=by dsimp only [w];rw [e];grind
   have A:w.2=d.2:=by dsimp only [w];rw [e];grind
   rw [v,A];exact this
  ·have a:nv i w>0:=by
    rw [H];show nv i u+k*(nv i d-nv i u)>0;rw [d0];have:nv i u>0:=by rw [K,J];have:=hq i l;grind
    have:=mp (show 1-k>0 by grind) this;grind
   by_cases v:w.1=0
   ·by_cases A:w.2=0
    ·unfold nv at a;rw [v,A] at a;grind
    ·exact .inr A
   ·exact .inl v
 obtain ⟨s,V,W⟩:=vC ((M.filter fun m=>decide (aj m X.1 X.2>0)).map fun m=>(aj m X.1 X.2,nv m w)) (fun x j=>by
  obtain ⟨m,hm,rfl⟩:=List.mem_map.1 j;simpa using (List.mem_filter.1 hm).2)
 have es:Es M n:=by
  refine ⟨(X.1+s*w.1,X.2+s*w.2),?_,fun m hm I=>?_⟩
  ·rw [fX,G,L];grind
  ·rw [fX];by_cases z:aj m X.1 X.2=0
   ·have Y:=(r m).2 ⟨hm,z⟩;have g0:nv m w≥0:=by rw [H];exact P _ (List.mem_map_of_mem Y)
    have ne:nv m w≠0:=fun e=>hd n F m hm (fun h=>I h.symm) X G z (Lg U L e);have:=mp V (show nv m w>0 by grind);rw [z];grind
   ·have gz:=N m hm;have o:(aj m X.1 X.2,nv m w)∈((M.filter fun m=>decide (aj m X.1 X.2>0)).map fun m=>(aj m X.1 X.2,nv m w)):=List.mem_map.2 ⟨m,List.mem_filter.2 ⟨hm,by simp;grind⟩,rfl⟩;exact W _ o
 have a:=hp n F es;have b:=hq n F;have:=Eh (x:=f n) b a t0 t1;rw [←D,G] at this;grind
def FF (l:L3):V2:=((l.1:Rat),(l.2.1:Rat))
theorem T8 {x y:Rat}(h:x≠0\/y≠0):x*x+y*y>0:=by
 have p:∀z:Rat,z≠0->z*z>0:=fun z a=>by
  by_cases c:z>0
  ·exact mp c c
  ·have:=mp (show -z>0 by grind) (show -z>0 by grind);grind
 have q:∀z:Rat,z*z≥0:=fun z=>by
  by_cases c:z≥0
  ·exact mn c c
  ·have:=mn (show -z≥0 by grind) (show -z≥0 by grind);grind
 rcases h with h|h
 ·have:=p x h;have:=q y;grind
 ·have:=p y h;have:=q x;grind
theorem Ja {l:L3}(h:(dirL l).1≠0\/(dirL l).2≠0):nv l (FF l)>0:=by
 have:nv l (FF l)=(l.1:Rat)*(l.1:Rat)+(l.2.1:Rat)*(l.2.1:Rat):=rfl;rw [this];refine T8 ?_;rcases h with h|h
 ·exact .inr h
 ·left;intro e;apply h;show -(l.1:Rat)=0;rw [e];grind
theorem KG {M:List L3}(hd:Ro M)(hn:∀m∈M,(dirL m).1≠0\/(dirL m).2≠0){q:V2}(hq:pos M q)(h0:M≠[]):∃l∈M,Es M l:=by
 obtain ⟨l,a⟩:=List.exists_mem_of_ne_nil M h0;by_cases c:∃l∈M,Es M l
 ·exact c
 exfalso;have d:=Ja (hn l a);have e:=inv_mul (show nv l (FF l)≠0 by grind) (aj l q.1 q.2);have b:=Vk hd hn hq (p:=(q.1+-(aj l q.1 q.2*(nv l (FF l))⁻¹)*(FF l).1,q.2+-(aj l q.1 q.2*(nv l (FF l))⁻¹)*(FF l).2)) (fun m hm he=>absurd ⟨m,hm,he⟩ c) l a;rw [fX] at b;grind
theorem zY {M:List L3}{l:L3}(hn:(dirL l).1≠0\/(dirL l).2≠0){x:V2}(hx:aj l x.1 x.2=0)(h:∀m∈M,m≠l->aj m x.1 x.2>0)(L:List L3)(hL:∀m∈L,aj m x.1 x.2>0):∃q:V2,pos M q/\aj l q.1 q.2>0/\pos L q:=by
 have c:=Ja hn
 obtain ⟨s,d,a⟩:=vC (((M.filter fun m=>decide (m≠l))++L).map fun m=>(aj m x.1 x.2,nv m (FF l))) (fun y f=>by
  obtain ⟨m,hm,rfl⟩:=List.mem_map.1 f;rcases List.mem_append.1 hm with hm|hm
  ·have:=List.mem_filter.1 hm;exact h m this.1 (by simpa using this.2)
  ·exact hL m hm)
 have b:aj l (x.1+s*(FF l).1) (x.2+s*(FF l).2)>0:=by rw [fX,hx];have:=mp d c;grind
 refine ⟨(x.1+s*(FF l).1,x.2+s*(FF l).2),fun m hm=>?_,b,fun m hm=>?_⟩
 ·by_cases e:m=l
  ·rw [e];exact b
  ·rw [fX];exact a (aj m x.1 x.2,nv m (FF l)) (List.mem_map.2 ⟨m,List.mem_append_left _ (List.mem_filter.2 ⟨hm,by simpa using e⟩),rfl⟩)
 ·rw [fX];exact a (aj m x.1 x.2,nv m (FF l)) (List.mem_map.2 ⟨m,List.mem_append_right _ hm,rfl⟩)
theorem Cx {M:List L3}{l:L3}(hno:∀x:V2,aj l x.1 x.2=0->¬pos M x){q p:V2}(hq:pos M q)(hp:pos M p):aj l q.1 q.2>0->aj l p.1 p.2>0:=by
 intro h;by_cases c:aj l p.1 p.2>0
 ·exact c
 exfalso;obtain ⟨t,t0,t1,e⟩:=tI (y:=(aj l q.1 q.2,aj l p.1 p.2)) h (s:=1) (by decide) (by unfold mx;grind);refine hno (q.1+t*(p.1-q.1),q.2+t*(p.2-q.2)) ?_ fun m hm=>?_
 ·rw [pP];exact e
 ·rw [pP];exact Eh (x:=(aj m q.1 q.2,aj m p.1 p.2)) (hq m hm) (hp m hm) t0 t1
end Go.Proofs.Tryz.Sec
namespace Go.Proofs.Tryz
open Go.Eng Go.Big
def Sp.fI (s:Sp)(t:Rat):Prop:=(s.a=true\/s.lo<t)/\(s.b=true\/t<s.hi)
def qM (ss:List Sp)(t:Rat):Prop:=∃s∈ss,s.fI t
def Sp.fR (s:Sp):Prop:=s.can/\s.emp=false
def Sp.HK (s t:Sp):Prop:=s.b=false/\t.a=false/\s.hi<t.lo
def xg (ss:List Sp):Prop:=(∀s∈ss,s.fR)/\ss.Pairwise Sp.HK
theorem pick (E:List Rat):∀l u:Rat,l<u->∃t,l<t/\t<u/\t∉E:=by
 induction E with
 | nil=>exact fun l u h=>⟨(l+u) / 2,by grind,by grind,by simp⟩
 | cons e r ih=>
  intro l u h;by_cases c:l<e/\e<u
  ·obtain ⟨t,a,b,d⟩:=ih l e c.1;refine ⟨t,a,by grind,fun hm=>?_⟩;rcases List.mem_cons.1 hm with rfl|hm
   ·grind
   ·exact d hm
  ·obtain ⟨t,a,b,d⟩:=ih l u h;refine ⟨t,a,b,fun hm=>?_⟩;rcases List.mem_cons.1 hm with rfl|hm
   ·exact c ⟨a,b⟩
   ·exact d hm
theorem Tu:∀l:List Rat,l=[]\/∃m∈l,∀x∈l,x<=m:=by
 intro l
 induction l with
 | nil=>exact .inl rfl
 | cons y r ih=>
  rcases ih with rfl|⟨m,hm,h⟩
  ·exact .inr ⟨y,by simp,by intro x a;simp at a;grind⟩
  ·by_cases c:m<y
   ·exact .inr ⟨y,by simp,fun x a=>(List.mem_cons.1 a).elim (fun e=>by grind) fun e=>by have:=h x e;grind⟩
   ·exact .inr ⟨m,by simp [hm],fun x a=>(List.mem_cons.1 a).elim (fun e=>by grind) fun e=>h x e⟩
theorem PY:∀l:List Rat,l=[]\/∃m∈l,∀x∈l,m<=x:=by
 intro l
 induction l with
 | nil=>exact .inl rfl
 | cons y r ih=>
  rcases ih with rfl|⟨m,hm,h⟩
  ·exact .inr ⟨y,by simp,by intro x a;simp at a;grind⟩
  ·by_cases c:y<m
   ·exact .inr ⟨y,by simp,fun x a=>(List.mem_cons.1 a).elim (fun e=>by grind) fun e=>by have:=h x e;grind⟩
   ·exact .inr ⟨m,by simp [hm],fun x a=>(List.mem_cons.1 a).elim (fun e=>by grind) fun e=>h x e⟩
theorem CC (E Ls Us:List Rat)(h:∀l∈Ls,∀u∈Us,l<u):∃t,(∀l∈Ls,l<t)/\(∀u∈Us,t<u)/\t∉E:=by
 have key:∃a b:Rat,a<b/\(∀l∈Ls,l<=a)/\∀u∈Us,b<=u:=by
  rcases Tu Ls with rfl|⟨m,hm,d⟩
  ·rcases PY Us with rfl|⟨n,f,c⟩
   ·exact ⟨0,1,by decide,(fun _ h=>by cases h),(fun _ h=>by cases h)⟩
   ·exact ⟨n-1,n,by grind,(fun _ h=>by cases h),c⟩
  ·rcases PY Us with rfl|⟨n,f,c⟩
   ·exact ⟨m,m+1,by grind,d,(fun _ h=>by cases h)⟩
   ·exact ⟨m,n,h m hm n f,d,c⟩
 obtain ⟨a,b,e,d,c⟩:=key;obtain ⟨t,t1,t2,t3⟩:=pick E a b e;exact ⟨t,fun l g=>by have:=d l g;grind,fun u hu=>by have:=c u hu;grind,t3⟩
def Sp.NB (s:Sp):List Rat:=if s.a then [] else [s.lo]
def Sp.LU (s:Sp):List Rat:=if s.b then [] else [s.hi]
theorem tw {s:Sp}{t:Rat}:s.fI t↔(∀l∈s.NB,l<t)/\∀u∈s.LU,t<u:=by
 unfold Sp.fI Sp.NB Sp.LU;cases s.a<;>cases s.b<;>simp
theorem Af {s:Sp}{l:Rat}(h:l∈s.NB):s.a=false/\l=s.lo:=by
 unfold Sp.NB at h;cases ha:s.a<;>simp [ha] at h;exact ⟨rfl,h⟩
theorem Ft {s:Sp}{l:Rat}(h:l∈s.LU):s.b=false/\l=s.hi:=by
 unfold Sp.LU at h;cases ha:s.b<;>simp [ha] at h;exact ⟨rfl,h⟩
theorem nh {s:Sp}(h:s.emp=false)(ha:s.a=false)(hb:s.b=false):s.lo<s.hi:=by
 rcases Sp.ig.1 h with h|h|h
 ·rw [ha] at h;cases h
 ·rw [hb] at h;cases h
 ·exact h
theorem FJ {s:Sp}(h:s.emp=false)(E:List Rat):∃t,s.fI t/\t∉E:=by
 obtain ⟨t,a,b,c⟩:=CC E s.NB s.LU (fun l d u hu=>by
  obtain ⟨e,rfl⟩:=Af d;obtain ⟨hb,rfl⟩:=Ft hu;exact nh h e hb)
 exact ⟨t,tw.2 ⟨a,b⟩,c⟩
theorem xg.tail {s:Sp}{r:List Sp}(h:xg (s::r)):xg r:=⟨fun x a=>h.1 x (by simp [a]),(List.pairwise_cons.1 h.2).2⟩
theorem xg.HK {s:Sp}{r:List Sp}(h:xg (s::r)){x:Sp}(hx:x∈r):s.HK x:=(List.pairwise_cons.1 h.2).1 x hx
theorem Aj {s:Sp}{r:List Sp}(h:xg (s::r))(ha:s.a=false){t:Rat}(ht:t<=s.lo):¬qM (s::r) t:=by
 rintro ⟨x,c,b,f⟩;rcases List.mem_cons.1 c with rfl|c
 ·rcases b with b|b
  ·rw [ha] at b;cases b
  ·grind
 ·obtain ⟨d,e,g⟩:=h.HK c;have:=nh (h.1 s (by simp)).2 ha d;rcases b with b|b
  ·rw [e] at b;cases b
  ·grind
def nl:List Sp->List Rat
 | []=>[]
 | x::_=>[x.lo]
theorem FE {s:Sp}{r:List Sp}(h:xg (s::r))(hb:s.b=false){t:Rat}(h1:s.hi<=t)(h2:∀x∈nl r,t<=x):¬qM (s::r) t:=by
 rintro ⟨x,c,d,a⟩;rcases List.mem_cons.1 c with rfl|c
 ·rcases a with a|a
  ·rw [hb] at a;cases a
  ·grind
 ·cases r with
  | nil=>cases c
  | cons y r=>exact Aj h.tail (h.HK (by simp)).2.1 (h2 y.lo (by simp [nl])) ⟨x,c,d,a⟩
set_option linter.unusedSectionVars false
section
variable {s s':Sp} {r r':List Sp} {E:List Rat} (h:xg (s :: r)) (h':xg (s' :: r')) (e:∀t,t ∉ E->qM (s :: r) t->qM (s' :: r') t)
include h h' e
theorem QE (ha:s.a=true):s'.a=true:=by
 cases ha':s'.a with
 | true=>rfl
 | false=>
  obtain ⟨t,-,c,d⟩:=CC E [] (s'.lo::s.LU) (fun l b=>by cases b);have:=e t d ⟨s,by simp,.inl ha,(tw.2 ⟨(fun l b=>by unfold Sp.NB at b;rw [if_pos ha] at b;cases b),fun u hu=>c u (by simp [hu])⟩).2⟩;exact absurd this (Aj h' ha' (by have:=c s'.lo (by simp);grind))
theorem Mt (ha:s.a=false)(ha':s'.a=false):¬s.lo<s'.lo:=by
 intro b
 obtain ⟨t,f,d,g⟩:=CC E [s.lo] (s'.lo::s.LU) (fun l c u hu=>by
  obtain rfl:l=s.lo:=by simpa using c
  rcases List.mem_cons.1 hu with rfl|hu
  ·exact b
  ·obtain ⟨i,rfl⟩:=Ft hu;exact nh (h.1 s (by simp)).2 ha i)
 have:=e t g ⟨s,by simp,tw.2 ⟨(fun l c=>by obtain ⟨-,rfl⟩:=Af c;exact f _ (by simp)),fun u hu=>d u (by simp [hu])⟩⟩;exact absurd this (Aj h' ha' (by have:=d s'.lo (by simp);grind))
theorem QF (h0 : s.a = false → s'.a = false ∧ s.lo = s'.lo)(hb : s.b = true) : s'.b = true := by
  cases hb' : s'.b with
  | true => rfl
  | false =>
    have d : ∀ u∈nl r', s'.hi<u := fun u hu => by
      cases r' with
      | nil => cases hu
      | cons y r' => obtain rfl : u = y.lo := by simpa [nl] using hu
                     exact (h'.HK (by simp)).2.2
    obtain ⟨t, f, h, i⟩ := CC E (s'.hi::s.NB) (nl r') (fun l c u hu => by
      rcases List.mem_cons.1 c with rfl|c
      · exact d u hu
      · obtain ⟨g, rfl⟩ := Af c;have := nh (h'.1 s' (by simp)).2 (h0 g).1 hb';have := d u hu;rw [(h0 g).2];grind)
    have := e t i ⟨s, by simp, (tw.2 ⟨(fun l c => f l (by simp [c])), (fun u hu => by unfold Sp.LU at hu;rw [if_pos hb] at hu;cases hu)⟩ : s.fI t)⟩;exact absurd this (FE h' hb' (by have := f s'.hi (by simp);grind) (fun x j => by have := h x j;grind))
theorem Ms (h0 : s.a = false → s'.a = false ∧ s.lo = s'.lo)(hb : s.b = false)(hb' : s'.b = false) : ¬s'.hi<s.hi := by
  intro c
  have g : ∀ u∈nl r', s'.hi<u := fun u hu => by
    cases r' with
    | nil => cases hu
    | cons y r' => obtain rfl : u = y.lo := by simpa [nl] using hu
                   exact (h'.HK (by simp)).2.2
  obtain ⟨t, h, f, i⟩ := CC E [s'.hi] (s.hi::nl r') (fun l j u hu => by
    obtain rfl : l = s'.hi := by simpa using j
    rcases List.mem_cons.1 hu with rfl|hu
    · exact c
    · exact g u hu)
  have m := h s'.hi (by simp)
  have d : s.fI t := by
    refine ⟨?_, .inr (f s.hi (by simp))⟩
    cases ha : s.a with
    | true => exact .inl rfl
    | false =>
      have := nh (h'.1 s' (by simp)).2 (h0 ha).1 hb';rw [(h0 ha).2];exact .inr (by grind)
  exact absurd (e t i ⟨s, by simp, d⟩) (FE h' hb' (by grind) (fun x k => by have := f x (by simp [k]);grind))
end
theorem Sp.ext' {s t:Sp}(h1:s.a=t.a)(h2:s.b=t.b)(h3:s.lo=t.lo)(h4:s.hi=t.hi):s=t:=by
 cases s;cases t;simp at *;exact ⟨h3,h4,h1,h2⟩
theorem Ew {E:List Rat}:∀{xs ys:List Sp},xg xs->xg ys->(∀t,t∉E->(qM xs t↔qM ys t))->xs=ys:=by
 intro xs
 induction xs with
 | nil=>
  intro ys _ f e
  cases ys with
  | nil=>rfl
  | cons s r=>
   obtain ⟨t,c,i⟩:=FJ (f.1 s (by simp)).2 E;obtain ⟨x,d,-⟩:=(e t i).2 ⟨s,by simp,c⟩;cases d
 | cons s r ih=>
  intro ys d f e
  cases ys with
  | nil=>
   obtain ⟨t,c,i⟩:=FJ (d.1 s (by simp)).2 E;obtain ⟨x,d,-⟩:=(e t i).1 ⟨s,by simp,c⟩;cases d
  | cons s' r'=>
   have l:=fun t j=>(e t j).1;have n:=fun t j=>(e t j).2
   have beq:∀{a b:Bool},(a=true->b=true)->(b=true->a=true)->a=b:=fun {a b} c i=>by
    cases a<;>cases b<;>simp at c i ⊢
   have g:s.a=s'.a:=beq (QE d f l) (QE f d n)
   have w:s.a=false->s.lo=s'.lo:=fun c=>by
    have A:=Mt d f l c (g▸c);have B:=Mt f d n (g▸c) c;grind
   have y:s.a=false->s'.a=false/\s.lo=s'.lo:=fun h=>⟨g▸h,w h⟩;have o:s'.a=false->s.a=false/\s'.lo=s.lo:=fun h=>⟨g.symm▸h,(w (g.symm▸h)).symm⟩;have u:s.b=s'.b:=beq (QF d f l y) (QF f d n o)
   have C:s.b=false->s.hi=s'.hi:=fun c=>by
    have A:=Ms d f l y c (u▸c);have B:=Ms f d n o (u▸c) c;grind
   have gs:=(d.1 s (by simp)).1;have p:=(f.1 s' (by simp)).1
   have es:s=s':=by
    refine Sp.ext' g u ?_ ?_
    ·cases c:s.a with
     | false=>exact w c
     | true=>rw [gs.1 c,p.1 (g▸c)]
    ·cases c:s.b with
     | false=>exact C c
     | true=>rw [gs.2 c,p.2 (u▸c)]
   subst es
   have z:∀{q:List Sp} {t:Rat},xg (s::q)->qM q t->¬s.fI t:=by
    rintro q t D ⟨x,d,c,i⟩ ⟨v,k⟩;obtain ⟨F,G,H⟩:=D.HK d;rw [F] at k;rw [G] at c;simp at k c;grind
   rw [ih d.tail f.tail (fun t j=>⟨fun m=>?_,fun m=>?_⟩)]
   ·obtain ⟨x,hm,hi⟩:=l t j (by obtain ⟨x,v,k⟩:=m;exact ⟨x,by simp [v],k⟩);rcases List.mem_cons.1 hm with rfl|hm
    ·exact absurd hi (z d m)
    ·exact ⟨x,hm,hi⟩
   ·obtain ⟨x,hm,hi⟩:=n t j (by obtain ⟨x,v,k⟩:=m;exact ⟨x,by simp [v],k⟩);rcases List.mem_cons.1 hm with rfl|hm
    ·exact absurd hi (z f m)
    ·exact ⟨x,hm,hi⟩
end Go.Proofs.Tryz
namespace Go.Proofs.Tryz
open Go.Eng Go.Big
theorem row_one {α:Type}{sz:Nat}{R:View->Value->α->Prop}{V:View}{xs:List Value}{a:α}(hx:xs.length=sz)(ha:R V (.agg xs.toArray) a):Row sz R V xs [a]:=by
 refine ⟨fun i b=>?_⟩;obtain rfl:i=0:=by simpa using b
 exact ⟨xs,hx,ha,fun j x c=>by rw [Nat.zero_mul,Nat.zero_add];exact c⟩
theorem vt {α:Type}{sz:Nat}{R:View->Value->α->Prop}{V:View}{vs:List Value}{ls:List α}(h:Row sz R V vs ls){k:Nat}(hk:k<=ls.length){xs sp:List Value}{a:α}(hx:xs.length=sz)(ha:R V (.agg xs.toArray) a)(hs:0<sz) :
  Row sz R V (vs.take (k*sz)++(xs++(vs.take (ls.length*sz)).drop (k*sz))++sp) (ls.take k++a::ls.drop k):=by
 have v:=h.kR hs;have q:k*sz<=ls.length*sz:=Nat.mul_le_mul_right _ hk;have t1:(vs.take (k*sz)).length=k*sz:=by rw [List.length_take];omega
 have t2:((vs.take (ls.length*sz)).drop (k*sz)).length=ls.length*sz-k*sz:=by rw [List.length_drop,List.length_take];omega
 have g:(ls.take k).length=k:=by rw [List.length_take];omega
 refine ⟨fun i r=>?_⟩;rw [List.append_assoc];by_cases s:i<k
 ·have c:i<ls.length:=by omega
  obtain ⟨l,n,o,p⟩:=h.at_ i c;have e:(ls.take k++a::ls.drop k)[i]=ls[i]:=by rw [List.getElem_append_left (by omega),List.getElem_take]
  refine ⟨l,n,by rw [e];exact o,fun j x b=>?_⟩;have d:=(List.getElem?_eq_some_iff.1 b).1
  have f:i*sz+j<k*sz:=by
   have:(i+1)*sz<=k*sz:=Nat.mul_le_mul_right _ s;rw [Nat.succ_mul] at this;omega
  rw [List.getElem?_append_left (by omega),List.getElem?_take,if_pos f];exact p j x b
 ·by_cases t:i=k
  ·subst t
   have e:(ls.take i++a::ls.drop i)[i]=a:=by
    rw [List.getElem_append_right (by omega)];simp [g]
   refine ⟨xs,hx,by rw [e];exact ha,fun j x b=>?_⟩;have d:=(List.getElem?_eq_some_iff.1 b).1;rw [List.getElem?_append_right (by omega),t1,Nat.add_sub_cancel_left,List.append_assoc,List.getElem?_append_left d];exact b
  ·have c:i-1<ls.length:=by
    rw [List.length_append,g,List.length_cons,List.length_drop] at r;omega
   obtain ⟨l,n,o,p⟩:=h.at_ (i-1) c
   have e:(ls.take k++a::ls.drop k)[i]=ls[i-1]:=by
    rw [List.getElem_append_right (by omega)];obtain ⟨m,hm⟩:∃m,i=k+(m+1):=⟨i-k-1,by omega⟩;subst hm;simp only [g,Nat.add_sub_cancel_left,List.getElem_cons_succ,List.getElem_drop];congr 1
   refine ⟨l,n,by rw [e];exact o,fun j x b=>?_⟩;have d:=(List.getElem?_eq_some_iff.1 b).1;obtain ⟨m,hm⟩:∃m,i=k+1+m:=⟨i-k-1,by omega⟩;subst hm;have w:(k+1+m)*sz=k*sz+sz+m*sz:=by rw [Nat.add_mul,Nat.add_mul,Nat.one_mul]
   have u:(k+1+m-1)*sz=k*sz+m*sz:=by rw [show k+1+m-1=k+m by omega,Nat.add_mul]
   have:=p j x b;rw [u] at this
   have f:k*sz+m*sz+j<ls.length*sz:=by
    have:(k+m+1)*sz<=ls.length*sz:=Nat.mul_le_mul_right _ (by omega);rw [Nat.add_mul,Nat.add_mul,Nat.one_mul] at this;omega
   rw [List.getElem?_append_right (by omega),t1,List.append_assoc,List.getElem?_append_right (by omega),hx,List.getElem?_append_left (by omega),List.getElem?_drop,List.getElem?_take,if_pos (by omega)];rw [show k*sz+((k+1+m)*sz+j-k*sz-sz)=k*sz+m*sz+j by omega];exact this
theorem lst_cells {α:Type}{sz:Nat}{R:View->Value->α->Prop}{V:View}{p:OA}{n:Nat}{ls:List α}(h:Lst sz R V p n ls)(hs:0<sz):∃xs:List Value,V.sl p xs/\xs.length=ls.length*sz/\Row sz R V xs ls:=by
 have step:∀k,k<=ls.length->∃xs:List Value,V.sl p xs/\xs.length=k*sz/\Row sz R V xs (ls.take k):=by
  intro k
  induction k with
  | zero=>exact fun _=>⟨[],fun i v b=>by simp at b,by simp,by rw [List.take_zero];exact Row.nil⟩
  | succ k ih=>
   intro s;obtain ⟨xs,f,d,e⟩:=ih (by omega);obtain ⟨l,g,m,j,o,q⟩:=h.at_ k (by omega);have r:(ls.take k).length=k:=by rw [List.length_take];omega
   refine ⟨xs++m,fun i v b=>?_,by rw [List.length_append,d,j,Nat.succ_mul],?_⟩
   ·by_cases c:i<xs.length
    ·rw [List.getElem?_append_left c] at b;exact f i v b
    ·rw [List.getElem?_append_right (by omega)] at b
     cases p with
     | none=>cases g
     | some a=>
      obtain rfl:=Option.some.inj (show some (a.add (k*sz))=some l from g);have:=q _ v b;rw [tM,d] at this;rw [show k*sz+(i-k*sz)=i by omega] at this;exact ⟨a,rfl,this⟩
   ·have:=e.snoc (sp:=[]) j o hs;rw [r,List.append_nil,List.take_of_length_le (by omega)] at this;rw [List.take_add_one,List.getElem?_eq_getElem (by omega)];exact this
 obtain ⟨xs,f,d,e⟩:=step ls.length (Nat.le_refl _);rw [List.take_length] at e;exact ⟨xs,f,d,e⟩
theorem row_append {α:Type}{sz:Nat}{R:View->Value->α->Prop}{V:View}{vs xs sp:List Value}{ls ms:List α}(h:Row sz R V vs ls)(h':Row sz R V xs ms)(hs:0<sz):Row sz R V (vs.take (ls.length*sz)++xs++sp) (ls++ms):=by
 have q:=h.kR hs;have o:=h'.kR hs;have n:(vs.take (ls.length*sz)).length=ls.length*sz:=by rw [List.length_take];omega
 refine ⟨fun i p=>?_⟩;by_cases c:i<ls.length
 ·obtain ⟨d,f,g,k⟩:=h.at_ i c;refine ⟨d,f,by rw [List.getElem_append_left c];exact g,fun j x a=>?_⟩;have l:=(List.getElem?_eq_some_iff.1 a).1
  have b:i*sz+j<ls.length*sz:=by
   have:(i+1)*sz<=ls.length*sz:=Nat.mul_le_mul_right _ c;rw [Nat.succ_mul] at this;omega
  rw [List.append_assoc,List.getElem?_append_left (by omega),List.getElem?_take,if_pos b];exact k j x a
 ·rw [List.length_append] at p;obtain ⟨m,rfl⟩:∃m,i=ls.length+m:=⟨i-ls.length,by omega⟩;have hm:m<ms.length:=by omega
  obtain ⟨d,f,g,k⟩:=h'.at_ m hm;refine ⟨d,f,?_,fun j x a=>?_⟩
  ·have e:(ls++ms)[ls.length+m]=ms[m]:=by rw [List.getElem_append_right (by omega)];simp
   rw [e];exact g
  ·have l:=(List.getElem?_eq_some_iff.1 a).1
   have b:m*sz+j<xs.length:=by
    have:(m+1)*sz<=ms.length*sz:=Nat.mul_le_mul_right _ hm;rw [Nat.succ_mul] at this;omega
   rw [List.append_assoc,List.getElem?_append_right (by rw [n,Nat.add_mul];omega),n,Nat.add_mul,List.getElem?_append_left (by omega)];rw [show ls.length*sz+m*sz+j-ls.length*sz=m*sz+j by omega];exact k j x a
theorem row_one_cell {α:Type}{sz:Nat}{R:View->Value->α->Prop}{V:View}{vs:List Value}{al:List α}(h:Row sz R V vs al)(hs:0<sz)(hc:∀xs a,R V (.agg (List.toArray xs)) a->∀v∈xs,v.oneCell'=true){m:Nat}(hm:m<al.length*sz){v:Value}(hv:vs[m]?=some v):v.oneCell'=true:=by
 have d:m / sz<al.length:=Nat.div_lt_of_lt_mul (by rw [Nat.mul_comm];exact hm);obtain ⟨xs,e,f,c⟩:=h.at_ (m / sz) d;have b:m%sz<xs.length:=by rw [e];exact Nat.mod_lt _ hs
 have g:m=m / sz*sz+m%sz:=by rw [Nat.mul_comm];exact (Nat.div_add_mod m sz).symm
 have:=c (m%sz) _ (List.getElem?_eq_getElem b);rw [←g,hv] at this;obtain rfl:=Option.some.inj this;exact hc xs _ f _ (List.getElem_mem b)
theorem Fw {α:Type}{sz:Nat}{R:View->Value->α->Prop}{V:View}{w1 w2:Nat}{us:List Value}{O:List α}(hg:GR sz R V w1 w2 us O)(hs:0<sz)(one:∀xs a,R V (.agg (List.toArray xs)) a->∀v∈xs,v.oneCell'=true){bk:Nat}{ty:TypeId}{m:Nat×Nat}(hb:us≠[]->V.aS bk (.cells us.toArray ty m))
  {es:List Value}{x:α}(he:es.length=sz)(hx:R V (.agg es.toArray) x){j:Nat}(jle:j<=w1) :
  ∃xs ys:List Value,V.sl (pJ (mA bk w2) w2 j sz) xs/\xs.length=(w1-j)*sz/\(∀v∈xs,v.oneCell'=true)/\V.sl (mA bk w2) ys/\ys.length=j*sz/\((mA bk w2).isNone=true->j=0) /\
   (∀sp:List Value,rowTake (es.take (1*sz)++xs++sp) 0 ((1+(w1-j))*sz)=es++xs)/\(es++xs).length / sz=1+(w1-j)/\(es++xs).length=(1+(w1-j))*sz/\(∀v∈es++xs,v.oneCell'=true) /\
   ∀(sp:List Value)(c':Nat),j+(1+(w1-j))<=c'->c'*sz<=(j+(1+(w1-j)))*sz+sp.length->GR sz R V (j+(1+(w1-j))) c' (ys++(es++xs)++sp) (O.take j++x::O.drop j):=by
 have n:=hg.len;have s:=hg.le;have o:=hg.cap;have p:=hg.row;have A:w1*sz<=w2*sz:=Nat.mul_le_mul_right _ s;have B:j*sz<=w1*sz:=Nat.mul_le_mul_right _ jle;have C:(w1-j)*sz=w1*sz-j*sz:=Nat.sub_mul ..
 have t:(1+(w1-j))*sz=sz+(w1-j)*sz:=by rw [Nat.add_mul,Nat.one_mul]
 have t1:(us.take (j*sz)).length=j*sz:=by rw [List.length_take];omega
 have t2:((us.take (w1*sz)).drop (j*sz)).length=(w1-j)*sz:=by rw [List.length_drop,List.length_take];omega
 have q:∀v∈(us.take (w1*sz)).drop (j*sz),v.oneCell'=true:=by
  intro v g;obtain ⟨k,hm,e⟩:=List.mem_iff_getElem.1 (List.mem_of_mem_drop g);have d:k<w1*sz:=by rw [List.length_take] at hm;omega
  have:=List.getElem?_eq_getElem hm;rw [e,List.getElem?_take,if_pos d] at this;exact row_one_cell p hs one (by rw [←n];exact d) this
 have f:0<w2->us≠[]:=fun hw e=>by
  have:0<w2*sz:=Nat.mul_pos hw hs;rw [e] at o;simp at o;omega
 have i:0<w2->mA bk w2=some ⟨bk,0,none⟩:=fun hw=>by unfold mA;rw [if_neg (by omega)]
 have at_:∀k v,0<w2->us[k]?=some v->V.at ⟨bk,k,none⟩ v:=fun k v hm g=>blk_at (hb (f hm)) g;have u:∀v∈es,v.oneCell'=true:=one _ _ hx;have b:(es++(us.take (w1*sz)).drop (j*sz)).length=(1+(w1-j))*sz:=by rw [List.length_append,t2,he,t]
 refine ⟨(us.take (w1*sz)).drop (j*sz),us.take (j*sz),?_,t2,q,?_,t1,?_,fun sp=>?_,by rw [b];exact Nat.mul_div_cancel _ hs,b,fun v w=>(List.mem_append.1 w).elim (u v) (q v),fun sp c' y D=>?_⟩
 ·intro k v hm;have c:=(List.getElem?_eq_some_iff.1 hm).1;rw [t2] at c;rw [List.getElem?_drop,List.getElem?_take,if_pos (by omega)] at hm
  have E:j<w2:=by
   rcases Nat.lt_or_ge j w2 with h|h
   ·exact h
   ·have:w1-j=0:=by omega
    rw [this,Nat.zero_mul] at c;omega
  have:=at_ (j*sz+k) v (by omega) hm;refine ⟨⟨bk,j*sz,none⟩,?_,?_⟩
  ·unfold pJ;rw [if_neg (by omega),i (by omega)];simp [addrAdd,add_zero']
  ·rw [←add_zero',tM,add_zero'];exact this
 ·intro k v hm;have c:=(List.getElem?_eq_some_iff.1 hm).1;rw [t1] at c;rw [List.getElem?_take,if_pos c] at hm
  have hw:0<w2:=by
   rcases Nat.eq_zero_or_pos w2 with h|h
   ·have:j=0:=by omega
    rw [this,Nat.zero_mul] at c;omega
   ·exact h
  exact ⟨⟨bk,0,none⟩,i hw,by rw [add_zero'];exact at_ k v hw hm⟩
 ·intro r;by_cases hw:0<w2
  ·rw [i hw] at r;cases r
  ·omega
 ·have z:es.take (1*sz)=es:=by rw [Nat.one_mul,←he,List.take_length]
  rw [z];unfold rowTake;rw [Nat.ble_eq_true_of_le (by rw [List.length_append,b];omega),cond_true,List.drop_zero,List.take_append_of_le_length (by rw [b];exact Nat.le_refl _),List.take_of_length_le (by rw [b];exact Nat.le_refl _)]
 ·have l:j<=O.length:=by omega
  refine ⟨by rw [List.length_append,List.length_take,List.length_cons,List.length_drop];omega,y,?_,?_⟩
  ·have F:(j+(1+(w1-j)))*sz=j*sz+(1+(w1-j))*sz:=Nat.add_mul ..
   rw [List.length_append,List.length_append,t1,b];omega
  ·rw [n];exact vt p l he hx hs
theorem AJ:Sz 2 (((2:Int):Rat)):=⟨by show (2:Int).natAbs<_;decide,by show (1:Nat)<_;decide⟩
theorem gH:Sz 2 (((1:Int):Rat)):=⟨by show (1:Int).natAbs<_;decide,by show (1:Nat)<_;decide⟩
theorem DR {V:View}{v:Value}{x:Rat}(h:RQ V v x){k:Nat}(sx:Sz k x)(hk:k+2<274877906944) :
  Acts prog 147 #[v] V fun r V'=>RQ V' r (x*((2:Int):Rat)⁻¹):=by
 have b:=h;obtain ⟨_,_,_,_,_,_,rfl⟩:=h.shape;refine Dl _ _ _ _ _ _ _ V _ fun j c=>(gJ 2 (by decide) (by decide)).mono ?_;rintro r V2 d g;have e:=g;obtain ⟨_,_,_,_,_,_,rfl⟩:=g.shape;refine ⟨_,_,_,_,_,_,_,rfl,fun l a=>(iI (b.le (c.trans (d.trans a))) (e.le a) (by show (2:Int)≠0;decide) sx AJ hk).mono ?_⟩;rintro r m n q;have f:=q;obtain ⟨_,_,_,_,_,_,rfl⟩:=q.shape;exact ⟨_,_,_,_,_,_,_,rfl,fun o i=>f.le i⟩
theorem Gm {V:View}{v w:Value}{x y:Rat}(h:RQ V v x)(h':RQ V w y){k:Nat}(sx:Sz k x)(sy:Sz k y)(hk:4*k+4<274877906944) :
  Acts prog 129 #[v,w] V fun r V'=>RQ V' r ((x+y)*((2:Int):Rat)⁻¹):=by
 have c:=h;have a:=h';obtain ⟨_,_,_,_,_,_,rfl⟩:=h.shape;obtain ⟨_,_,_,_,_,_,rfl⟩:=h'.shape;refine EX _ _ _ _ _ _ _ _ _ _ _ _ _ _ V _ fun j b=>(cK (c.le b) (a.le b) sx sy (by omega)).mono ?_;rintro r V2 l g;have d:=g;obtain ⟨_,_,_,_,_,_,rfl⟩:=g.shape;refine ⟨_,_,_,_,_,_,_,rfl,fun m e=>(DR (d.le e) (sx.add sy) (by omega)).mono ?_⟩;rintro r n o q;have f:=q;obtain ⟨_,_,_,_,_,_,rfl⟩:=q.shape;exact ⟨_,_,_,_,_,_,_,rfl,fun p i=>f.le i⟩
theorem Ly {s:Sp}{k:Nat}(ss:s.sz k):Sz (2*k+10) s.dw:=by
 have z:Sz (2*k+10) (0:Rat):=⟨by show (0:Int).natAbs<_;exact Nat.lt_of_lt_of_le (by decide) (Nat.one_le_two_pow),Nat.one_lt_two_pow (by omega)⟩;unfold Sp.dw;split
 ·split
  ·exact z
  ·exact (ss.2.sub gH).mono (by omega)
 ·split
  ·exact (ss.1.add gH).mono (by omega)
  ·exact ((ss.1.add ss.2).mul (fm AJ)).mono (by omega)
theorem mZ {V:View}{v w:Value}{x y x' y':Rat}(h:RP V v x y)(h':RP V w x' y'){k:Nat}(s1:Sz k x)(s2:Sz k y)(s3:Sz k x')(s4:Sz k y')(hk:4*k+4<274877906944) :
  Acts prog 141 #[v,w] V fun r V'=>RQ V' r (x*y'-y*x'):=by
 obtain ⟨_,_,_,_,_,_,_,_,_,_,_,_,rfl,i,j⟩:=h;obtain ⟨_,_,_,_,_,_,_,_,_,_,_,_,rfl,l,m⟩:=h';refine v_ _ _ _ _ _ _ _ _ _ _ _ _ _ _ _ _ _ _ _ _ _ _ _ _ _ _ _ _ V _ fun t a=>(aG (i.le a) (m.le a) s1 s4 (by omega)).mono ?_;rintro r V2 d g;have n:=g;obtain ⟨_,_,_,_,_,_,rfl⟩:=g.shape;refine ⟨_,_,_,_,_,_,_,rfl,fun u b=>(aG (j.le (a.trans (d.trans b))) (l.le (a.trans (d.trans b))) s2 s3 (by omega)).mono ?_⟩;rintro r z o e;have c:=e;obtain ⟨_,_,_,_,_,_,rfl⟩:=e.shape;refine ⟨_,_,_,_,_,_,_,rfl,fun A f=>(iy (n.le (b.trans (o.trans f))) (c.le f) (s1.mul s4) (s2.mul s3) (by omega)).mono ?_⟩;rintro r B C q;have p:=q;obtain ⟨_,_,_,_,_,_,rfl⟩:=q.shape;exact ⟨_,_,_,_,_,_,_,rfl,fun D s=>p.le s⟩
theorem vv {V:View}{p:OA}{n:Nat}{qs:List Rat}(h:Lst 3 RQ V p n qs){i:Nat}(hi:i<qs.length):∃ad b p1 n1 c1 p2 n2 c2,addrAdd p (i*3)=some ad/\RQ V (.agg #[.bool b,.slice p1 n1 c1,.slice p2 n2 c2]) qs[i] /\
  V.at (ad.add 0) (.bool b)/\V.at (ad.add 1) (.slice p1 n1 c1)/\V.at (ad.add 2) (.slice p2 n2 c2):=by
 obtain ⟨ad,f,xs,-,d,a⟩:=h.at_ i hi;have c:=d;obtain ⟨p1,n1,c1,p2,n2,c2,e⟩:=d.shape;have e:=congrArg Array.toList (Value.agg.inj e);dsimp only at e;subst e;exact ⟨ad,_,p1,n1,c1,p2,n2,c2,f,c,a 0 _ rfl,a 1 _ rfl,a 2 _ rfl⟩
theorem ub {V:View}{p:OA}{n c:Nat}{v:Value}{ss:List Sp}{t:Rat}(hl:DC V p n ss)(ht:RQ V v t){k:Nat}(hs:∀s∈ss,s.sz k)(st:Sz k t)(hk:2*k<274877906944)(hn:ss.length<4611686018427387904) :
  Acts prog 126 #[.slice p n c,v] V fun r V'=>r=.bool (mT ss t==2):=by
 have a:=ht;obtain ⟨_,_,_,_,_,_,rfl⟩:=ht.shape;refine DA p n c _ _ _ _ _ _ _ V _ fun d b=>(wS (hl.le b) (a.le b) hs st hk hn).mono ?_;rintro r V2 e rfl;exact ⟨_,rfl,fun f g=>rfl⟩
def xd (c:List Rat)(i:Nat):List Rat:=(c.getD 0 0-((1:Int):Rat))::(List.range (i-1)).map fun k=>(c.getD k 0+c.getD (k+1) 0)*((2:Int):Rat)⁻¹
def ch (c:List Rat):List Rat:=if c.length=0 then [0] else xd c c.length++[c.getD (c.length-1) 0+((1:Int):Rat)]
theorem ve (c:List Rat){i:Nat}(h:1<=i):(xd c i).length=i:=by unfold xd;simp;omega
theorem GZ (c:List Rat){i:Nat}(h:1<=i):xd c (i+1)=xd c i++[(c.getD (i-1) 0+c.getD i 0)*((2:Int):Rat)⁻¹]:=by
 obtain ⟨m,rfl⟩:∃m,i=m+1:=⟨i-1,by omega⟩;unfold xd;rw [Nat.add_sub_cancel,Nat.add_sub_cancel,List.range_succ,List.map_append];rfl
theorem eZ {c:List Rat}{i:Nat}(h:i<c.length):c.getD i 0=c[i]:=by rw [List.getD_eq_getElem?_getD,List.getElem?_eq_getElem h];rfl
theorem ua {V:View}{p:OA}{n c:Nat}{cs:List Rat}(h:Lst 3 RQ V p n cs)(hn:cs.length<1000000000){k:Nat}(hs:∀q∈cs,Sz k q)(hk:4*k+8<274877906944) :
  Acts prog 125 #[.slice p n c] V fun r V'=>∃q m e,r=.slice q m e/\Lst 3 RQ V' q m (ch cs):=by
 obtain rfl:=h.len;refine sS p _ c V _ ⟨fun l V1 l1 bk D=>?_,fun l=>?_⟩
 ·have l:cs.length=0:=by simpa using l
  have e:ch cs=[0]:=if_pos l;rw [e];refine ⟨_,_,_,rfl,Lst.nM D (row_one rfl ?_)⟩;have:=RQ.zero (V:=V1);simpa using this
 ·have l:¬cs.length=0:=by simpa using l
  have e:ch cs=xd cs cs.length++[cs.getD (cs.length-1) 0+((1:Int):Rat)]:=if_neg l;rw [e];have i0:0<cs.length:=by omega
  obtain ⟨ad,b,p1,n1,c1,p2,n2,c2,W,hq,a0,a1,a2⟩:=vv h i0;refine ⟨bF W,⟨by omega,by omega⟩,_,_,_,_,_,_,_,ad,W,a0,a1,a2,fun V2 X=>(gJ 1 (by decide) (by decide)).mono ?_⟩;rintro r V3 Y g;have g0:=g;obtain ⟨_,_,_,_,_,_,rfl⟩:=g.shape;refine ⟨_,_,_,_,_,_,_,rfl,fun V4 E=>(iy (hq.le (X.trans (Y.trans E))) (g0.le E) (hs _ (List.getElem_mem i0)) gH (by omega)).mono ?_⟩;rintro r V5 l5 Z;have Li:=Z;obtain ⟨_,_,_,_,_,_,rfl⟩:=Z.shape;have w:V.Le V5:=X.trans (Y.trans (E.trans l5))
  refine ⟨_,_,_,_,_,_,_,rfl,fun z V'=>∃i:Nat,z.2.2.2=(i:Int)/\1<=i/\i<=cs.length/\z.1=i/\i<=z.2.1/\z.2.1*3<=z.2.2.1.length/\Row 3 RQ V' z.2.2.1 (xd cs i),fun z=>cs.length-z.2.2.2.toNat,
   ⟨(1,1,_,1),by and_intros<;>first|rfl|decide,1,rfl,Nat.le_refl _,i0,rfl,Nat.le_refl _,Nat.le_refl _,row_one rfl (by rw [eZ i0];exact Li)⟩,?_⟩
  rintro ⟨a,z2,vs,z4⟩ V6 x ⟨i,e4,i1,a3,e1,F,G,H⟩;dsimp only at e4 e1 F G H;subst e4 e1;have hlen:=ve cs i1;refine ⟨rfl,fun d=>?_,fun d=>?_⟩
  ·have d:(a:Int)<cs.length:=of_decide_eq_true d;have j:a<cs.length:=by omega
   have o:a-1<cs.length:=by omega
   have I:i64.wrap ((a:Int)-1)=((a-1:Nat):Int):=by rw [i64w (by omega)];omega
   have w2:i64.wrap ((a:Int)+1)=(a:Int)+1:=i64w (by omega);dsimp only;rw [I,w2,Int.toNat_natCast,Int.toNat_natCast];obtain ⟨J,b1,p3,n3,c3,p4,n4,c4,f,s,b0,t,K⟩:=vv (h.le (w.trans x) fun _ _ g=>g.le (w.trans x)) o;obtain ⟨Ry,d1,p5,n5,c5,p6,n6,c6,y,M,d0,N,d2⟩:=vv (h.le (w.trans x) fun _ _ g=>g.le (w.trans x)) j;refine ⟨bF f,⟨by omega,by omega⟩,_,_,_,_,_,_,_,J,f,b0,t,K,bF y,⟨by omega,by omega⟩,_,_,_,_,_,_,_,Ry,y,d0,N,d2,fun V7 O=>(Gm (s.le O) (M.le O) (hs _ (List.getElem_mem o)) (hs _ (List.getElem_mem j)) (by omega)).mono ?_⟩;rintro r V8 l8 A;have P:=A;obtain ⟨_,_,_,_,_,_,rfl⟩:=A.shape;refine ⟨_,_,_,_,_,_,_,rfl,by omega,F,G,rfl,?_,fun sp Q R h2=>⟨(a+1,Q,_,(a:Int)+1),by dsimp only;omega,by and_intros<;>rfl,a+1,rfl,by omega,j,rfl,R,?_,?_⟩⟩
   ·intro v hm;simp only [List.mem_cons,List.not_mem_nil,or_false] at hm;rcases hm with rfl|rfl|rfl<;>rfl
   ·dsimp only;have ht:(vs.take (a*3)).length=a*3:=by rw [List.length_take];omega
    rw [List.length_append,List.length_append,ht];simp only [List.length_cons,List.length_nil];omega
   ·dsimp only;rw [GZ cs i1,eZ o,eZ j];have:=(H.le (V':=V8) fun _ _ g=>g.le (O.trans l8)).snoc (sp:=sp) rfl P (by decide);rw [hlen] at this;exact this
  ·have d:¬(a:Int)<cs.length:=of_decide_eq_false d;obtain rfl:a=cs.length:=by omega
   have j:cs.length-1<cs.length:=by omega
   have I:i64.wrap ((cs.length:Int)-1)=((cs.length-1:Nat):Int):=by rw [i64w (by omega)];omega
   dsimp only;rw [I,Int.toNat_natCast];obtain ⟨J,b1,p3,n3,c3,p4,n4,c4,f,s,b0,t,K⟩:=vv (h.le (w.trans x) fun _ _ g=>g.le (w.trans x)) j;refine ⟨bF f,⟨by omega,by omega⟩,_,_,_,_,_,_,_,J,f,b0,t,K,fun V9 l9=>(gJ 1 (by decide) (by decide)).mono ?_⟩;rintro r a4 B g2;have S:=g2;obtain ⟨_,_,_,_,_,_,rfl⟩:=g2.shape;refine ⟨_,_,_,_,_,_,_,rfl,fun a5 u=>(cK (s.le (l9.trans (B.trans u))) (S.le u) (hs _ (List.getElem_mem j)) gH (by omega)).mono ?_⟩;rintro r a6 T A;have P:=A;obtain ⟨_,_,_,_,_,_,rfl⟩:=A.shape;refine ⟨_,_,_,_,_,_,_,rfl,by omega,F,G,rfl,?_,fun sp Q R h2 U C bk D=>?_⟩
   ·intro v hm;simp only [List.mem_cons,List.not_mem_nil,or_false] at hm;rcases hm with rfl|rfl|rfl<;>rfl
   ·have L:=l9.trans (B.trans (u.trans (T.trans C)));have:=(H.le (V':=U) fun _ _ g=>g.le L).snoc (sp:=sp) rfl (P.le C) (by decide);rw [hlen] at this;have k:=Lst.of_mrow (c:=Q) D this (by decide) (by rw [List.length_append,hlen];exact R);rw [List.length_append,hlen] at k;rw [eZ j];exact ⟨_,_,_,rfl,k⟩
def cX (x:Rat):List Rat->List Rat
 | []=>[x]
 | y::r=>if y<x then y::cX x r else if y=x then y::r else x::y::r
theorem KX {x:Rat}:∀(o:List Rat)(k:Nat),k<=o.length->(∀j (h:j<o.length),j<k->o[j]<x)->(∀h:k<o.length,¬o[k]<x) ->
  cX x o=if (∃h:k<o.length,o[k]=x) then o else o.take k++x::o.drop k:=by
 intro o
 induction o with
 | nil=>
  intro k f _ _;obtain rfl:k=0:=by simpa using f
  simp [cX]
 | cons y r ih=>
  intro k f a b
  cases k with
  | zero=>
   have g:¬y<x:=b (by simp);unfold cX;rw [if_neg g];by_cases e:y=x
   ·rw [if_pos e,if_pos ⟨by simp,e⟩]
   ·rw [if_neg e,if_neg (by rintro ⟨_,h⟩;exact e h)];rfl
  | succ k=>
   have g:y<x:=a 0 (by simp) (by omega);unfold cX;rw [if_pos g,ih k (by simpa using f) (fun j h i=>a (j+1) (by simpa using h) (by omega)) (fun h=>b (by simpa using h))];by_cases e:∃h:k<r.length,r[k]=x
   ·obtain ⟨c,d⟩:=e;rw [if_pos ⟨c,d⟩,if_pos ⟨by simpa using c,d⟩]
   ·rw [if_neg e,if_neg (by rintro ⟨c,d⟩;exact e ⟨by simpa using c,d⟩)];rfl
def dQ (s:Sp)(o:List Rat):Nat->List Rat
 | 0=>o
 | 1=>if s.a then o else cX s.lo o
 | _=>if s.b then (if s.a then o else cX s.lo o) else cX s.hi (if s.a then o else cX s.lo o)
def cL (ss:List Sp):List Rat:=ss.foldl (fun o s=>dQ s o 2) []
theorem DY {ss:List Sp}{i:Nat}(hi:i<ss.length):cL (ss.take (i+1))=dQ ss[i] (cL (ss.take i)) 2:=by
 unfold cL;rw [List.take_add_one,List.getElem?_eq_getElem hi,List.foldl_append];rfl
theorem Ce {x q:Rat}:∀{o:List Rat},q∈cX x o->q=x\/q∈o:=by
 intro o
 induction o with
 | nil=>intro h;simp [cX] at h;exact .inl h
 | cons y r ih=>
  unfold cX;split
  ·intro h;rcases List.mem_cons.1 h with h|h
   ·exact .inr (by simp [h])
   ·rcases ih h with h|h
    ·exact .inl h
    ·exact .inr (by simp [h])
  ·split
   ·exact .inr
   ·intro h;rcases List.mem_cons.1 h with h|h
    ·exact .inl h
    ·exact .inr h
theorem Cd {x:Rat}:∀{o:List Rat},(cX x o).length<=o.length+1:=by
 intro o
 induction o with
 | nil=>simp [cX]
 | cons y r ih=>
  unfold cX;split
  ·simp;omega
  ·split<;>simp
theorem EA {s:Sp}{o:List Rat}{y:Nat}(hy:y<2):dQ s o (y+1)=if (if y=0 then s.a else s.b)=true then dQ s o y else cX (if y=0 then s.lo else s.hi) (dQ s o y):=by
 have:y=0\/y=1:=by omega
 rcases this with rfl|rfl<;>rfl
theorem zm {s:Sp}{o:List Rat}{y:Nat}(hy:y<=2):(dQ s o y).length<=o.length+y:=by
 have e:=@Cd s.lo o;have f:=@Cd s.hi (if s.a then o else cX s.lo o);have d:(if s.a then o else cX s.lo o).length<=o.length+1:=by split<;>omega
 have:y=0\/y=1\/y=2:=by omega
 rcases this with rfl|rfl|rfl
 ·exact Nat.le_refl _
 ·exact d
 ·show (if s.b=true then (if s.a=true then o else cX s.lo o) else cX s.hi (if s.a=true then o else cX s.lo o)).length<=_;by_cases c:s.b=true
  ·rw [if_pos c];omega
  ·rw [if_neg c];omega
theorem zo {s:Sp}{o:List Rat}{y:Nat}(hy:y<=2){q:Rat}(h:q∈dQ s o y):q=s.lo\/q=s.hi\/q∈o:=by
 have c:q∈(if s.a then o else cX s.lo o)->q=s.lo\/q=s.hi\/q∈o:=by
  split
  ·exact fun h=>.inr (.inr h)
  ·intro h;rcases Ce h with h|h
   ·exact .inl h
   ·exact .inr (.inr h)
 have:y=0\/y=1\/y=2:=by omega
 rcases this with rfl|rfl|rfl
 ·exact .inr (.inr h)
 ·exact c h
 ·replace h:q∈(if s.b=true then (if s.a=true then o else cX s.lo o) else cX s.hi (if s.a=true then o else cX s.lo o)):=h
  by_cases d:s.b=true
  ·rw [if_pos d] at h;exact c h
  ·rw [if_neg d] at h;rcases Ce h with h|h
   ·exact .inr (.inl h)
   ·exact c h
theorem yD (ss:List Sp):(cL ss).length<=2*ss.length:=by
 have:∀(ss:List Sp)(o:List Rat),(ss.foldl (fun o s=>dQ s o 2) o).length<=o.length+2*ss.length:=by
  intro ss
  induction ss with
  | nil=>intro o;simp
  | cons s r ih=>
   intro o;have:=ih (dQ s o 2);have a:=zm (s:=s) (o:=o) (Nat.le_refl 2);simp only [List.foldl_cons,List.length_cons];omega
 have:=this ss [];simpa [cL] using this
theorem yE {ss:List Sp}{q:Rat}(h:q∈cL ss):∃s∈ss,q=s.lo\/q=s.hi:=by
 have:∀(ss:List Sp)(o:List Rat),q∈(ss.foldl (fun o s=>dQ s o 2) o)->q∈o\/∃s∈ss,q=s.lo\/q=s.hi:=by
  intro ss
  induction ss with
  | nil=>exact fun o h=>.inl h
  | cons s r ih=>
   intro o h;rcases ih _ h with h|⟨t,a,h⟩
   ·rcases zo (Nat.le_refl 2) h with h|h|h
    ·exact .inr ⟨s,by simp,.inl h⟩
    ·exact .inr ⟨s,by simp,.inr h⟩
    ·exact .inl h
   ·exact .inr ⟨t,by simp [a],h⟩
 rcases this ss [] h with h|h
 ·simp at h
 ·exact h
theorem JJ {V:View}{vs:List Value}{qs:List Rat}(h:Row 3 RQ V vs qs){i:Nat}(hi:i<qs.length):∃b p1 n1 c1 p2 n2 c2,i*3+3<=vs.length/\(vs.drop (i*3)).take 3=[.bool b,.slice p1 n1 c1,.slice p2 n2 c2]/\RQ V (.agg #[.bool b,.slice p1 n1 c1,.slice p2 n2 c2]) qs[i]:=by
 obtain ⟨xs,-,d,a⟩:=h.at_ i hi;have c:=d;obtain ⟨p1,n1,c1,p2,n2,c2,e⟩:=d.shape;have e:=congrArg Array.toList (Value.agg.inj e);dsimp only at e;subst e;have a0:=a 0 _ rfl;have k:=a 1 _ rfl;have f:=a 2 _ rfl;have l:=(List.getElem?_eq_some_iff.1 f).1;refine ⟨_,p1,n1,c1,p2,n2,c2,by omega,?_,c⟩;apply List.ext_getElem?;intro j;rw [List.getElem?_take];by_cases g:j<3
 ·rw [if_pos g,List.getElem?_drop];have:j=0\/j=1\/j=2:=by omega
  rcases this with rfl|rfl|rfl
  ·exact a0
  ·exact k
  ·exact f
 ·rw [if_neg g,List.getElem?_eq_none (by simp;omega)]
theorem H3 {a b:Rat}:eM a b<0↔a<b:=by
 rcases gy a b with ⟨h,e⟩|⟨h,e⟩|⟨h,e⟩<;>rw [e]<;>constructor<;>intro h'<;>first|exact h|omega|(exfalso;grind)
theorem NY {V:View}{xs:List Value}{q:Rat}(h:RQ V (.agg xs.toArray) q):∀v∈xs,v.oneCell'=true:=by
 obtain ⟨p,n,c,b,d,e,ex⟩:=h.shape;have ex:=congrArg Array.toList (Value.agg.inj ex);dsimp only at ex;subst ex;intro v a;simp only [List.mem_cons,List.not_mem_nil,or_false] at a;rcases a with rfl|rfl|rfl<;>rfl
set_option maxHeartbeats 1000000 in
theorem zP {V:View}{p:OA}{n c:Nat}{ss:List Sp}(h:DC V p n ss)(hn:ss.length<100000000){k:Nat}(hs:∀s∈ss,s.sz k)(hk:2*k<274877906944) :
  Acts prog 124 #[.slice p n c] V fun r V'=>∃q m e,r=.slice q m e/\Lst 3 RQ V' q m (cL ss):=by
 obtain rfl:=h.len
 refine xQ p _ c V _ ⟨fun z V'=>∃i:Nat,z.2.2.2=(i:Int)/\i<=ss.length/\z.1=(cL (ss.take i)).length/\z.1<=z.2.1/\z.2.1*3<=z.2.2.1.length/\Row 3 RQ V' z.2.2.1 (cL (ss.take i)),fun z=>ss.length-z.2.2.2.toNat,
  ⟨(0,0,[],0),by and_intros<;>rfl,0,rfl,Nat.zero_le _,rfl,Nat.le_refl _,Nat.le_refl _,Row.nil⟩,?_⟩
 rintro ⟨z1,z2,vs,z4⟩ V1 l1 ⟨i,e4,b8,e1,ic,hv,hx⟩;dsimp only at e4 e1 ic hv hx;subst e4;refine ⟨rfl,fun f=>?_,fun f b9 a5 bk hb=>?_⟩
 ·have f:(i:Int)<ss.length:=of_decide_eq_true f;have hi:i<ss.length:=by omega
  have w:i64.wrap ((i:Int)+1)=(i:Int)+1:=i64w (by omega);dsimp only;rw [Int.toNat_natCast,w];obtain ⟨ad,N,xs,hf,l⟩:=(h.le l1).at_ i hi;have B:=hs _ (List.getElem_mem hi);have v:=DY hi
  have c0:(cL (ss.take i)).length<300000000:=by
   have:=yD (ss.take i);rw [List.length_take] at this;omega
  have YD:∀q∈cL (ss.take i),Sz k q:=fun q F=>by
   obtain ⟨s,h1,h2⟩:=yE F;have:=hs s (List.mem_of_mem_take h1);rcases h2 with rfl|rfl
   ·exact this.1
   ·exact this.2
  generalize cL (ss.take i)=o at *;generalize ss[i]=s at *;obtain ⟨b,P,Q,S,T,U,W,d,X,Y,f1,Z,m2,f2,ex,a6,a7⟩:=hf;have ex:=congrArg Array.toList (Value.agg.inj ex);dsimp only at ex;subst ex
  refine ⟨bF N,⟨by omega,by omega⟩,b,P,Q,S,T,U,W,d,X,Y,f1,Z,m2,f2,s.a,s.b,ad,N,l 0 _ rfl,l 1 _ rfl,l 2 _ rfl,l 3 _ rfl,l 4 _ rfl,l 5 _ rfl,l 6 _ rfl,l 7 _ rfl,
   fun z _=>z=(2,2,[.bool b,.slice P Q S,.slice T U W,.bool d,.slice X Y f1,.slice Z m2 f2],2,0),⟨(2,2,[.bool b,.slice P Q S,.slice T U W,.bool d,.slice X Y f1,.slice Z m2 f2],2,0),by and_intros<;>first|rfl|decide,rfl⟩,?_⟩
  rintro z V2 l2 rfl;dsimp only
  refine ⟨rfl,fun z V'=>∃y:Nat,z.2.2.2=(y:Int)/\y<=2/\z.1=(dQ s o y).length/\z.1<=z.2.1/\z.2.1*3<=z.2.2.1.length/\Row 3 RQ V' z.2.2.1 (dQ s o y),fun z=>2-z.2.2.2.toNat,
   ⟨(z1,z2,vs,0),by and_intros<;>rfl,0,rfl,by omega,e1,ic,hv,hx.le fun _ _ g=>g.le l2⟩,?_⟩
  rintro ⟨A,w2,us,w4⟩ V3 l3 ⟨y,f4,a1,g1,G,fv,H⟩;dsimp only at f4 g1 G fv H;subst f4;refine ⟨rfl,fun hy=>?_,fun hy=>?_⟩
  ·have hy:(y:Int)<2:=of_decide_eq_true hy;have a8:y<2:=by omega
   have a2:=EA (s:=s) (o:=o) a8;have c3:=zm (s:=s) (o:=o) a1
   have O6:∀q∈dQ s o y,Sz k q:=fun q F=>by
    rcases zo a1 F with h|h|h
    ·rw [h];exact B.1
    ·rw [h];exact B.2
    ·exact YD q h
   have wy:i64.wrap ((y:Int)+1)=(y:Int)+1:=i64w (by omega);generalize hO:dQ s o y=O at *;generalize O5:dQ s o (y+1)=O' at *
   have el:∃eb ep en ec eq em ee x no,([.bool b,.slice P Q S,.slice T U W,.bool d,.slice X Y f1,.slice Z m2 f2].drop (y*3)).take 3=[Value.bool eb,.slice ep en ec,.slice eq em ee]/\RQ V3 (.agg #[.bool eb,.slice ep en ec,.slice eq em ee]) x/\Sz k x/\O'=(if no=true then O else cX x O) /\
     ((y=0/\no=s.a)\/(y=1/\no=s.b)):=by
    have:y=0\/y=1:=by omega
    rcases this with rfl|rfl
    ·exact ⟨b,P,Q,S,T,U,W,s.lo,s.a,rfl,a6.le (l2.trans l3),B.1,a2,.inl ⟨rfl,rfl⟩⟩
    ·exact ⟨d,X,Y,f1,Z,m2,f2,s.hi,s.b,rfl,a7.le (l2.trans l3),B.2,a2,.inr ⟨rfl,rfl⟩⟩
   obtain ⟨eb,ep,en,ec,eq,em,ee,x,no,XW,F,sx,I,a9⟩:=el;dsimp only;rw [Int.toNat_natCast,wy];refine ⟨⟨by omega,by omega⟩,Nat.le_refl _,eb,ep,en,ec,eq,em,ee,⟨by simp;omega,XW⟩,fun z _=>z=no,?_,?_⟩
   ·rcases a9 with ⟨rfl,rfl⟩|⟨rfl,rfl⟩
    ·exact ⟨fun _=>⟨fun N=>⟨true,by and_intros<;>rfl,N.symm⟩,fun N=>⟨(fun h=>by simp at h),fun _=>⟨false,by and_intros<;>rfl,N.symm⟩⟩⟩,fun h=>by simp at h⟩
    ·exact ⟨fun h=>by simp at h,fun _=>⟨fun _=>⟨s.b,by and_intros<;>rfl,rfl⟩,fun h=>by simp at h⟩⟩
   ·rintro z V4 D rfl;refine ⟨rfl,fun u=>⟨(A,w2,us,(y:Int)+1),by dsimp only;omega,by and_intros<;>rfl,y+1,rfl,by omega,?_,G,fv,?_⟩,fun u=>?_⟩
    ·show A=(dQ s o (y+1)).length;rw [O5,I,if_pos u];exact g1
    ·show Row 3 RQ V4 us (dQ s o (y+1));rw [O5,I,if_pos u];exact H.le fun _ _ g=>g.le D
    ·have K:O'=cX x O:=by rw [I,u];rfl
     refine ⟨fun z _=>∃j:Nat,z=(j:Int)/\j<=O.length/\∀(E:Nat)(h:E<O.length),E<j->O[E]<x,fun z=>O.length-z.toNat,⟨0,by and_intros<;>rfl,0,rfl,Nat.zero_le _,fun E _ h=>absurd h (Nat.not_lt_zero E)⟩,?_⟩;rintro z V5 L ⟨j,rfl,b1,jl⟩;have wj:i64.wrap ((j:Int)+1)=(j:Int)+1:=i64w (by omega);rw [Int.toNat_natCast,wj];refine ⟨rfl,fun z _=>z=true↔∃h:j<O.length,O[j]<x,⟨fun f=>?_,fun f=>⟨false,by and_intros<;>rfl,?_⟩⟩,?_⟩
     ·have f:(j:Int)<(A:Int):=of_decide_eq_true f;have C:j<O.length:=by omega
      obtain ⟨rb,rp,rn,rc,rq,rm,re,eN,Ih,hr⟩:=JJ H C;refine ⟨⟨by omega,by omega⟩,G,rb,rp,rn,rc,rq,rm,re,⟨eN,Ih⟩,fun V6 l6=>(hU (hr.le (D.trans (L.trans l6))) (F.le (D.trans (L.trans l6))) (O6 _ (List.getElem_mem C)) sx (by omega)).mono ?_⟩;rintro r V7 l7 rfl;exact ⟨_,rfl,_,by and_intros<;>rfl,by dsimp only;rw [decide_eq_true_eq,H3];exact ⟨fun h=>⟨C,h⟩,fun ⟨_,h⟩=>h⟩⟩
     ·have f:¬(j:Int)<(A:Int):=of_decide_eq_false f;exact ⟨(fun h=>nomatch h),fun ⟨h,_⟩=>absurd h (by omega)⟩
     ·rintro z V8 l8 PA;refine ⟨rfl,fun u=>?_,fun u=>?_⟩
      ·obtain ⟨C,b2⟩:=PA.1 u;refine ⟨(j:Int)+1,by dsimp only;omega,by and_intros<;>rfl,j+1,rfl,C,fun E h c4=>?_⟩;by_cases e:E=j
       ·subst e;exact b2
       ·exact jl E h (by omega)
      ·have b3:∀h:j<O.length,¬O[j]<x:=fun h h'=>by
        have:=PA.2 ⟨h,h'⟩;rw [u] at this;cases this
       have t:=KX O j b1 jl b3;refine ⟨fun z _=>z=true↔¬∃h:j<O.length,O[j]=x,⟨fun he=>⟨true,by and_intros<;>rfl,?_⟩,fun he=>?_⟩,?_⟩
       ·have he:(j:Int)=(A:Int):=by simpa using he
        exact ⟨fun _ ⟨h,_⟩=>absurd h (by omega),fun _=>rfl⟩
       ·have he:¬(j:Int)=(A:Int):=by simpa using he
        have C:j<O.length:=by omega
        obtain ⟨rb,rp,rn,rc,rq,rm,re,eN,Ih,hr⟩:=JJ H C;refine ⟨⟨by omega,by omega⟩,G,rb,rp,rn,rc,rq,rm,re,⟨eN,Ih⟩,fun V6 l6=>(hU (hr.le (D.trans (L.trans (l8.trans l6)))) (F.le (D.trans (L.trans (l8.trans l6)))) (O6 _ (List.getElem_mem C)) sx (by omega)).mono ?_⟩;rintro r V7 l7 rfl;exact ⟨_,rfl,_,by and_intros<;>rfl,by dsimp only;rw [bne_iff_ne,ne_eq,←h_];exact ⟨fun h ⟨_,h'⟩=>h h',fun h h'=>h ⟨C,h'⟩⟩⟩
       ·rintro z b4 M IC;refine ⟨rfl,fun u b5 a3 bk hb J=>?_,fun u=>?_⟩
        ·have b6:=IC.1 u;rw [if_neg b6] at t;obtain ⟨xs,ys,x1,x2,x3,y1,y2,y3,r1,r2,r3,r4,r5⟩:=Fw (V:=b5) (R:=RQ) (GR.mono ⟨g1,G,fv,H⟩ fun _ _ g=>g.le (D.trans (L.trans (l8.trans (M.trans a3))))) (by decide) (fun _ _=>NY) hb (es:=[_,_,_]) rfl (F.le (D.trans (L.trans (l8.trans (M.trans a3))))) (j:=j) (by omega);refine ⟨⟨by omega,by omega⟩,⟨by omega,by omega⟩,⟨by omega,by omega⟩,xs,x1,x2,by omega,Nat.le_refl _,Nat.le_refl _,x2,x3,fun c5 J2 sp c' h1 h2=>?_⟩;rw [r1,r2];refine ⟨ys,y1,y2,Nat.le_refl _,y3,by omega,by omega,r3,r4,fun b7 a4 h3 h4=>⟨(j+(1+(A-j)),a4,_,(y:Int)+1),by dsimp only;omega,by and_intros<;>first|rfl|omega,y+1,rfl,by omega,?_⟩⟩;have r6:=r5 b7 a4 h3 h4;rw [←t,←K,←O5] at r6;exact ⟨r6.len,r6.le,r6.cap,r6.row⟩
        ·have hex:∃h:j<O.length,O[j]=x:=Classical.byContradiction fun h=>by have:=IC.2 h;rw [u] at this;cases this
         rw [if_pos hex] at t;refine ⟨(A,w2,us,(y:Int)+1),by dsimp only;omega,by and_intros<;>rfl,y+1,rfl,by omega,?_,G,fv,?_⟩
         ·show A=(dQ s o (y+1)).length;rw [O5,K,t];exact g1
         ·show Row 3 RQ b4 us (dQ s o (y+1));rw [O5,K,t];exact H.le fun _ _ g=>g.le (D.trans (L.trans (l8.trans M)))
  ·have hy:¬(y:Int)<2:=of_decide_eq_false hy;obtain rfl:y=2:=by omega
   exact ⟨(A,w2,us,(i:Int)+1),by dsimp only;omega,by and_intros<;>rfl,i+1,rfl,hi,by dsimp only;rw [v];exact g1,G,fv,by dsimp only;rw [v];exact H⟩
 ·have f:¬(i:Int)<ss.length:=of_decide_eq_false f;obtain rfl:i=ss.length:=by omega
  rw [List.take_length] at e1 hx;subst e1;exact ⟨_,_,_,rfl,Lst.of_mrow hb (hx.le fun _ _ g=>g.le a5) (by decide) ic⟩
def cN (cuts:List Rat)(i:Nat):Sp:=⟨if 0<i then cuts.getD (i-1) 0 else 0,if i<cuts.length then cuts.getD i 0 else 0,decide (i=0),decide (i=cuts.length)⟩
def qI (out:List Sp)(s:Sp):List Sp:=out.dropLast++[⟨(out.getLastD Sp.zero).lo,s.hi,(out.getLastD Sp.zero).a,s.b⟩]
def b_ (cuts:List Rat)(marks:List Bool):Nat->List Sp
 | 0=>[]
 | i+1=>if marks.getD i false=true then (if 0<i/\marks.getD (i-1) false=true/\0<(b_ cuts marks i).length then qI (b_ cuts marks i) (cN cuts i) else b_ cuts marks i++[cN cuts i]) else b_ cuts marks i
def BT (cuts:List Rat)(marks:List Bool):List Sp:=b_ cuts marks marks.length
theorem uM {out:List Sp}{s:Sp}(h:0<out.length):(qI out s).length=out.length:=by
 unfold qI;rw [List.length_append,List.length_dropLast];simp;omega
theorem Gz (cuts:List Rat)(marks:List Bool)(i:Nat):(b_ cuts marks i).length<=i:=by
 induction i with
 | zero=>simp [b_]
 | succ i ih=>
  unfold b_;split
  ·split
   ·rename_i h;rw [uM h.2.2];omega
   ·rw [List.length_append];simp;omega
  ·omega
theorem JH {α:Type}{sz:Nat}{R:View->Value->α->Prop}{V:View}{vs us:List Value}{ls:List α}(h:Row sz R V vs ls)(h0:0<ls.length){xs:List Value}{a:α}(hx:xs.length=sz)(ha:R V (.agg xs.toArray) a)
  (hlow:∀q,q<(ls.length-1)*sz->us[q]?=vs[q]?)(hlast:∀j x,xs[j]?=some x->us[(ls.length-1)*sz+j]?=some x):Row sz R V us (ls.dropLast++[a]):=by
 refine ⟨fun i o=>?_⟩;have p:(ls.dropLast++[a]).length=ls.length:=by rw [List.length_append,List.length_dropLast];simp;omega
 by_cases e:i=ls.length-1
 ·subst e;refine ⟨xs,hx,?_,hlast⟩
  have b:(ls.dropLast++[a])[ls.length-1]=a:=by
   rw [List.getElem_append_right (by simp)];simp
  rw [b];exact ha
 ·have c:i<ls.length-1:=by omega
  obtain ⟨g,k,l,m⟩:=h.at_ i (by omega);refine ⟨g,k,?_,fun j x f=>?_⟩
  ·have b:(ls.dropLast++[a])[i]=ls[i]:=by
    rw [List.getElem_append_left (by rw [List.length_dropLast];exact c),List.getElem_dropLast]
   rw [b];exact l
  ·have n:=(List.getElem?_eq_some_iff.1 f).1
   have d:i*sz+j<(ls.length-1)*sz:=by
    have:(i+1)*sz<=(ls.length-1)*sz:=Nat.mul_le_mul_right _ (by omega);rw [Nat.succ_mul] at this;omega
   rw [hlow _ d];exact m j x f
def Rr (_:View)(v:Value)(b:Bool):Prop:=v=.agg #[.bool b]
theorem Mk {V:View}{p:OA}{n:Nat}{bs:List Bool}(h:Lst 1 Rr V p n bs){i:Nat}(hi:i<bs.length):∃ad,addrAdd p (i*1)=some ad/\V.at ad (.bool bs[i]):=by
 obtain ⟨ad,a,xs,-,e,b⟩:=h.at_ i hi;have e:=congrArg Array.toList (Value.agg.inj e);dsimp only at e;subst e;have:=b 0 _ rfl;exact ⟨ad,a,by simpa [Addr.add] using this⟩
theorem pC {V:View}{xs:List Value}{s:Sp}(h:lf V (.agg xs.toArray) s):∃b p n c p' n' c' d q m e q' m' e',xs=[.bool b,.slice p n c,.slice p' n' c',.bool d,.slice q m e,.slice q' m' e',.bool s.a,.bool s.b] /\
  RQ V (.agg #[.bool b,.slice p n c,.slice p' n' c']) s.lo/\RQ V (.agg #[.bool d,.slice q m e,.slice q' m' e']) s.hi:=by
 obtain ⟨_,_,_,_,_,_,_,_,_,_,_,_,_,_,ex,f,g⟩:=h;have ex:=congrArg Array.toList (Value.agg.inj ex);exact ⟨_,_,_,_,_,_,_,_,_,_,_,_,_,_,ex,f,g⟩
end Go.Proofs.Tryz
