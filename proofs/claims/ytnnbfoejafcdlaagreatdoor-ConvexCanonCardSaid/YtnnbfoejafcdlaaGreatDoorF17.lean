import Derived.Test.YtnnbfoejafcdlaaGreatDoorF16
import Derived.Test.YtnnbfoejafcdlaaGreatDoorF13
import Derived.Test.YtnnbfoejafcdlaaGreatDoorF8
import Derived.Test.YtnnbfoejafcdlaaGreatDoorF14
import Derived.Test.YtnnbfoejafcdlaaGreatDoorF15
import Derived.Test.YtnnbfoejafcdlaaGreatDoorF12
import Derived.Test.YtnnbfoejafcdlaaGreatDoorF5
import Derived.Test.YtnnbfoejafcdlaaGreatDoorF7
import Derived.Test.YtnnbfoejafcdlaaGreatDoorF9
set_option linter.unusedVariables false
open Go.IntKind (i64 u64 u32)
namespace Go.Proofs.Tryz
open Go.bJ Go.fo
theorem S7 {V:View}{tb:Nat}{p:OA}{n c:Nat}{at_:Int}(hr:HS V p n)(hn:n<=400)(hw:pe V tb p n c at_)(hx:V.X tb)(h0:0<=at_) :
  ab prog 72 #[.pointer (some ⟨tb,0,none⟩),.int .i64 7] V fun r V'=>∃(at':Int)(ls:List L3)(bk n' c':Nat)(vs:List Value),0<=at'/\pe V' tb p n c at'/\r=.slice (mA bk c') n' c' /\
   (vs≠[]->V'.w.heap[bk]?=some (.cells vs.toArray 27 (0,0)))/\(vs≠[]->V.w.heap.size<=bk)/\GR 6 bT (V'.jv (vs≠[]) bk) n' c' vs ls/\ls.length<=7/\∀l∈ls,dP l=true/\Bd l:=by
 have w8:i64.wrap ((7:Int)+1)=8:=ay (by omega)
 refine rF tb p n c at_ 7 V _ hw hx fun V1 l1 bk1 e1 h1=>?_
 rw [w8]
 refine (qC (V:=V1.bo [bk1]) 8 (hr.le fun b o h=>l1 b o h) hn e1 ⟨by simp,h1⟩ h0 (by omega) (by omega)).mono ?_
 rintro r V2 l2 ⟨x,H8,rfl,x0,x1,t1,hw1⟩
 refine ⟨_,rfl,p,n,c,H8,hw1,fun z V'=>∃(ls:List L3),z.2.2.2.2.1=p/\z.2.2.2.2.2.1=n/\z.2.2.2.2.2.2.1=c/\0<=z.2.2.2.2.2.2.2/\0<=z.2.2.2.1/\(ls.length:Int)+z.2.2.2.1<=7/\GR 6 bT V' z.1 z.2.1 z.2.2.1 ls/\(∀l∈ls,dP l=true/\Bd l),fun z=>z.2.2.2.1.toNat,
  ⟨(0,0,[],x,p,n,c,H8),by and_intros<;>rfl,[],rfl,rfl,rfl,t1,x0,by simp;omega,GR.nil,fun l hl=>by cases hl⟩,?_⟩
 rintro ⟨z1,z2,vs,i,zp,zn,zc,za⟩ V3 l3 ⟨ls,e5,e6,e7,ha,hi0,Zp,hg,hls⟩
 dsimp only at e5 e6 e7 ha hi0 Zp hg
 subst e5 e6 e7
 have gU:V1.Le V3:=fun b o h=>l3 b o (l2 b o h)
 refine ⟨rfl,fun hlt V4 l4 YI e9 h9=>?_,fun hlt V6 bk Zf e6 f1 f2=>?_⟩
 ·have hlt:i>0:=of_decide_eq_true hlt
  have w:i64.wrap (i-1)=i-1:=ay (by omega)
  refine (Wu (V:=V4.bo [YI]) (hr.le fun b o h=>l4 b o (gU b o (l1 b o h))) hn e9 ⟨by simp,h9⟩ ha).mono ?_
  rintro r V5 l5 ⟨l,at2,hl,ok,bd,t2,hw2⟩
  have hl0:bT V5 r l:=hl
  obtain ⟨_,_,_,_,_,_,_,_,_,_,_,_,rfl⟩:=bH hl0
  have zl:=hg.len
  rw [w]
  refine ⟨_,_,_,_,_,_,_,_,_,_,_,_,rfl,zp,zn,zc,at2,hw2,by omega,hg.le,hg.cap,rfl,Hq,fun sp c' k1 k2=>⟨(z1+1,c',_,i-1,zp,zn,zc,at2),by dsimp only;omega,by and_intros<;>rfl,ls++[l],rfl,rfl,rfl,t2,by dsimp only;omega,?_,?_,?_⟩⟩
  ·dsimp only
   rw [List.length_append,List.length_singleton]
   omega
  ·exact (hg.mono (V':=V5.shut) fun _ _ g=>bT.le (V:=V3) (V':=V5.shut) g fun b o h=>l5 b o (l4 b o h)).snoc rfl (bT.le (V:=V5) (V':=V5.shut) hl0 fun b o h=>h) (by decide) k1 k2
  ·intro y hy
   rcases List.mem_append.1 hy with hy|hy
   ·exact hls y hy
   ·rw [List.mem_singleton.1 hy];exact ⟨ok,bd⟩
 ·have hlt:¬i>0:=of_decide_eq_false hlt
  exact ⟨za,ls,bk,z1,z2,vs,ha,e6,rfl,f1,fun h=>(f2 h).elim id False.elim,hg.mono fun _ _ g=>bT.le g Zf,by omega,hls⟩
theorem FX:Sz 10 (mkRat 1 7)/\Sz 10 (mkRat 1 5):=by unfold Sz;decide +kernel
set_option maxHeartbeats 1000000 in
theorem Nq {V:View}{tb:Nat}{p:OA}{n c:Nat}{at_:Int}(hr:HS V p n)(hn:n<=400)(hw:pe V tb p n c at_)(hx:V.X tb)(h0:0<=at_) :
  ab prog 20 #[.pointer (some ⟨tb,0,none⟩)] V fun r V'=>∃(at':Int)(ls:List L3)(q:OA)(m e:Nat),0<=at'/\pe V' tb p n c at'/\r=.slice q m e/\cG 6 bT V' q m ls/\ls.length<=7/\∀l∈ls,dP l=true/\Bd l:=by
 refine yd tb p n c at_ V _ hw hx fun V1 l1 bk1 e1 h1=>(S7 (V:=V1.bo [bk1]) (hr.le fun b o h=>l1 b o h) hn e1 ⟨by simp,h1⟩ h0).mono ?_
 rintro r V2 l2 ⟨H8,ls,bm,n1,c1,vm,t1,hw1,rfl,f1,f2,hg,hlen,hls⟩
 have f2':vm≠[]->V1.w.heap.size<=bm:=f2
 have zl:=hg.len
 have Sv:=hg.le
 have zcap:=hg.cap
 refine ⟨bm,vm,f1,fun h=>.inl (f2' h),none,n1,c1,rfl,p,n,c,H8,hw1,fun V3 l3 YG e3 h3=>?_⟩
 have dg:V1.Le V3:=fun b o hb=>l3 b o (vh (V:=V1.bo [bk1]) l2 (fun h=>.inl (f2' h)) b o hb)
 have hg3:GR 6 bT V3 n1 c1 vm ls:=hg.mono fun _ _ g=>bT.le g fun b o h=>l3 b o h
 have Kx:=l1.trans dg
 refine (qC (V:=V3.bo [YG]) 3 (hr.le fun b o h=>Kx b o h) hn e3 ⟨by simp,h3⟩ t1 (by omega) (by omega)).mono ?_
 rintro r V4 l4 ⟨x,at2,rfl,x0,x1,t2,hw2⟩
 refine ⟨_,rfl,p,n,c,at2,hw2,fun hz V5 l5 S1 e5 hb=>?_,fun hz V6 l6 S2 e6 h6=>?_⟩
 ·have Ky:V3.Le V5:=fun b o h=>l5 b o (l4 b o h)
  refine ⟨at2,ls,mA S1 c1,n1,c1,t2,e5,rfl,?_,hlen,hls⟩
  rw [zl]
  exact cG.eH hb (hg3.row.le fun _ _ g=>bT.le g Ky) (by decide) (by omega)
 have Oc:V3.Le V6:=fun b o h=>l6 b o (l4 b o h)
 have MJ:=Kx.trans Oc
 refine (Ww (V:=V6.bo [S2]) (hr.le fun b o h=>MJ b o h) hn e6 ⟨by simp,h6⟩ t2).mono ?_
 rintro r V7 l7 ⟨q1,at3,g7,s7,t3,hw3⟩
 have ID:=g7
 obtain ⟨_,_,_,_,_,_,rfl⟩:=g7.shape
 refine ⟨_,_,_,_,_,_,_,rfl,p,n,c,at3,hw3,fun V8 l8=>(kN 1 7 (by omega) (by omega) (by omega) (by omega)).mono ?_⟩
 rintro r V9 l9 g9
 have Tk:=g9
 obtain ⟨_,_,_,_,_,_,rfl⟩:=g9.shape
 have Qw:V7.Le V9:=fun b o h=>l9 b o (l8 b o h)
 have Uy:V6.Le V9:=fun b o h=>Qw b o (l7 b o h)
 refine ⟨_,_,_,_,_,_,_,rfl,fun jh l10=>(dz (ID.le (Qw.trans l10)) (Tk.le l10) s7 FX.1 (by omega)).mono ?_⟩
 rintro r jd bG g11
 have Tc:=g11
 obtain ⟨_,_,_,_,_,_,rfl⟩:=g11.shape
 have vO:Sz 40 (q1+mkRat 1 7):=(s7.add FX.1).mono (by omega)
 have ML:=Uy.trans (l10.trans bG)
 refine ⟨_,_,_,_,_,_,_,rfl,fun nF cN S4 e12 h12=>(Ww (V:=nF.bo [S4]) (hr.le fun b o h=>cN b o (ML b o (MJ b o h))) hn e12 ⟨by simp,h12⟩ t3).mono ?_⟩
 rintro r rH Ut ⟨q2,at4,g13,s13,t4,hw4⟩
 have Td:=g13
 obtain ⟨_,_,_,_,_,_,rfl⟩:=g13.shape
 have N8:jd.Le rH:=fun b o h=>Ut b o (cN b o h)
 refine ⟨_,_,_,_,_,_,_,rfl,p,n,c,at4,hw4,fun nG dE=>(kN 1 5 (by omega) (by omega) (by omega) (by omega)).mono ?_⟩
 rintro r lU dO g15
 have Te:=g15
 obtain ⟨_,_,_,_,_,_,rfl⟩:=g15.shape
 have I1:rH.Le lU:=fun b o h=>dO b o (dE b o h)
 refine ⟨_,_,_,_,_,_,_,rfl,fun lR dv=>(dz (Td.le (I1.trans dv)) (Te.le dv) s13 FX.2 (by omega)).mono ?_⟩
 rintro r nH c_ g17
 have Tf:=g17
 obtain ⟨_,_,_,_,_,_,rfl⟩:=g17.shape
 have s17:Sz 40 (q2+mkRat 1 5):=(s13.add FX.2).mono (by omega)
 have IY:=N8.trans (I1.trans (dv.trans c_))
 have Qr:=Oc.trans (ML.trans IY)
 refine ⟨_,_,_,_,_,_,_,rfl,fun z V'=>∃(j:Nat)(ms:List L3),z.1=(j:Int)/\j<=n1/\ms.length=ls.length/\Row 6 bT V' z.2 ms/\z.2.length=vm.length/\∀l∈ms,dP l=true/\Bd l,fun z=>n1-z.1.toNat,⟨(0,vm),by and_intros<;>rfl,0,ls,rfl,Nat.zero_le _,rfl,hg3.row.le fun _ _ g=>bT.le g Qr,rfl,hls⟩,?_⟩
 rintro ⟨z1,vs⟩ qm dM ⟨j,ms,O4,F3,hml,hrow,hvl,hms⟩
 dsimp only at O4 hrow hvl
 subst O4
 refine ⟨rfl,fun hlt=>?_,fun hlt zY gU bk e23 hb=>?_⟩
 ·have hlt:(j:Int)<n1:=of_decide_eq_true hlt
  have hj:j<ms.length:=by omega
  have w:i64.wrap ((j:Int)+1)=((j+1:Nat):Int):=by rw [ay (by omega)];rfl
  dsimp only
  rw [Int.toNat_natCast,w]
  obtain ⟨b1,p1,n1',c1',b2,p2,n2,c2,b3,p3,n3,c3,eW,KT,hl⟩:=E7 hrow hj
  obtain ⟨ok,bd⟩:=hms _ (List.getElem_mem hj)
  have hp:RP qm _ (q1+mkRat 1 7) (q2+mkRat 1 5):=⟨_,_,_,_,_,_,_,_,_,_,_,_,rfl,Tc.le (IY.trans dM),Tf.le dM⟩
  refine ⟨⟨by omega,by omega⟩,Sv,b1,p1,n1',c1',b2,p2,n2,c2,b3,p3,n3,c3,⟨eW,KT⟩,fun rI dF=>(JM (L:=ms[j]) (hl.le dF) (hp.le dF) (k:=1000) bd.lK (vO.mono (by omega)) (s17.mono (by omega)) (by omega)).mono ?_⟩
  rintro r zW gI rfl
  have kX:=dF.trans gI
  refine ⟨_,rfl,fun hc w_ fS=>(B9 (a:=ms[j].1) (b:=ms[j].2.1) (c:=ms[j].2.2) (hl.le (kX.trans fS))).mono ?_,fun hc=>⟨(((j+1:Nat):Int),vs),by dsimp only;omega,by and_intros<;>rfl,j+1,ms,rfl,by omega,hml,hrow.le fun _ _ g=>bT.le g kX,hvl,hms⟩⟩
  rintro r t_ jc gr
  have R4:bT t_ r (iR ms[j]):=gr
  obtain ⟨_,_,_,_,_,_,_,_,_,_,_,_,rfl⟩:=bH R4
  have N_:=kX.trans (fS.trans jc)
  refine ⟨_,_,_,_,_,_,_,_,_,_,_,_,rfl,⟨by omega,by omega⟩,Sv,eW,(((j+1:Nat):Int),cF vs (j*6) [_,_,_,_,_,_]),by dsimp only;omega,by and_intros<;>rfl,j+1,ms.set j (iR ms[j]),rfl,by omega,by rw [List.length_set];exact hml,?_,?_,?_⟩
  ·exact (hrow.le (V':=t_) fun _ _ g=>bT.le g N_).put hj (by decide) rfl R4
  ·exact (mB (xs:=[_,_,_,_,_,_]) eW).trans hvl
  ·intro y hy
   rcases List.mem_or_eq_of_mem_set hy with hy|rfl
   ·exact hms y hy
   ·exact ⟨Om ok,bd.rev⟩
 ·refine ⟨at4,ms,mA bk c1,n1,c1,t4,e23,rfl,?_,by omega,hms⟩
  have e:n1=ms.length:=by omega
  rw [e]
  exact cG.eH hb (hrow.le fun _ _ g=>bT.le g gU) (by decide) (by omega)
theorem pt {V:View}{v:Value}{q:Rat}(h:RQ V v q):ab prog 42 #[v] V fun r V'=>r=.int .i64 q.num.sign:=by
 obtain ⟨_,_,_,_,_,_,rfl,h1,-⟩:=h
 exact tL q h1
theorem pv {V:View}{v:Value}{p:Rat×Rat}(h:RP V v p.1 p.2):ab prog 155 #[v] V fun r V'=>r=.int .i64 (aq.half p):=by
 obtain ⟨_,_,_,_,_,_,_,_,_,_,_,_,rfl,hx,hy⟩:=h
 refine yx _ _ _ _ _ _ _ _ _ _ _ _ _ _ V _ fun V1 l1=>(pt (hx.le l1)).mono ?_
 rintro r V2 l2 rfl
 refine ⟨_,rfl,fun V3 l3=>(pt (hy.le (l1.trans (l2.trans l3)))).mono ?_⟩
 rintro r V4 l4 rfl
 have key:∀z:Int,(z=if p.2.num.sign>0\/p.2.num.sign=0/\p.1.num.sign>0 then 1 else if p.2.num.sign<0\/p.1.num.sign<0 then 2 else 0)->Value.int .i64 z=.int .i64 (aq.half p):=fun z e=>by rw [e];rfl
 refine ⟨_,rfl,fun a=>?_,fun a=>?_⟩
 ·have a:p.1.num.sign=0:=by simpa using a
  refine ⟨fun b V5 l5=>key _ ?_,fun b=>⟨fun c V6 l6=>key _ ?_,fun c=>⟨fun d=>⟨fun e V7 l7=>key _ ?_,fun e V8 l8=>key _ ?_⟩,fun d V9 l9=>key _ ?_⟩⟩⟩
  ·have b:p.2.num.sign=0:=by simpa using b
   rw [if_neg (by omega),if_neg (by omega)]
  ·have c:p.2.num.sign>0:=of_decide_eq_true c
   rw [if_pos (.inl c)]
  ·have b:¬p.2.num.sign=0:=by simpa using b
   have d:p.2.num.sign=0:=by simpa using d
   exact absurd d b
  ·have b:¬p.2.num.sign=0:=by simpa using b
   have d:p.2.num.sign=0:=by simpa using d
   exact absurd d b
  ·have b:¬p.2.num.sign=0:=by simpa using b
   have c:¬p.2.num.sign>0:=of_decide_eq_false c
   rw [if_neg (by omega),if_pos (by omega)]
 ·have a:¬p.1.num.sign=0:=by simpa using a
  refine ⟨fun c V6 l6=>key _ ?_,fun c=>⟨fun d=>⟨fun e V7 l7=>key _ ?_,fun e V8 l8=>key _ ?_⟩,fun d V9 l9=>key _ ?_⟩⟩
  ·have c:p.2.num.sign>0:=of_decide_eq_true c
   rw [if_pos (.inl c)]
  ·have d:p.2.num.sign=0:=by simpa using d
   have e:p.1.num.sign>0:=of_decide_eq_true e
   rw [if_pos (.inr ⟨d,e⟩)]
  ·have d:p.2.num.sign=0:=by simpa using d
   have e:¬p.1.num.sign>0:=of_decide_eq_false e
   rw [if_neg (by omega),if_pos (by omega)]
  ·have d:¬p.2.num.sign=0:=by simpa using d
   have c:¬p.2.num.sign>0:=of_decide_eq_false c
   rw [if_neg (by omega),if_pos (by omega)]
theorem OC (q:Rat):-1<=q.num.sign/\q.num.sign<=1:=by
 rcases Int.lt_trichotomy q.num 0 with h|h|h
 ·rw [Int.sign_eq_neg_one_of_neg h];omega
 ·rw [h];decide
 ·rw [Int.sign_eq_one_of_pos h];omega
theorem xk {V:View}{v w:Value}{a b:Rat×Rat}(h:RP V v a.1 a.2)(h':RP V w b.1 b.2){k:Nat}(s1:Sz k a.1)(s2:Sz k a.2)(s3:Sz k b.1)(s4:Sz k b.2)(hk:4*k+4<274877906944) :
  ab prog 86 #[v,w] V fun r V'=>r=.int .i64 (aq.cH a b):=by
 have h0:=h
 have h0':=h'
 obtain ⟨_,_,_,_,_,_,_,_,_,_,_,_,rfl,-⟩:=h
 obtain ⟨_,_,_,_,_,_,_,_,_,_,_,_,rfl,-⟩:=h'
 refine wL _ _ _ _ _ _ _ _ _ _ _ _ _ _ _ _ _ _ _ _ _ _ _ _ _ _ _ _ V _ fun V1 l1=>(pv (h0.le l1)).mono ?_
 rintro r V2 l2 rfl
 refine ⟨_,rfl,fun V3 l3=>(pv (h0'.le (l1.trans (l2.trans l3)))).mono ?_⟩
 rintro r V4 l4 rfl
 have dE:=l1.trans (l2.trans (l3.trans l4))
 refine ⟨_,rfl,fun g=>⟨fun g' V5 l5=>?_,fun g' V6 l6=>?_⟩,fun g V7 l7=>(nN (h0.le (dE.trans l7)) (h0'.le (dE.trans l7)) s1 s2 s3 s4 hk).mono ?_⟩
 ·unfold aq.cH;rw [if_pos (of_decide_eq_true g')]
 ·have g:aq.half a≠aq.half b:=by simpa using g
  have g':¬aq.half a<aq.half b:=of_decide_eq_false g'
  unfold aq.cH;rw [if_neg g',if_pos (by omega)]
 ·have g:aq.half a=aq.half b:=by simpa using g
  rintro r V8 l8 gc
  have PK:=gc
  obtain ⟨_,_,_,_,_,_,rfl⟩:=gc.shape
  refine ⟨_,_,_,_,_,_,_,rfl,fun V9 l9=>(pt (PK.le l9)).mono ?_⟩
  rintro r jh l10 rfl
  refine ⟨_,rfl,fun jd bG=>?_⟩
  have bd:=OC (a.1*b.2-a.2*b.1)
  rw [ay (by omega)]
  unfold aq.cH;rw [if_neg (by omega),if_neg (by omega)]
  show _=Value.int .i64 (-(a.1*b.2-a.2*b.1).num.sign)
  congr 1;omega
theorem Ga {V:View}{p:OA}{n:Nat}{al:List L3}(h:cG 6 bT V p n al){i:Nat}(hi:i<al.length) :
  p.isSome=true/\∃(b1:Bool)(p1:OA)(n1 c1:Nat)(b2:Bool)(p2:OA)(n2 c2:Nat)(b3:Bool)(p3:OA)(n3 c3:Nat)(a:Addr),ah p (i*6)=some a/\V.at (a.add 0) (.bool b1)/\V.at (a.add 1) (.slice p1 n1 c1)/\V.at (a.add 2) (.bool b2)/\V.at (a.add 3) (.slice p2 n2 c2)/\V.at (a.add 4) (.bool b3)/\V.at (a.add 5) (.slice p3 n3 c3) /\
   bT V (.agg #[.bool b1,.slice p1 n1 c1,.bool b2,.slice p2 n2 c2,.bool b3,.slice p3 n3 c3]) al[i]:=by
 obtain ⟨ad,h0,xs,h1,h2,h3⟩:=h.at_ i hi
 have h20:=h2
 obtain ⟨_,_,_,_,_,_,_,_,_,_,_,_,e⟩:=bH h2
 have e:=congrArg Array.toList (Value.agg.inj e)
 dsimp only at e
 subst e
 refine ⟨?_,_,_,_,_,_,_,_,_,_,_,_,_,ad,h0,h3 0 _ rfl,h3 1 _ rfl,h3 2 _ rfl,h3 3 _ rfl,h3 4 _ rfl,h3 5 _ rfl,h20⟩
 cases p with
 | none=>cases h0
 | some a=>rfl
theorem LX {l m:L3}{k:Nat}(sl:jV k l)(sm:jV k m):Sz (20*k+20) (Gb l m)/\Sz (20*k+20) (Gc l m):=by
 unfold Gb Gc aU
 obtain ⟨a1,a2,a3⟩:=sl
 obtain ⟨b1,b2,b3⟩:=sm
 exact ⟨(Sz.mul ((a2.mul b3).sub (a3.mul b2)) (eu ((a1.mul b2).sub (a2.mul b1)))).mono (by omega),(Sz.mul ((a3.mul b1).sub (a1.mul b3)) (eu ((a1.mul b2).sub (a2.mul b1)))).mono (by omega)⟩
def ES (p:Rat×Rat):Rat×Rat:=(-p.1,-p.2)
def Rb (l:L3):List (Rat×Rat):=[pO (aq.ar l),ES (pO (aq.ar l))]
def JP (M:List L3):List (Rat×Rat):=M.flatMap Rb
structure Mq (V:View) (n:Nat) (vs:List Value) (l:List (Rat×Rat)):Prop where
 row:Row 6 Kp V vs l
 len:n=l.length
 PG:l.length<50
theorem Mq.le {V V':View}{n:Nat}{vs:List Value}{l:List (Rat×Rat)}(h:Mq V n vs l)(e:V.Le V'):Mq V' n vs l:=⟨h.row.le fun _ _ g=>Kp.le g e,h.len,h.PG⟩
theorem Mq.get {V:View}{n:Nat}{vs:List Value}{l:List (Rat×Rat)}(h:Mq V n vs l){k:Nat}(hk:k<l.length):∃(x y:Int)(p:OA)(xb yb:Int)(pb:OA),
  ((0+k*6)+6<=vs.length/\(vs.drop (0+k*6)).take 6=[.int .i64 x,.int .i64 y,.pointer p,.int .i64 xb,.int .i64 yb,.pointer pb])/\Kp V (.agg #[.int .i64 x,.int .i64 y,.pointer p,.int .i64 xb,.int .i64 yb,.pointer pb]) (l.getD k Nw):=by
 obtain ⟨xs,-,h2,h3,h4⟩:=h.row.get (d:=Nw) hk (by decide)
 have h20:=h2
 obtain ⟨x,y,p,xb,yb,pb,e⟩:=h2.shape
 have e:=congrArg Array.toList (Value.agg.inj e)
 dsimp only at e
 subst e
 rw [Nat.zero_add]
 exact ⟨x,y,p,xb,yb,pb,⟨h3,h4⟩,h20⟩
theorem Mq.swap {V:View}{n:Nat}{vs:List Value}{l:List (Rat×Rat)}(h:Mq V n vs l){i j:Nat}(hi:i<l.length)(hj:j<l.length){x y:Int}{p:OA}{xb yb:Int}{pb:OA}{x' y':Int}{p':OA}{OS OT:Int}{pb':OA}
  (h1:Kp V (.agg #[.int .i64 x,.int .i64 y,.pointer p,.int .i64 xb,.int .i64 yb,.pointer pb]) (l.getD i Nw))(h2:Kp V (.agg #[.int .i64 x',.int .i64 y',.pointer p',.int .i64 OS,.int .i64 OT,.pointer pb']) (l.getD j Nw)) :
  (0+i*6)+6<=vs.length/\(0+j*6)+6<=(cF vs (0+i*6) [.int .i64 x',.int .i64 y',.pointer p',.int .i64 OS,.int .i64 OT,.pointer pb']).length /\
  Mq V n (cF (cF vs (0+i*6) [.int .i64 x',.int .i64 y',.pointer p',.int .i64 OS,.int .i64 OT,.pointer pb']) (0+j*6) [.int .i64 x,.int .i64 y,.pointer p,.int .i64 xb,.int .i64 yb,.pointer pb]) (sC Nw l i j):=by
 obtain ⟨-,-,-,g1,-⟩:=h.row.get (d:=Nw) hi (by decide)
 obtain ⟨-,-,-,g2,-⟩:=h.row.get (d:=Nw) hj (by decide)
 rw [Nat.zero_add,Nat.zero_add]
 refine ⟨g1,by rw [mB (by exact g1)];exact g2,h.row.swap hi hj (by decide) rfl rfl h1 h2,by rw [pY];exact h.len,by rw [pY];exact h.PG⟩
def OE (u w:Rat×Rat):Rat×Rat:=if aq.cr u w>0 then (u.1+w.1,u.2+w.2) else (-u.2,u.1)
def JZ (D:List (Rat×Rat)):List (Rat×Rat):=if D=[] then [(1,0)] else aq.Rg OE D
theorem EP (n:Int){d:Nat}(h:d≠0):mkRat n d*((d:Nat):Rat)=(n:Rat):=by
 have hd:((d:Nat):Rat)≠0:=by exact_mod_cast h
 rw [Rat.mkRat_eq_div,Rat.div_def]
 exact aq.inv_mul hd _
theorem IG {p:Rat×Rat}(h:aq.nz p):gT p.1 p.2>0:=by
 have hd:p.1.den*p.2.den≠0:=Nat.mul_ne_zero p.1.den_nz p.2.den_nz
 have e:=EP (Nat.gcd (p.1.num.natAbs*p.2.den) (p.2.num.natAbs*p.1.den):Nat) hd
 have hg:0<Nat.gcd (p.1.num.natAbs*p.2.den) (p.2.num.natAbs*p.1.den):=by
  apply Nat.pos_of_ne_zero
  intro z
  rw [Nat.gcd_eq_zero_iff] at z
  have z1:p.1=0:=by
   rcases Nat.mul_eq_zero.1 z.1 with e|e
   ·exact Rat.num_eq_zero.1 (by omega)
   ·exact absurd e p.2.den_nz
  have z2:p.2=0:=by
   rcases Nat.mul_eq_zero.1 z.2 with e|e
   ·exact Rat.num_eq_zero.1 (by omega)
   ·exact absurd e p.1.den_nz
  unfold aq.nz at h
  rcases h with h|h
  ·exact h z1
  ·exact h z2
 have d0:((p.1.den*p.2.den:Nat):Rat)>0:=by exact_mod_cast Nat.pos_of_ne_zero hd
 have g0:(((Nat.gcd (p.1.num.natAbs*p.2.den) (p.2.num.natAbs*p.1.den):Nat):Int):Rat)>0:=by exact_mod_cast hg
 show mkRat _ _>0
 generalize mkRat ((Nat.gcd (p.1.num.natAbs*p.2.den) (p.2.num.natAbs*p.1.den):Nat):Int) (p.1.den*p.2.den)=q at *
 by_cases hq:q>0
 ·exact hq
 ·have:=aq.mn (show -q≥0 by grind) (show ((p.1.den*p.2.den:Nat):Rat)≥0 by grind)
  grind
theorem C0 {p:Rat×Rat}(h:aq.nz p):∃c:Rat,c>0/\pO p=(c*p.1,c*p.2):=
 ⟨(gT p.1 p.2)⁻¹,Rat.inv_pos.2 (IG h),Prod.ext (Rat.mul_comm ..) (Rat.mul_comm ..)⟩
theorem Gi {l:L3}(h:¬(l.1=0/\l.2.1=0)):aq.nz (aq.ar l):=by
 unfold aq.nz aq.ar
 by_cases e:l.2.1=0
 ·right
  intro e'
  have:(l.1:Rat)=0:=by grind
  exact h ⟨by exact_mod_cast this,e⟩
 ·left
  show (l.2.1:Rat)≠0
  exact_mod_cast e
def S9 (s a:Bool):Int:=if a then 2 else if s then 1 else 0
def FD (t:Tr)(p:Rat×Rat)(c:Int):Prop:=∀D S,aq.Mo D->aq.RV D S->aq.OW D (aq.kl t p)->c=S9 (aq.anyS t p S) (aq.KH t p S)
theorem Lr {q:L3->Prop}{t:Tr}(h:t.Kn q){p:Rat×Rat}:∀l∈aq.kl t p,q l:=fun l hl=>AH h l (aq.vv hl).2
theorem LR {u w:Rat×Rat}(h:aq.cr u w≥0):aq.GH u w (OE u w):=by
 unfold OE
 by_cases g:aq.cr u w>0
 ·rw [if_pos g]
  exact .inl ⟨g,1,1,by decide,by decide,Prod.ext (by unfold aq.Kz;grind) (by unfold aq.Kz;grind)⟩
 ·rw [if_neg g]
  exact .inr ⟨by grind,1,by decide,Prod.ext (by unfold aq.Kz aq.Rm;grind) (by unfold aq.Kz aq.Rm;grind)⟩
theorem HG {D:List (Rat×Rat)}(h:aq.Mo D):aq.RV D (JZ D):=by
 unfold JZ
 by_cases e:D=[]
 ·rw [if_pos e];exact .inl ⟨e,rfl⟩
 ·rw [if_neg e];exact aq.LP h (fun u _ w _ hc=>LR hc) e
theorem LG {M:List L3}(ho:∀l∈M,¬(l.1=0/\l.2.1=0)){m:List (Rat×Rat)}(pm:m.Perm (JP M))(pw:m.Pairwise fun x y=>¬PD y x<0):aq.Mo (xC eP m)/\aq.OW (xC eP m) M:=by
 have mem:∀r,r∈m↔∃l∈M,r=pO (aq.ar l)\/r=ES (pO (aq.ar l)):=fun r=>by
  rw [pm.mem_iff]
  unfold JP Rb
  simp only [List.mem_flatMap,List.mem_cons,List.not_mem_nil,or_false]
 have key:=aq.Ov (m:=m) pw ?_ ?_
 ·obtain ⟨k1,k2⟩:=key
  refine ⟨k1,fun l hl=>?_⟩
  obtain ⟨y,hy,c,c0,e⟩:=k2 (pO (aq.ar l)) ((mem _).2 ⟨l,hl,.inl rfl⟩)
  obtain ⟨d,d0,e'⟩:=C0 (Gi (ho l hl))
  refine ⟨y,hy,c*d,aq.mp c0 d0,?_⟩
  rw [e,e']
  exact Prod.ext (by show c*(d*_)=_;grind) (by show c*(d*_)=_;grind)
 ·intro r hr
  obtain ⟨l,hl,h⟩:=(mem r).1 hr
  have n0:=Gi (ho l hl)
  obtain ⟨d,d0,e'⟩:=C0 n0
  have np:aq.nz (pO (aq.ar l)):=by
   rw [e']
   unfold aq.nz at n0 ⊢
   rcases n0 with n0|n0
   ·exact .inl fun h=>by rcases Rat.mul_eq_zero.1 h with h|h;grind;exact n0 h
   ·exact .inr fun h=>by rcases Rat.mul_eq_zero.1 h with h|h;grind;exact n0 h
  rcases h with rfl|rfl
  ·exact np
  ·unfold aq.nz ES at *
   rcases np with np|np
   ·exact .inl (by show -(pO (aq.ar l)).1≠0;grind)
   ·exact .inr (by show -(pO (aq.ar l)).2≠0;grind)
 ·intro r hr
  obtain ⟨l,hl,h⟩:=(mem r).1 hr
  rcases h with rfl|rfl
  ·exact ⟨_,(mem _).2 ⟨l,hl,.inr rfl⟩,1,by decide,by unfold ES;grind,by unfold ES;grind⟩
  ·exact ⟨_,(mem _).2 ⟨l,hl,.inl rfl⟩,1,by decide,by unfold ES;grind,by unfold ES;grind⟩
def Ko (V:View)(w:Value)(p:Rat×Rat):Prop:=(∃b q n c q' n' c' d r m e r' m' e',w=.agg #[.bool b,.slice q n c,.slice q' n' c',.bool d,.slice r m e,.slice r' m' e']) /\
 ∀V1,V.Le V1->ab prog 115 #[w] V1 fun r V'=>oX V' r p.1 p.2
theorem Ko.le {V V':View}{w:Value}{p:Rat×Rat}(h:Ko V w p)(l:V.Le V'):Ko V' w p:=⟨h.1,fun V1 l1=>h.2 V1 (l.trans l1)⟩
theorem Ko.of {V:View}{w:Value}{p:Rat×Rat}(h:H2 V w p.1 p.2){k:Nat}(s1:Sz k p.1)(s2:Sz k p.2)(hk:k<=1099511627776):Ko V w p:=by
 refine ⟨?_,fun V1 l1=>Ee (h.le l1) s1 s2 hk⟩
 obtain ⟨b,q,n,c,q',n',c',d,r,m,e,r',m',e',rfl,-⟩:=h
 exact ⟨_,_,_,_,_,_,_,_,_,_,_,_,_,_,rfl⟩
theorem Ko.raw {V:View}{b d:Bool}{q q' r r':OA}{n c n' c' m e m' e':Nat}{xs ys us vs:List Nat}(h1:RD V q n c xs)(h2:RD V q' n' c' ys)(h3:RD V r m e us)(h4:RD V r' m' e' vs)(k1:xs.length<=1000000)(k2:ys.length<=1000000)(k3:us.length<=1000000)(k4:vs.length<=1000000) :
  Ko V (.agg #[.bool b,.slice q n c,.slice q' n' c',.bool d,.slice r m e,.slice r' m' e']) (mkRat (aX b xs) (val ys),mkRat (aX d us) (val vs)):=by
 refine ⟨⟨_,_,_,_,_,_,_,_,_,_,_,_,_,_,rfl⟩,fun V0 l0=>?_⟩
 refine sK b q n c q' n' c' d r m e r' m' e' V0 _ fun V1 l1=>(oh b (h1.le (l0.trans l1)) (h2.le (l0.trans l1)) (by omega) (by omega)).mono ?_
 rintro r V2 l2 g
 have g0:=g
 obtain ⟨x1,x2,x3,rfl⟩:=g.shape
 refine ⟨_,_,_,rfl,fun V3 l3=>(oh d (h3.le (l0.trans (l1.trans (l2.trans l3)))) (h4.le (l0.trans (l1.trans (l2.trans l3)))) (by omega) (by omega)).mono ?_⟩
 rintro r V4 l4 g'
 have g0':=g'
 obtain ⟨y1,y2,y3,rfl⟩:=g'.shape
 exact ⟨_,_,_,rfl,fun V5 l5=>⟨_,_,_,_,_,_,rfl,g0.le (l3.trans (l4.trans l5)),g0'.le l5⟩⟩
theorem Ko.zero {V:View}:Ko V (.agg #[.bool false,.slice none 0 0,.slice none 0 0,.bool false,.slice none 0 0,.slice none 0 0]) (0,0):=by
 have e:mkRat (aX false []) (val [])=0:=by decide
 have:=@Ko.raw V false false none none none none 0 0 0 0 0 0 0 0 [] [] [] [] RD.nil RD.nil RD.nil RD.nil (by decide) (by decide) (by decide) (by decide)
 rw [e] at this
 exact this
def OY (k:Nat)(V:View)(v:Value)(c:Rat×Rat):Prop:=RP V v c.1 c.2/\Sz k c.1/\Sz k c.2
theorem OY.le {k:Nat}{V V':View}{v:Value}{c:Rat×Rat}(h:OY k V v c)(l:V.Le V'):OY k V' v c:=⟨h.1.le l,h.2⟩
theorem OY.mono {k m:Nat}{V:View}{v:Value}{c:Rat×Rat}(h:OY k V v c)(l:k<=m):OY m V v c:=⟨h.1,h.2.1.mono l,h.2.2.mono l⟩
structure SG (V:View) (y z:Value):Prop where
 inv:BJ V 0 y
 ZU:BJ V 3 z
 yE:D5 y
 zE:D5 z
theorem SG.le {V V':View}{y z:Value}(h:SG V y z)(l:V.Le V'):SG V' y z:=⟨h.inv.le l,h.ZU.le l,h.yE,h.zE⟩
theorem AT.leaf {V:View}(i:Bool):AT V (.agg #[.int .i64 (rt 0 (.leaf i)),.slice none 0 0]) (rt 0 (.leaf i)) (wr 0 (.leaf i)):=⟨_,_,_,rfl,NS.nil⟩
def GJ (V:View)(vs:List Value)(i:Nat)(d:Nd):Prop:=∃(b1:Bool)(p1:OA)(n1 c1:Nat)(b2:Bool)(p2:OA)(n2 c2:Nat)(b3:Bool)(p3:OA)(n3 c3:Nat),
 (∀j v,([.bool b1,.slice p1 n1 c1,.bool b2,.slice p2 n2 c2,.bool b3,.slice p3 n3 c3,.int .i64 d.left,.int .i64 d.right]:List Value)[j]?=some v->vs[i*8+j]?=some v) /\
 oW V (.agg #[.bool b1,.slice p1 n1 c1,.bool b2,.slice p2 n2 c2,.bool b3,.slice p3 n3 c3]) d.ln
theorem GJ.le {V V':View}{vs:List Value}{i:Nat}{d:Nd}(h:GJ V vs i d)(hl:V.Le V'):GJ V' vs i d:=by
 obtain ⟨b1,p1,n1,c1,b2,p2,n2,c2,b3,p3,n3,c3,h1,h2⟩:=h
 exact ⟨b1,p1,n1,c1,b2,p2,n2,c2,b3,p3,n3,c3,h1,h2.le hl⟩
theorem JE {vs xs:List Value}{k i:Nat}(hx:xs.length=8)(h:k*8+8<=vs.length)(hi:i<k*8\/k*8+8<=i):(vs.take (k*8)++xs++vs.drop (k*8+8))[i]?=vs[i]?:=by
 have ht:(vs.take (k*8)).length=k*8:=by rw [List.length_take];omega
 rcases hi with hi|hi
 ·rw [List.append_assoc,List.getElem?_append_left (by omega),List.getElem?_take,if_pos hi]
 ·rw [List.getElem?_append_right (by rw [List.length_append];omega),List.length_append,ht,hx,List.getElem?_drop]
  congr 1
  omega
theorem ZW {a b c d e f g h v:Value}{j:Nat}(hv:([a,b,c,d,e,f,g,h]:List Value)[j]?=some v):j<8:=by
 rcases Nat.lt_or_ge j 8 with hj|hj
 ·exact hj
 ·rw [List.getElem?_eq_none (by simpa using hj)] at hv;cases hv
theorem GJ.out {V:View}{vs xs:List Value}{k i:Nat}{d:Nd}(h:GJ V vs i d)(hx:xs.length=8)(hk:k*8+8<=vs.length)(hi:i≠k):GJ V (vs.take (k*8)++xs++vs.drop (k*8+8)) i d:=by
 obtain ⟨b1,p1,n1,c1,b2,p2,n2,c2,b3,p3,n3,c3,h1,h2⟩:=h
 refine ⟨b1,p1,n1,c1,b2,p2,n2,c2,b3,p3,n3,c3,fun j v hv=>?_,h2⟩
 have:=ZW hv
 rw [JE hx hk (by omega)]
 exact h1 j v hv
def vm (n b m:Nat):Nat:=(n-1-m+(n-b))%n
def FZ (V:View):View:=⟨V.w,fun b=>b<V.w.heap.size,fun _=>False,fun _ h=>h,fun _ h=>h.elim⟩
theorem D6 {f:FuncId}{args:Array Value}{V:View}{o:Obj}(h:ab prog f args (FZ V) fun r V'=>∃bk,r=.pointer (some ⟨bk,0,none⟩)/\V'.bD bk o) :
  ab prog f args V fun r V'=>∃bk,r=.pointer (some ⟨bk,0,none⟩)/\V.w.heap.size<=bk/\V'.bD bk o:=
 ⟨h.1,h.2.mono fun _ _ ⟨_,he,hx,bk,hr,hb⟩=>⟨_,he,⟨hx.size,fun b hb _=>hx.bD b hb (fun h=>h),hx.os,hx.tape,hx.out⟩,bk,hr,Nat.le_of_not_lt hb.1,fun hh=>hb.1 (V.hH bk hh),hb.2⟩⟩
theorem Cc {V:View}{lp:OA}{ln lc:Nat}(hc:ln<=lc) :
  ab prog 21 #[.slice lp ln lc] V fun r V'=>∃bk,r=.pointer (some ⟨bk,0,none⟩)/\V.w.heap.size<=bk/\V'.bD bk (.cells #[.slice lp (min ln 400) lc,.int .i64 0] 136 (0,0)):=by
 refine D6 (BC lp ln lc (FZ V) _ ?_)
 have e:bS (ln:Int) 400=((min ln 400:Nat):Int):=by
  unfold bS
  simp only [Nat.min_def]
  split<;>split<;>omega
 rw [e,Int.toNat_natCast]
 have:=Nat.min_le_left ln 400
 exact ⟨⟨by omega,by omega⟩,fun V1 l1 bk hb=>⟨bk,rfl,hb⟩⟩
theorem I_ {V1 V2 V3:View}{bk:Nat}(l2:V1.Le V2)(hfr:V1.w.heap.size<=bk)(l3:(V2.IM bk).Le V3):V1.Le V3:=fun b o h=>l3 b o ⟨fun hh=>hh.elim (l2 b o h).1 fun e=>by
  have hlt:b<V1.w.heap.size:=by
   rcases Nat.lt_or_ge b V1.w.heap.size with h'|h'
   ·exact h'
   ·have:=h.2;rw [Array.getElem?_eq_none h'] at this;cases this
  have:=e.1
  omega,(l2 b o h).2⟩
theorem HI (l:List (Rat×Rat)):∃m:List (Rat×Rat),m.Perm l/\m.Pairwise fun x y=>¬PD y x<0:=by
 refine ⟨l.mergeSort (fun x y=>decide (¬PD y x<0)),List.mergeSort_perm ..,?_⟩
 refine (List.pairwise_mergeSort (le:=fun x y=>decide (¬PD y x<0)) (fun a b c h1 h2=>?_) (fun a b=>?_) l).imp fun h=>of_decide_eq_true h
 ·exact decide_eq_true (aq.ug c b a (of_decide_eq_true h2) (of_decide_eq_true h1))
 ·by_cases h:PD b a<0
  ·have:=aq.tK b a h
   rw [Bool.or_eq_true]
   exact .inr (decide_eq_true this)
  ·rw [Bool.or_eq_true]
   exact .inl (decide_eq_true h)
theorem indep {t:Tr}{l:L3}(ho:(Tr.node l t t).Kn fun l=>¬(l.1=0/\l.2.1=0)){p:Rat×Rat}{a b:Int}(h1:FD t p a)(h2:FD (.node l t t) p b):a=b:=by
 obtain ⟨m,pm,pw⟩:=HI (JP (aq.kl (.node l t t) p))
 obtain ⟨ry,cv⟩:=LG (Lr ho) pm pw
 have sm:=HG ry
 have sub:∀x∈aq.kl t p,x∈aq.kl (.node l t t) p:=fun x hx=>by
  rw [aq.kl]
  by_cases e:ax l p.1 p.2≥0
  ·rw [if_pos e];exact List.mem_append_right _ (List.mem_append_left _ hx)
  ·rw [if_pos (show ax l p.1 p.2<=0 by grind)];exact List.mem_append_right _ (List.mem_append_right _ hx)
 have e1:=h1 _ _ ry sm fun l hl=>cv l (sub l hl)
 have e2:=h2 _ _ ry sm cv
 generalize JZ (xC eP m)=S at *
 have key:∀v∈S,aq.Dp (.node l t t) p v=aq.Dp t p v:=fun v hv=>by
  have n:=cv.gen (aq.LS ry sm v hv)
  have:=(aq.vZ n fun l _=>⟨id,id⟩).2
  rw [aq.Dp] at this ⊢
  split
  ·rfl
  ·rename_i q
   rw [if_neg q] at this
   split
   ·rfl
   ·rename_i q'
    rw [if_neg q'] at this
    cases this
 have k1:aq.anyS (.node l t t) p S=aq.anyS t p S:=by
  unfold aq.anyS
  rw [Bool.eq_iff_iff,List.any_eq_true,List.any_eq_true]
  constructor
  ·rintro ⟨x,hx,h⟩;exact ⟨x,hx,by rw [←key x hx];exact h⟩
  ·rintro ⟨x,hx,h⟩;exact ⟨x,hx,by rw [key x hx];exact h⟩
 have k2:aq.KH (.node l t t) p S=aq.KH t p S:=by
  unfold aq.KH
  rw [Bool.eq_iff_iff,List.all_eq_true,List.all_eq_true]
  constructor
  ·intro h x hx;rw [←key x hx];exact h x hx
  ·intro h x hx;rw [key x hx];exact h x hx
 rw [e1,e2,k1,k2]
end Go.Proofs.Tryz
namespace Go.bJ
def View.bare (V:View)(b:Nat):View:=⟨V.w,fun x=>V.H x/\x≠b,fun x=>V.X x/\x≠b,fun x h=>V.hH x h.1,fun x h=>⟨V.hX x h.1,h.2⟩⟩
theorem ab.bare {P:Program}{f:FuncId}{args:Array Value}{V:View}{b:Nat}{R:Value->View->Prop}(hs:b<V.w.heap.size)(h:ab P f args (V.bare b) R) :
  ab P f args V fun r V'=>V'.w.heap[b]?=V.w.heap[b]?/\R r (V'.bare b):=by
 refine ⟨h.1,h.2.mono fun _ w' ⟨r,he,hx,hr⟩=>⟨r,he,⟨hx.size,fun x h1 h2=>hx.bD x h1 fun h=>h2 h.1,hx.os,hx.tape,hx.out⟩,hx.bD b hs (fun h=>h.2 rfl),hr⟩⟩
def Mm (V:View)(b:Nat):Prop:=∃(cs:Array Value)(ty:TypeId)(m:Nat×Nat),V.w.heap[b]?=some (.cells cs ty m)/\∀v∈cs,∀k z,v≠.int k z
theorem Mm.ne {V:View}{b:Nat}(h:Mm V b){a:Addr}{k:IntKind}{z:Int}(ha:(V.bare b).at a (.int k z)):a.block≠b:=by
 obtain ⟨cs,ty,m,hb,hn⟩:=h
 intro e
 have h2:=ha.2
 unfold World.cell? at h2
 rw [e] at h2
 have hb':(V.bare b).w.heap[b]?=some (.cells cs ty m):=hb
 rw [hb'] at h2
 dsimp only at h2
 split at h2
 ·cases h2
 ·obtain ⟨hi,e2⟩:=Array.getElem?_eq_some_iff.1 h2
  exact hn _ (e2▸Array.getElem_mem hi) k z rfl
end Go.bJ
namespace Go.Proofs.Tryz
open Go.bJ Go.fo
theorem tN {a b:Rat}:eU a b<0↔a<b:=by
 constructor
 ·intro h
  by_cases c:a<b
  ·exact c
  ·by_cases e:a=b
   ·have:=hZ.1 e;omega
   ·have:=tM.1 (show b<a by grind);omega
 ·intro h;have:=At.1 h;omega
theorem FQ {a b:Rat}:eU a b>0↔b<a:=by
 constructor
 ·intro h
  rcases mW a b with ⟨g,e⟩|⟨g,e⟩|⟨g,e⟩<;>first|omega|exact g
 ·intro h;have:=tM.1 h;omega
abbrev X_:=Bool×OA×Nat×Nat×OA×Nat×Nat×Bool×OA×Nat×Nat×OA×Nat×Nat×Bool×Bool
def RX (z:X_):Value:=.agg #[.bool z.1,.slice z.2.1 z.2.2.1 z.2.2.2.1,.slice z.2.2.2.2.1 z.2.2.2.2.2.1 z.2.2.2.2.2.2.1,.bool z.2.2.2.2.2.2.2.1,.slice z.2.2.2.2.2.2.2.2.1 z.2.2.2.2.2.2.2.2.2.1 z.2.2.2.2.2.2.2.2.2.2.1,.slice z.2.2.2.2.2.2.2.2.2.2.2.1 z.2.2.2.2.2.2.2.2.2.2.2.2.1 z.2.2.2.2.2.2.2.2.2.2.2.2.2.1,.bool z.2.2.2.2.2.2.2.2.2.2.2.2.2.2.1,.bool z.2.2.2.2.2.2.2.2.2.2.2.2.2.2.2]
theorem XL {V:View}{xb:Bool}{xp:OA}{xn xc:Nat}{xq:OA}{xm xe:Nat}{yb:Bool}{yp:OA}{yn yc:Nat}{yq:OA}{ym ye:Nat}{xa ya:Bool}{s:Sp}(h:FF V (.agg #[.bool xb,.slice xp xn xc,.slice xq xm xe,.bool yb,.slice yp yn yc,.slice yq ym ye,.bool xa,.bool ya]) s):xa=s.a/\ya=s.b/\RQ V (.agg #[.bool xb,.slice xp xn xc,.slice xq xm xe]) s.lo/\RQ V (.agg #[.bool yb,.slice yp yn yc,.slice yq ym ye]) s.hi:=by
 obtain ⟨_,_,_,_,_,_,_,_,_,_,_,_,_,_,e,h1,h2⟩:=h
 have e:=congrArg Array.toList (Value.agg.inj e)
 simp only [List.cons.injEq,Value.bool.injEq,Value.slice.injEq,and_true] at e
 obtain ⟨rfl,⟨rfl,rfl,rfl⟩,⟨rfl,rfl,rfl⟩,rfl,⟨rfl,rfl,rfl⟩,⟨rfl,rfl,rfl⟩,rfl,rfl⟩:=e
 exact ⟨rfl,rfl,h1,h2⟩
theorem Re {V:View}{xb:Bool}{xp:OA}{xn xc:Nat}{xq:OA}{xm xe:Nat}{yb:Bool}{yp:OA}{yn yc:Nat}{yq:OA}{ym ye:Nat}{xa ya:Bool}{s:Sp}(ea:xa=s.a)(eb:ya=s.b)(h1:RQ V (.agg #[.bool xb,.slice xp xn xc,.slice xq xm xe]) s.lo)(h2:RQ V (.agg #[.bool yb,.slice yp yn yc,.slice yq ym ye]) s.hi):FF V (.agg #[.bool xb,.slice xp xn xc,.slice xq xm xe,.bool yb,.slice yp yn yc,.slice yq ym ye,.bool xa,.bool ya]) s:=by
 subst ea eb;exact ⟨_,_,_,_,_,_,_,_,_,_,_,_,_,_,rfl,h1,h2⟩
def mo (l m:L3)(s:Sp):Sp:=if 0<(dY m l).num.sign then (if s.a=true\/s.lo<lf l m then ⟨lf l m,s.hi,false,s.b⟩ else s) else (if s.b=true\/lf l m<s.hi then ⟨s.lo,lf l m,s.a,false⟩ else s)
theorem zj {l m:L3}{s:Sp}(hc:aU l m≠0):pC l m s=if (mo l m s).a=false/\(mo l m s).b=false/\(mo l m s).hi<=(mo l m s).lo then none else some (mo l m s):=by
 unfold pC;rw [if_neg hc];rfl
theorem G6 {l m:L3}{s:Sp}(hc:aU l m=0):pC l m s=if (ax m (i_ l 0) (je l 0)).num.sign<=0 then none else some s:=by
 unfold pC;rw [if_pos hc]
theorem Gy {l m:L3}(hl:Nz l)(bl:Bd l)(bm:Bd m)(hc:aU l m≠0):Sz 100000 (lf l m):=by
 rw [CX hl hc];exact (tW bl.lK bm.lK).mono (by omega)
theorem Oe {l m:L3}{s:Sp}(hl:Nz l)(bl:Bd l)(bm:Bd m)(hc:aU l m≠0)(hs:s.sz 100000):(mo l m s).sz 100000:=by
 have:=Gy hl bl bm hc
 unfold mo
 split<;>split<;>first|exact hs|exact ⟨this,hs.2⟩|exact ⟨hs.1,this⟩
theorem Iw {l m:L3}{s w:Sp}(hl:Nz l)(bl:Bd l)(bm:Bd m)(sg:s.jg)(hs:s.sz 100000)(e:pC l m s=some w):w.jg/\w.sz 100000:=by
 rw [uP hl sg] at e
 split at e
 ·rename_i g
  cases e
  exact ⟨ke sg g,Ba bl.lK bm.lK hs (by omega)⟩
 ·cases e
theorem LC {V:View}{v:Value}{L:L3}(h:RL V v L.1 L.2.1 L.2.2)(hz:Nz L)(hb:Bd L):ab prog 153 #[v] V fun r V'=>RP V' r (i_ L 0) (je L 0):=by
 have sl:=hb.lK
 refine (Am h (JN hz) sl.1 sl.2.1 sl.2.2 (by omega)).mono fun r V' _ g=>?_
 have e1:i_ L 0=_:=rfl
 unfold i_ je
 unfold fT
 have a1:∀x y:Rat,x=y->∀z w:Rat,z=w->RP V' r x z->RP V' r y w:=by rintro x _ rfl z _ rfl h;exact h
 refine a1 _ _ ?_ _ _ ?_ g<;>grind
theorem J_ {L:L3}(hb:Bd L):Sz 30000 (i_ L 0)/\Sz 30000 (je L 0):=by
 have sl:=hb.lK
 exact ⟨Sz.mono (Ka sl (L1 1000 (by omega))) (by omega),Sz.mono (Kb sl (L1 1000 (by omega))) (by omega)⟩
theorem As {V:View}{cp:OA}{cn cc:Nat}{ls:List L3}{i:Nat}(h:cG 6 bT V cp cn ls)(hb:∀l∈ls,Bd l)(hk:∀l∈ls,dP l=true)(hl:ls.length<=1000)(hi:i<ls.length) :
  ab prog 85 #[.slice cp cn cc,.int .i64 i] V fun r V'=>∃u s,r=.tuple #[u,.bool (eV ls[i] ls bF).isSome]/\FF V' u s/\s.sz 100000/\∀w,eV ls[i] ls bF=some w->s=w:=by
 have hn:=h.len
 subst hn
 obtain ⟨is,b1,p1,n1,c1,b2,p2,n2,c2,b3,p3,n3,c3,a,had,a0,a1,a2,a3,a4,a5,hl1⟩:=Ga h hi
 have bd:=hb _ (List.getElem_mem hi)
 have ok:=hk _ (List.getElem_mem hi)
 generalize el:ls[i]=L at *
 have sl:=bd.lK
 have nz:=Ol ok
 have hd:=gX bd
 refine yB cp ls.length cc (i:Int) V _ ⟨is,⟨by omega,by omega⟩,b1,p1,n1,c1,b2,p2,n2,c2,b3,p3,n3,c3,a,(by rw [Int.toNat_natCast];exact had),a0,a1,a2,a3,a4,a5,fun V1 l1=>Ar.mono ?_⟩
 rintro r V2 l2 gf
 have Y2:=gf
 obtain ⟨_,_,_,_,_,_,_,_,_,_,_,_,_,_,rfl⟩:=Di gf
 have N5:=l1.trans l2
 refine ⟨_,_,_,_,_,_,_,_,_,_,_,_,_,_,_,_,rfl,fun z V'=>∃(j:Nat)(s:Sp),z.1=(j:Int)/\j<=ls.length/\FF V' (RX z.2) s/\s.jg/\s.sz 100000/\eV L ls bF=eV L (ls.drop j) s,fun z=>(ls.length-z.1).toNat,⟨(0,_,_,_,_,_,_,_,_,_,_,_,_,_,_,_,_),by and_intros<;>first|rfl|trivial,0,bF,rfl,Nat.zero_le _,Y2,kf,FY (by omega),by rw [List.drop_zero]⟩,?_⟩
 rintro ⟨z,xb,xp,xn,xc,xq,xm,xe,yb,yp,yn,yc,yq,ym,ye,xa,ya⟩ V3 l3 ⟨j,s,ez,hj,gs,sg,ss,eg⟩
 dsimp only [RX] at ez gs ⊢
 subst ez
 obtain ⟨rfl,rfl,Kw,Kv⟩:=XL gs
 have Kx:=N5.trans l3
 refine ⟨by trivial,fun hlt=>?_,fun hlt Yb Ky=>?_⟩
 rotate_left
 ·have e:j=ls.length:=by have:=of_decide_eq_false hlt;omega
  subst e
  rw [List.drop_length] at eg
  exact ⟨_,s,by rw [eg];rfl,gs.le Ky,ss,fun w e=>by rw [eg] at e;exact Option.some.inj e⟩
 have hlt:j<ls.length:=by have:=of_decide_eq_true hlt;omega
 have w1:i64.wrap ((j:Int)+1)=((j+1:Nat):Int):=by rw [ay (by omega)];rfl
 rw [w1,Int.toNat_natCast]
 obtain ⟨ZN,B1,P1,N1,C1,B2,P2,N2,C2,B3,P3,N3,C3,A,Y8,A0,A1,A2,A3,A4,A5,hm1⟩:=Ga (h.le Kx fun _ _ g=>bT.le g Kx) hlt
 have bm:=hb _ (List.getElem_mem hlt)
 have sm:=bm.lK
 have EB:=gX bm
 have ej:j=i->ls[j]=L:=fun e=>by subst e;exact el
 have ed:ls.drop j=ls[j]::ls.drop (j+1):=List.drop_eq_getElem_cons hlt
 rw [ed] at eg
 generalize ls[j]=M at *
 have YO:eV L (M::ls.drop (j+1)) s=if M=L then eV L (ls.drop (j+1)) s else match pC L M s with|some s'=>eV L (ls.drop (j+1)) s'|none=>none:=rfl
 rw [YO] at eg
 have next:∀{W:View} {xb:Bool} {xp:OA} {xn xc:Nat} {xq:OA} {xm xe:Nat} {yb:Bool} {yp:OA} {yn yc:Nat} {yq:OA} {ym ye:Nat} {xa ya:Bool} {s':Sp},FF W (.agg #[.bool xb,.slice xp xn xc,.slice xq xm xe,.bool yb,.slice yp yn yc,.slice yq ym ye,.bool xa,.bool ya]) s'->s'.jg->s'.sz 100000->eV L ls bF=eV L (ls.drop (j+1)) s'->∃(j':Nat)(s:Sp),((j+1:Nat):Int)=(j':Int)/\j'<=ls.length/\FF W (.agg #[.bool xb,.slice xp xn xc,.slice xq xm xe,.bool yb,.slice yp yn yc,.slice yq ym ye,.bool xa,.bool ya]) s/\s.jg/\s.sz 100000/\eV L ls bF=eV L (ls.drop j') s:=fun g1 g2 g3 e=>⟨j+1,_,rfl,hlt,g1,g2,g3,e⟩
 refine ⟨ZN,⟨by omega,by omega⟩,B1,P1,N1,C1,B2,P2,N2,C2,B3,P3,N3,C3,A,Y8,A0,A1,A2,A3,A4,A5,fun z _=>z=decide (M=L),⟨fun hz=>⟨true,by and_intros<;>rfl,?_⟩,fun hz V4 l4=>(rR (hl1.le (Kx.trans l4)) (hm1.le l4) sl sm (by omega)).mono ?_⟩,?_⟩
 ·exact (decide_eq_true (ej (by have:=of_decide_eq_true hz;omega))).symm
 ·rintro r V5 l5 rfl
  exact ⟨_,rfl,(Em L M==(0:Int)),by and_intros<;>rfl,by rw [Cf];exact decide_eq_decide.2 eq_comm⟩
 rintro z V6 l6 rfl
 refine ⟨by trivial,fun hz=>?_,fun hz V7 l7=>(Ou (hl1.le (Kx.trans (l6.trans l7))) (hm1.le (l6.trans l7)) sl sm (by omega)).mono ?_⟩
 ·rw [if_pos (of_decide_eq_true hz)] at eg
  exact ⟨(((j+1:Nat):Int),_,_,_,_,_,_,_,_,_,_,_,_,_,_,_,_),by dsimp only;omega,by and_intros<;>rfl,next (gs.le l6) sg ss eg⟩
 rw [if_neg (of_decide_eq_false hz)] at eg
 rintro r V8 l8 ⟨u,rfl,q0,q1⟩
 obtain ⟨s1,s2⟩:=LX sl sm
 have Li:=l6.trans (l7.trans l8)
 by_cases hc:aU L M=0
 ·have qz:=q0 hc
  unfold Mn at qz
  subst qz
  rw [G6 hc] at eg
  refine ⟨_,_,_,_,_,_,_,_,_,_,_,_,_,_,_,rfl,fun _ V9 l9=>(LC (hl1.le (Kx.trans (Li.trans l9))) nz bd).mono ?_,fun h=>by simp [hc] at h⟩
  rintro r jh l10 gB
  have YW:=gB
  obtain ⟨_,_,_,_,_,_,_,_,_,_,_,_,rfl,-⟩:=gB
  have Ql:=Li.trans (l9.trans l10)
  refine ⟨_,_,_,_,_,_,_,_,_,_,_,_,_,_,rfl,fun jd bG=>(JM (hm1.le (Ql.trans bG)) (YW.le bG) (sm.up (K:=30000) (by omega)) (J_ bd).1 (J_ bd).2 (by omega)).mono ?_⟩
  rintro r nF cN rfl
  have Qm:=Ql.trans (bG.trans cN)
  refine ⟨_,rfl,fun hz rH dg=>?_,fun hz=>?_⟩
  ·rw [if_pos (of_decide_eq_true hz)] at eg
   exact ⟨_,s,by rw [eg];rfl,gs.le (Qm.trans dg),ss,fun w e=>by rw [eg] at e;cases e⟩
  ·rw [if_neg (of_decide_eq_false hz)] at eg
   exact ⟨(((j+1:Nat):Int),_,_,_,_,_,_,_,_,_,_,_,_,_,_,_,_),by dsimp only;omega,by and_intros<;>rfl,next (gs.le Qm) sg ss eg⟩
 have hp:=q1 hc
 have hp0:=hp
 obtain ⟨_,_,_,_,_,_,_,_,_,_,_,_,rfl,-⟩:=hp
 refine ⟨_,_,_,_,_,_,_,_,_,_,_,_,_,_,_,rfl,fun h=>by simp [hc] at h,fun _ nG dE=>(LD (hl1.le (Kx.trans (Li.trans dE))) (hp0.le dE) nz (sl.up (K:=30000) (by omega)) (s1.mono (by omega)) (s2.mono (by omega)) (by omega)).mono ?_⟩
 rintro r lU dO gt
 have gt0:RQ lU r (lf L M):=gt
 obtain ⟨_,_,_,_,_,_,rfl⟩:=gt.shape
 have st:=Gy nz bd bm hc
 have Qn:=Li.trans (dE.trans dO)
 refine ⟨_,_,_,_,_,_,_,rfl,fun lR dv=>(fr (hm1.le (Qn.trans dv)) sm.1 sm.2.1 sm.2.2 (by omega)).mono ?_⟩
 rintro r nH c_ gm
 have R3:=gm
 obtain ⟨_,_,_,_,_,_,_,_,_,_,_,_,rfl,-⟩:=gm
 have Qo:=Qn.trans (dv.trans c_)
 refine ⟨_,_,_,_,_,_,_,_,_,_,_,_,_,_,rfl,fun qm dM=>(fr (hl1.le (Kx.trans (Qo.trans dM))) sl.1 sl.2.1 sl.2.2 (by omega)).mono ?_⟩
 rintro r rI dF gl
 have R0:=gl
 obtain ⟨_,_,_,_,_,_,_,_,_,_,_,_,rfl,-⟩:=gl
 have Uu:=Qo.trans (dM.trans dF)
 refine ⟨_,_,_,_,_,_,_,_,_,_,_,_,_,_,rfl,fun zW gI=>(nN (k:=1000) (R3.le (dM.trans (dF.trans gI))) (R0.le gI) EB.1 EB.2 hd.1 hd.2 (by omega)).mono ?_⟩
 rintro r w_ fS gc
 have PK:RQ w_ r (dY M L):=by
  have e:dY M L=_:=(Nt M L).symm
  rw [e];exact gc
 obtain ⟨_,_,_,_,_,_,rfl⟩:=gc.shape
 have Uv:=Uu.trans (gI.trans fS)
 refine ⟨_,_,_,_,_,_,_,rfl,fun t_ jc=>(pt (PK.le jc)).mono ?_⟩
 rintro r zY gU rfl
 have Hj:=Uv.trans (jc.trans gU)
 have F6:lU.Le zY:=(dv.trans c_).trans ((dM.trans dF).trans ((gI.trans fS).trans (jc.trans gU)))
 refine ⟨_,rfl,fun z W=>FF W (RX z) (mo L M s),⟨fun hs=>?_,fun hs=>?_⟩,?_⟩
 ·have hs:0<(dY M L).num.sign:=of_decide_eq_true hs
  refine ⟨fun z _=>z=decide (s.a=true\/s.lo<lf L M),⟨fun ha=>⟨true,by and_intros<;>rfl,?_⟩,fun ha H3 oY=>(mS (gt0.le (F6.trans oY)) (Kw.le (Hj.trans oY)) st ss.1 (by omega)).mono ?_⟩,?_⟩
  ·exact (decide_eq_true (.inl ha)).symm
  ·rintro r HT nB rfl
   refine ⟨_,rfl,decide (eU (lf L M) s.lo>(0:Int)),by and_intros<;>rfl,?_⟩
   rw [ha]
   exact decide_eq_decide.2 ⟨fun h=>.inr (FQ.1 h),fun h=>h.elim (fun h=>nomatch h) FQ.2⟩
  rintro z Kr lS rfl
  refine ⟨by trivial,fun hz=>⟨(_,_,_,_,_,_,_,_,_,_,_,_,_,_,_,_),by and_intros<;>rfl,?_⟩,fun hz=>⟨(_,_,_,_,_,_,_,_,_,_,_,_,_,_,_,_),by and_intros<;>rfl,?_⟩⟩
  ·have e:mo L M s=⟨lf L M,s.hi,false,s.b⟩:=by unfold mo;rw [if_pos hs,if_pos (of_decide_eq_true hz)]
   rw [e]
   exact Re rfl rfl (gt0.le (F6.trans lS)) (Kv.le (Hj.trans lS))
  ·have e:mo L M s=s:=by unfold mo;rw [if_pos hs,if_neg (of_decide_eq_false hz)]
   rw [e]
   exact gs.le (Hj.trans lS)
 ·have hs:¬0<(dY M L).num.sign:=of_decide_eq_false hs
  refine ⟨fun z _=>z=decide (s.b=true\/lf L M<s.hi),⟨fun ha=>⟨true,by and_intros<;>rfl,?_⟩,fun ha H3 oY=>(mS (gt0.le (F6.trans oY)) (Kv.le (Hj.trans oY)) st ss.2 (by omega)).mono ?_⟩,?_⟩
  ·exact (decide_eq_true (.inl ha)).symm
  ·rintro r HT nB rfl
   refine ⟨_,rfl,decide (eU (lf L M) s.hi<(0:Int)),by and_intros<;>rfl,?_⟩
   rw [ha]
   exact decide_eq_decide.2 ⟨fun h=>.inr (tN.1 h),fun h=>h.elim (fun h=>nomatch h) tN.2⟩
  rintro z Kr lS rfl
  refine ⟨by trivial,fun hz=>⟨(_,_,_,_,_,_,_,_,_,_,_,_,_,_,_,_),by and_intros<;>rfl,?_⟩,fun hz=>⟨(_,_,_,_,_,_,_,_,_,_,_,_,_,_,_,_),by and_intros<;>rfl,?_⟩⟩
  ·have e:mo L M s=⟨s.lo,lf L M,s.a,false⟩:=by unfold mo;rw [if_neg hs,if_pos (of_decide_eq_true hz)]
   rw [e]
   exact Re rfl rfl (Kw.le (Hj.trans lS)) (gt0.le (F6.trans lS))
  ·have e:mo L M s=s:=by unfold mo;rw [if_neg hs,if_neg (of_decide_eq_false hz)]
   rw [e]
   exact gs.le (Hj.trans lS)
 rw [zj hc] at eg
 have kk:=fun w=>Iw (w:=w) nz bd bm sg ss
 rw [zj hc] at kk
 have sz:=Oe nz bd bm hc ss
 generalize mo L M s=s' at *
 clear gs Kw Kv
 rintro ⟨xb,xp,xn,xc,xq,xm,xe,yb,yp,yn,yc,yq,ym,ye,xa,ya⟩ Mr CE gs
 dsimp only [RX] at gs ⊢
 obtain ⟨rfl,rfl,Kw,Kv⟩:=XL gs
 refine ⟨by trivial,fun z _=>z=decide (s'.a=false/\s'.b=false/\s'.hi<=s'.lo),⟨fun ha=>⟨fun hb SH F8=>(mS (Kw.le F8) (Kv.le F8) sz.1 sz.2 (by omega)).mono ?_,fun hb=>⟨false,by and_intros<;>rfl,?_⟩⟩,fun ha=>⟨false,by and_intros<;>rfl,?_⟩⟩,?_⟩
 ·rintro r VL Oa rfl
  rw [Bool.not_eq_true'] at ha hb
  refine ⟨_,rfl,decide (eU s'.lo s'.hi≥(0:Int)),by and_intros<;>rfl,decide_eq_decide.2 ⟨fun h=>⟨ha,hb,?_⟩,fun h=>?_⟩⟩
  ·refine Rat.not_lt.1 fun g=>?_
   have:=tN.2 g;omega
  ·refine Int.not_lt.1 fun g=>?_
   have:=tN.1 g
   have:=h.2.2
   grind
 ·rw [Bool.not_eq_false'] at hb
  exact (decide_eq_false fun h=>by rw [hb] at h;cases h.2.1).symm
 ·rw [Bool.not_eq_false'] at ha
  exact (decide_eq_false fun h=>by rw [ha] at h;cases h.1).symm
 rintro z SI CF rfl
 refine ⟨by trivial,fun hz Ya Ob=>?_,fun hz=>?_⟩
 ·rw [if_pos (of_decide_eq_true hz)] at eg
  exact ⟨_,s',by rw [eg];rfl,gs.le (CF.trans Ob),sz,fun w e=>by rw [eg] at e;cases e⟩
 ·rw [if_neg (of_decide_eq_false hz)] at eg kk
  obtain ⟨k1,k2⟩:=kk _ rfl
  exact ⟨(((j+1:Nat):Int),_,_,_,_,_,_,_,_,_,_,_,_,_,_,_,_),by dsimp only;omega,by and_intros<;>rfl,next (gs.le CF) k1 k2 eg⟩
theorem F2 (x:L3):∀(O:List L3)(j:Nat),j<=O.length->(∀(i':Nat)(h:i'<O.length),i'<j->aq.cH (aq.ar O[i']) (aq.ar x)<0)->(∀h:j<O.length,¬aq.cH (aq.ar O[j]) (aq.ar x)<0) ->
  nA x O=if ∃h:j<O.length,O[j]=x then O else O.take j++x::O.drop j
 | [],j,hj,_,_=>by
  rw [if_neg (fun ⟨h,_⟩=>absurd h (Nat.not_lt_zero _))]
  simp [nA]
 | u::r,0,_,_,hge=>by
  have h0:¬aq.cH (aq.ar u) (aq.ar x)<0:=hge (Nat.zero_lt_succ _)
  unfold nA
  rw [if_neg h0]
  by_cases e:u=x
  ·rw [if_pos e,if_pos ⟨Nat.zero_lt_succ _,e⟩]
  ·rw [if_neg e,if_neg (fun ⟨_,h⟩=>e h)];rfl
 | u::r,j+1,hj,hlt,hge=>by
  have h0:aq.cH (aq.ar u) (aq.ar x)<0:=hlt 0 (Nat.zero_lt_succ _) (Nat.zero_lt_succ _)
  unfold nA
  rw [if_pos h0,F2 x r j (by simpa using hj) (fun i' h hi=>hlt (i'+1) (by simpa using h) (by omega)) (fun h=>hge (by simpa using h))]
  by_cases c:∃h:j<r.length,r[j]=x
  ·obtain ⟨h,e⟩:=c
   rw [if_pos ⟨h,e⟩,if_pos ⟨by simpa using h,e⟩]
  ·rw [if_neg c,if_neg (fun ⟨h,e⟩=>c ⟨by simpa using h,e⟩)];rfl
theorem nO {V:View}{p:OA}{n c:Nat}{ls:List L3}(h:cG 6 bT V p n ls)(hb:∀l∈ls,Bd l)(hk:∀l∈ls,dP l=true)(hl:ls.length<=1000) :
  ab prog 27 #[.slice p n c] V fun r V'=>∃q m e,r=.tuple #[.slice q m e,.bool (decide (ls=[]\/ll ls ls []≠[]))]/\cG 6 bT V' q m (ll ls ls []):=by
 obtain rfl:=h.len
 refine wS p _ c V _ ⟨fun z V'=>∃(i:Nat)(O:List L3),z.2.2.2=(i:Int)/\i<=ls.length/\O.length<=i/\(∀q∈O,q∈ls)/\ll ls ls []=ll ls (ls.drop i) O/\GR 6 bT V' z.1 z.2.1 z.2.2.1 O,fun z=>ls.length-z.2.2.2.toNat,
  ⟨(0,0,[],0),by and_intros<;>rfl,0,[],rfl,Nat.zero_le _,Nat.zero_le _,(fun q hq=>by cases hq),by rw [List.drop_zero],GR.nil⟩,?_⟩
 rintro ⟨w1,w2,us,z4⟩ V1 l1 ⟨i,O,e4,Um,oil,hO,eR,hg⟩
 dsimp only at e4 hg
 subst e4
 have g1:=hg.len
 have fc:=hg.le
 have fv:=hg.cap
 have fx:=hg.row
 refine ⟨rfl,fun hlt=>?_,fun hlt=>?_⟩
 rotate_left
 ·have hlt:¬(i:Int)<ls.length:=of_decide_eq_false hlt
  obtain rfl:i=ls.length:=by omega
  rw [List.drop_length] at eR
  have eR:ll ls ls []=O:=eR
  rw [eR]
  subst g1
  refine ⟨fun h0 lR dv bk hb=>?_,fun h0 lR dv bk hb=>?_⟩
  ·have h0:((ls.length:Nat):Int)=0:=by simpa using h0
   refine ⟨_,_,w2,?_,cG.eH hb (fx.le fun _ _ g=>bT.le g dv) (by decide) fc⟩
   rw [decide_eq_true (.inl (List.length_eq_zero_iff.1 (by omega)))]
  ·have h0:¬((ls.length:Nat):Int)=0:=by simpa using h0
   refine ⟨_,_,w2,?_,cG.eH hb (fx.le fun _ _ g=>bT.le g dv) (by decide) fc⟩
   congr 5
   refine decide_eq_decide.2 ⟨fun h=>.inr fun e=>by rw [e] at h;simp at h,fun h=>?_⟩
   rcases h with h|h
   ·rw [h] at h0;exact absurd rfl h0
   ·have:=List.length_pos_iff.2 h;omega
 have hlt:(i:Int)<ls.length:=of_decide_eq_true hlt
 have hi:i<ls.length:=by omega
 have w:i64.wrap ((i:Int)+1)=((i+1:Nat):Int):=by rw [ay (by omega)];rfl
 dsimp only
 rw [Int.toNat_natCast,w]
 obtain ⟨ad,ha,xs,-,hf,hat⟩:=(h.le l1 fun _ _ g=>bT.le g l1).at_ i hi
 have hf0:=hf
 obtain ⟨eb,ep,en,ec,fb,fp,fn,fe,gb,gp,gn,gc,ex⟩:=bH hf
 have ex:=congrArg Array.toList (Value.agg.inj ex)
 dsimp only at ex
 subst ex
 have ed:ls.drop i=ls[i]::ls.drop (i+1):=List.drop_eq_getElem_cons hi
 have YN:ll ls (ls[i]::ls.drop (i+1)) O=ll ls (ls.drop (i+1)) (if (eV ls[i] ls bF).isSome=true then nA ls[i] O else O):=rfl
 rw [ed,YN] at eR
 have hss:Bd ls[i]:=hb _ (List.getElem_mem hi)
 have hmm:ls[i]∈ls:=List.getElem_mem hi
 have Xa:∀q∈O,Bd q:=fun q hq=>hb q (hO q hq)
 clear hg
 refine ⟨jw ha,⟨by omega,by omega⟩,eb,ep,en,ec,fb,fp,fn,fe,gb,gp,gn,gc,ad,ha,hat 0 _ rfl,hat 1 _ rfl,hat 2 _ rfl,hat 3 _ rfl,hat 4 _ rfl,hat 5 _ rfl,fun V2 l2=>(As (h.le (l1.trans l2) fun _ _ g=>bT.le g (l1.trans l2)) hb hk hl hi).mono ?_⟩
 generalize ls[i]=x at *
 rintro r V3 l3 ⟨u,s,rfl,gs,-,-⟩
 obtain ⟨_,_,_,_,_,_,_,_,_,_,_,_,_,_,rfl⟩:=Di gs
 refine ⟨_,_,_,_,_,_,_,_,_,_,_,_,_,_,_,_,_,rfl,fun hz=>?_,fun hz=>?_⟩
 ·rw [Bool.not_eq_true'] at hz
  rw [hz,if_neg (by decide)] at eR
  exact ⟨(w1,w2,us,((i+1:Nat):Int)),by dsimp only;omega,by and_intros<;>rfl,i+1,O,rfl,hi,by omega,hO,eR,g1,fc,fv,fx.le fun _ _ g=>bT.le g (l2.trans l3)⟩
 rw [Bool.not_eq_false'] at hz
 rw [hz,if_pos rfl] at eR
 have hq0:bT V1 _ x:=hf0
 refine ⟨fun z _=>∃j:Nat,z=(j:Int)/\j<=O.length/\∀(i':Nat)(h:i'<O.length),i'<j->aq.cH (aq.ar O[i']) (aq.ar x)<0,fun z=>O.length-z.toNat,⟨0,by and_intros<;>rfl,0,rfl,Nat.zero_le _,fun i' _ h=>absurd h (Nat.not_lt_zero i')⟩,?_⟩
 rintro z V4 l4 ⟨j,rfl,F3,jl⟩
 have wj:i64.wrap ((j:Int)+1)=((j+1:Nat):Int):=by rw [ay (by omega)];rfl
 rw [Int.toNat_natCast,wj]
 have dE:=l2.trans (l3.trans l4)
 have sx:=hss.lK
 have dx:=gX hss
 refine ⟨rfl,fun z _=>z=true↔∃h:j<O.length,aq.cH (aq.ar O[j]) (aq.ar x)<0,⟨fun hlt=>?_,fun hlt=>⟨false,by and_intros<;>rfl,?_⟩⟩,?_⟩
 ·have hlt:(j:Int)<(w1:Int):=of_decide_eq_true hlt
  have hj:j<O.length:=by omega
  have hbj:=Xa _ (List.getElem_mem hj)
  have sj:=hbj.lK
  have dj:=gX hbj
  obtain ⟨b1,p1,n1,c1,b2,p2,n2,c2,b3,p3,n3,c3,eW,KT,hr⟩:=E7 fx hj
  refine ⟨⟨by omega,by omega⟩,fc,b1,p1,n1,c1,b2,p2,n2,c2,b3,p3,n3,c3,⟨eW,KT⟩,fun V5 l5=>(fr (hr.le (dE.trans l5)) sj.1 sj.2.1 sj.2.2 (by omega)).mono ?_⟩
  rintro r V6 l6 gd
  have YY:=gd
  obtain ⟨_,_,_,_,_,_,_,_,_,_,_,_,rfl,-⟩:=gd
  refine ⟨_,_,_,_,_,_,_,_,_,_,_,_,_,_,rfl,fun V7 l7=>(fr (RL.le hq0 (dE.trans (l5.trans (l6.trans l7)))) sx.1 sx.2.1 sx.2.2 (by omega)).mono ?_⟩
  rintro r V8 l8 ge
  have YZ:=ge
  obtain ⟨_,_,_,_,_,_,_,_,_,_,_,_,rfl,-⟩:=ge
  refine ⟨_,_,_,_,_,_,_,_,_,_,_,_,_,_,rfl,fun V9 l9=>(xk (a:=aq.ar O[j]) (b:=aq.ar x) (YY.le (l7.trans (l8.trans l9))) (YZ.le l9) dj.1 dj.2 dx.1 dx.2 (by omega)).mono ?_⟩
  rintro r jh l10 rfl
  exact ⟨_,rfl,decide (aq.cH (aq.ar O[j]) (aq.ar x)<0),by and_intros<;>rfl,by dsimp only;rw [decide_eq_true_eq];exact ⟨fun h=>⟨hj,h⟩,fun ⟨_,h⟩=>h⟩⟩
 ·have hlt:¬(j:Int)<(w1:Int):=of_decide_eq_false hlt
  exact ⟨(fun h=>nomatch h),fun ⟨h,_⟩=>absurd h (by omega)⟩
 rintro z V7 l7 Xr
 refine ⟨rfl,fun hz=>?_,fun hz=>?_⟩
 ·obtain ⟨hj,hx'⟩:=Xr.1 hz
  refine ⟨((j+1:Nat):Int),by dsimp only;omega,by and_intros<;>rfl,j+1,rfl,hj,fun i' h hi'=>?_⟩
  by_cases e:i'=j
  ·subst e;exact hx'
  ·exact jl i' h (by omega)
 have hge:∀h:j<O.length,¬aq.cH (aq.ar O[j]) (aq.ar x)<0:=fun h h'=>by
  have:=Xr.2 ⟨h,h'⟩
  rw [hz] at this;cases this
 have hins:=F2 x O j F3 jl hge
 have PV:∀q∈nA x O,q∈ls:=fun q hq=>(mj.1 hq).elim (fun e=>e▸hmm) (hO q)
 have c_:=dE.trans l7
 refine ⟨fun z _=>z=true↔∃h:j<O.length,O[j]=x,⟨fun hlt=>?_,fun hlt=>⟨false,by and_intros<;>rfl,?_⟩⟩,?_⟩
 ·have hlt:(j:Int)<(w1:Int):=of_decide_eq_true hlt
  have hj:j<O.length:=by omega
  obtain ⟨b1,p1,n1,c1,b2,p2,n2,c2,b3,p3,n3,c3,eW,KT,hr⟩:=E7 fx hj
  refine ⟨⟨by omega,by omega⟩,fc,b1,p1,n1,c1,b2,p2,n2,c2,b3,p3,n3,c3,⟨eW,KT⟩,fun V8 l8=>(rR (hr.le (c_.trans l8)) (RL.le hq0 (c_.trans l8)) (Xa _ (List.getElem_mem hj)).lK hss.lK (by omega)).mono ?_⟩
  rintro r V9 l9 rfl
  exact ⟨_,rfl,(Em O[j] x==(0:Int)),by and_intros<;>rfl,by dsimp only;rw [Cf,decide_eq_true_eq];exact ⟨fun h=>⟨hj,h⟩,fun ⟨_,h⟩=>h⟩⟩
 ·have hlt:¬(j:Int)<(w1:Int):=of_decide_eq_false hlt
  exact ⟨(fun h=>nomatch h),fun ⟨h,_⟩=>absurd h (by omega)⟩
 rintro z jh l10 Qg
 have N7:=c_.trans l10
 refine ⟨rfl,fun hz=>?_,fun hz jd bG bk hb J=>?_⟩
 ·have hex:=Qg.1 hz
  rw [if_pos hex] at hins
  rw [hins] at eR
  exact ⟨(w1,w2,us,((i+1:Nat):Int)),by dsimp only;omega,by and_intros<;>rfl,i+1,O,rfl,hi,by omega,hO,eR,g1,fc,fv,fx.le fun _ _ g=>bT.le g N7⟩
 ·have hne:¬∃h:j<O.length,O[j]=x:=fun h=>by have:=Qg.2 h;rw [hz] at this;cases this
  rw [if_neg hne] at hins
  have fxl:=fx.iL (by decide)
  have Tb:=fx.le (V':=jd) fun _ _ g=>bT.le g (N7.trans bG)
  have hq12:bT jd _ x:=bT.le hq0 (N7.trans bG)
  have t1:(us.take (j*6)).length=j*6:=by rw [List.length_take];omega
  have t2:((us.take (O.length*6)).drop (j*6)).length=(w1-j)*6:=by rw [List.length_drop,List.length_take,g1];omega
  have oc:∀v∈(us.take (O.length*6)).drop (j*6),v.oneCell'=true:=by
   intro v ny
   obtain ⟨m,hm,e⟩:=List.mem_iff_getElem.1 (List.mem_of_mem_drop ny)
   have hm':m<O.length*6:=by rw [List.length_take] at hm;omega
   have:=List.getElem?_eq_getElem hm
   rw [e,List.getElem?_take,if_pos hm'] at this
   exact lu fx (by decide) (fun _ _=>Gn) hm' this
  have hmem:0<w2->us≠[]:=fun hw e=>by rw [e] at fv;simp at fv;omega
  have MC:0<w2->mA bk w2=some ⟨bk,0,none⟩:=fun hw=>by unfold mA;rw [if_neg (by omega)]
  have at_:∀m v,m<O.length*6->us[m]?=some v->jd.at ⟨bk,m,none⟩ v:=fun m v hm ny=>fH (hb (hmem (by omega))) ny
  refine ⟨⟨by omega,by omega⟩,⟨by omega,by omega⟩,⟨by omega,by omega⟩,(us.take (O.length*6)).drop (j*6),?_,t2,by omega,Nat.le_refl _,Nat.le_refl 6,t2,oc,fun bk2 J2 sp c' h1 h2=>?_⟩
  ·intro m v hm
   have hml:=(List.getElem?_eq_some_iff.1 hm).1
   rw [t2] at hml
   rw [List.getElem?_drop,List.getElem?_take,if_pos (by omega)] at hm
   have:=at_ (j*6+m) v (by omega) hm
   refine ⟨⟨bk,j*6,none⟩,?_,?_⟩
   ·unfold rf
    rw [if_neg (by omega),MC (by omega)]
    simp [ah,add_zero']
   ·rw [←add_zero',uc,add_zero'];exact this
  ·have hrl:([.bool eb,.slice ep en ec,.bool fb,.slice fp fn fe,.bool gb,.slice gp gn gc]++(us.take (O.length*6)).drop (j*6):List Value).length=(1+(w1-j))*6:=by
    rw [List.length_append,t2];simp only [List.length_cons,List.length_nil];omega
   have hrt:cj (([.bool eb,.slice ep en ec,.bool fb,.slice fp fn fe,.bool gb,.slice gp gn gc]:List Value).take (1*6)++(us.take (O.length*6)).drop (j*6)++sp) 0 ((1+(w1-j))*6)=[.bool eb,.slice ep en ec,.bool fb,.slice fp fn fe,.bool gb,.slice gp gn gc]++(us.take (O.length*6)).drop (j*6):=by
    have e3:(([.bool eb,.slice ep en ec,.bool fb,.slice fp fn fe,.bool gb,.slice gp gn gc]:List Value).take (1*6))=[.bool eb,.slice ep en ec,.bool fb,.slice fp fn fe,.bool gb,.slice gp gn gc]:=rfl
    rw [e3]
    unfold cj
    rw [Nat.ble_eq_true_of_le (by rw [List.length_append,hrl];omega),cond_true,List.drop_zero,List.take_append_of_le_length (by rw [hrl];exact Nat.le_refl _),List.take_of_length_le (by rw [hrl];exact Nat.le_refl _)]
   have hr3:(1+(w1-j))*6 / 6=1+(w1-j):=Nat.mul_div_cancel _ (by decide)
   rw [hrt,hrl,hr3]
   refine ⟨us.take (j*6),?_,t1,Nat.le_refl _,?_,by omega,by omega,rfl,?_,fun sp2 c2' h3 h4=>⟨(j+(1+(w1-j)),c2',_,((i+1:Nat):Int)),by dsimp only;omega,by and_intros<;>first|rfl|omega,i+1,nA x O,rfl,hi,?_,PV,eR,?_⟩⟩
   ·intro m v hm
    have hml:=(List.getElem?_eq_some_iff.1 hm).1
    rw [t1] at hml
    rw [List.getElem?_take,if_pos hml] at hm
    exact ⟨⟨bk,0,none⟩,MC (by omega),by rw [add_zero'];exact at_ m v (by omega) hm⟩
   ·intro hN
    by_cases hw:0<w2
    ·rw [MC hw] at hN;cases hN
    ·omega
   ·intro v ny
    rcases List.mem_append.1 ny with ny|ny
    ·exact Hq v ny
    ·exact oc v ny
   ·rw [hins,List.length_append,List.length_take,List.length_cons,List.length_drop]
    omega
   ·show GR 6 bT _ _ _ _ (nA x O)
    rw [hins]
    refine ⟨?_,h3,?_,vN Tb F3 rfl hq12 (by decide)⟩
    ·show j+(1+(w1-j))=_
     rw [List.length_append,List.length_take,List.length_cons,List.length_drop]
     omega
    ·dsimp only
     rw [List.length_append,List.length_append,t1,hrl]
     omega
end Go.Proofs.Tryz
namespace Go.Proofs.Tryz
open Go.bJ
set_option maxRecDepth 100000
end Go.Proofs.Tryz
namespace Go.Proofs.Tryz
open Go.bJ Go.fo
theorem xg {V:View}{p:OA}{n c:Nat}{ls:List L3}(h:cG 6 oW V p n ls)(hb:∀l∈ls,Bd l){lv:Value}{l:L3}(hl:bT V lv l)(hbl:Bd l)(hok:dP l=true){yi ye yu:Value}(E:Er V yi ye yu) :
  ab prog 77 #[.agg #[.slice p n c],lv] V fun r V'=>∃w,tY V' w l/\BK ls (r=.tuple #[.slice none 0 0,w,yi]) (r=.tuple #[.slice none 0 0,w,ye]) fun cs=>(∃q m e,r=.tuple #[.slice q m e,w,.nilIface]/\cG 17 fW V' q m cs/\m<=e)/\hJ ls.reverse cs/\cs.length<=100000:=by
 have hl0:=hl
 obtain ⟨_,_,_,_,_,_,_,_,_,_,_,_,rfl⟩:=bH hl
 refine wg p n c _ _ _ _ _ _ _ _ _ _ _ _ V _ fun V1 l1=>(rN (x:=l) (hl0.le l1) hbl).mono ?_
 rintro r V2 l2 ⟨w,rfl,⟨_,_,_,_,_,_,_,_,_,rfl⟩,hw⟩
 have hw:=hw hok
 rw [hok]
 refine ⟨_,_,_,_,_,_,_,_,_,_,rfl,(fun hf=>by cases hf),fun _ V4 l4=>(gx (h.le (l1.trans (l2.trans l4)) fun _ _ g=>oW.le g (l1.trans (l2.trans l4))) hb (E.le (l1.trans (l2.trans l4)))).mono ?_⟩
 rintro r V5 l5 (⟨ho,rfl⟩|⟨ho,hc,rfl⟩|⟨ho,cs,hc,⟨q,m,e,rfl,hL,hm⟩,hC,hl⟩)
 ·exact ⟨_,_,_,_,rfl,fun V6 l6=>⟨_,tI.le hw (l4.trans (l5.trans l6)),.inl ⟨ho,rfl⟩⟩⟩
 ·exact ⟨_,_,_,_,rfl,fun V6 l6=>⟨_,tI.le hw (l4.trans (l5.trans l6)),.inr (.inl ⟨ho,hc,rfl⟩)⟩⟩
 ·exact ⟨_,_,_,_,rfl,fun V6 l6=>⟨_,tI.le hw (l4.trans (l5.trans l6)),.inr (.inr ⟨ho,cs,hc,⟨_,_,_,rfl,hL.le l6 fun _ _ g=>fW.le g l6,hm⟩,hC,hl⟩)⟩⟩
theorem xf {V:View}{p:OA}{n c:Nat}{ls:List L3}(h:cG 6 oW V p n ls)(hb:∀l∈ls,Bd l)(hlen:ls.length<=1000){lv:Value}{l:L3}(hl:bT V lv l)(hbl:Bd l)(hok:dP l=true){yi ye yu:Value}(E:Er V yi ye yu) :
  ab prog 40 #[.agg #[.slice p n c],lv] V fun r V'=>BK ls (r=.tuple #[.agg #[.slice none 0 0],yi]) (r=.tuple #[.agg #[.slice none 0 0],ye]) fun cs=>
   (cI cs l=none->r=.tuple #[.agg #[.slice none 0 0],ye])/\∀c',cI cs l=some c'->∃q m e,r=.tuple #[.agg #[.slice q m e],.nilIface]/\cG 6 bT V' q m (c'.map Prod.fst):=by
 have hl0:=hl
 obtain ⟨_,_,_,_,_,_,_,_,_,_,_,_,rfl⟩:=bH hl
 refine wc p n c _ _ _ _ _ _ _ _ _ _ _ _ V _ fun V1 l1=>(xg (h.le l1 fun _ _ g=>oW.le g l1) hb (hl0.le l1) hbl hok (E.le l1)).mono ?_
 rintro r V2 l2 ⟨w,hw,(⟨ho,rfl⟩|⟨ho,hc,rfl⟩|⟨ho,cs,hc,⟨q,m,e,rfl,hL,hm⟩,hC,hl⟩)⟩
 ·obtain ⟨i1,i2⟩:=nP E.si
  obtain ⟨_,_,_,_,_,_,_,_,_,rfl,-⟩:=hw
  exact ⟨_,_,_,_,_,_,_,_,_,_,_,_,_,rfl,i1,fun _ V3 l3=>.inl ⟨ho,rfl⟩,fun hf=>by rw [i2] at hf;cases hf⟩
 ·obtain ⟨i1,i2⟩:=nP E.se
  obtain ⟨_,_,_,_,_,_,_,_,_,rfl,-⟩:=hw
  exact ⟨_,_,_,_,_,_,_,_,_,_,_,_,_,rfl,i1,fun _ V3 l3=>.inr (.inl ⟨ho,hc,rfl⟩),fun hf=>by rw [i2] at hf;cases hf⟩
 ·have hw0:=hw
  have L2:=l1.trans l2
  obtain ⟨_,_,_,_,_,_,_,_,_,rfl,-⟩:=hw
  refine ⟨_,_,_,_,_,_,_,_,_,_,_,_,_,rfl,gG.1,(fun hf=>by cases hf),fun _ V4 l4=>(rL (hL.le l4 fun _ _ g=>fW.le g l4) (hw0.le l4) hbl (by omega) hC.qw).mono ?_⟩
  rintro r V5 l5 ⟨q',m',e',rfl,hr⟩
  refine ⟨_,_,_,_,rfl,fun hf=>⟨ye,⟨_,rfl,(E.le (L2.trans (l4.trans l5))).emp⟩,fun V6 l6=>.inr (.inr ⟨ho,cs,hc,fun _=>rfl,fun c' e=>?_⟩)⟩,fun hf=>?_⟩
  ·rw [e] at hf;cases hf
  ·have hf:(cI cs l).isSome=true:=by simpa using hf
   obtain ⟨c',ec⟩:=Option.isSome_iff_exists.1 hf
   obtain ⟨hL',hcap⟩:=hr c' ec
   have Od:=qH ec
   have UA:=mV hc
   rw [List.length_nil] at UA
   have hml:=hL'.len
   refine ⟨fun hg=>?_,fun hg V8 l8=>(uq (hL'.le l8 fun _ _ g=>fW.le g l8) (by omega)).mono ?_⟩
   ·have hg:=of_decide_eq_true hg;omega
   ·rintro r V9 l9 ⟨q2,m2,e2,rfl,g,-⟩
    refine ⟨_,_,_,rfl,fun jh l10=>.inr (.inr ⟨ho,cs,hc,(fun e=>by rw [e] at ec;cases ec),fun c2 e=>?_⟩)⟩
    rw [ec] at e
    cases e
    exact ⟨_,_,_,rfl,g.le l10 fun _ _ g=>bT.le g l10⟩
end Go.Proofs.Tryz
namespace Go.Proofs.Tryz
open Go.bJ
set_option maxRecDepth 100000
end Go.Proofs.Tryz
namespace Go.Proofs.Tryz
open Go.bJ Go.fo
theorem JW {V:View}{vs:List Value}{ls:List L3}(h:Row 6 bT V vs ls)(hl:vs.length=ls.length*6):∀v∈vs,v.oneCell'=true:=by
 intro v hv
 obtain ⟨m,hm,e⟩:=List.mem_iff_getElem.1 hv
 exact lu h (by decide) (fun _ _=>Gn) (m:=m) (by omega) (by rw [←e];exact List.getElem?_eq_getElem hm)
theorem JV {V:View}{xs ys sp sp':List Value}{ls:List L3}{m:L3}{n:Nat}(hn:n=ls.length)(h:Row 6 bT V xs ls)(hx:xs.length=n*6)(hy:ys.length=6)(hm:bT V (.agg ys.toArray) m):Row 6 bT V ((([]:List Value).take (0*6)++xs++sp).take ((0+n)*6)++ys++sp') (ls++[m]):=by
 subst hn
 have e:([]:List Value).take (0*6)++xs++sp=xs++sp:=by simp
 rw [e,Nat.zero_add]
 have h1:Row 6 bT V (xs++sp) ls:=by
  have:=iS (V:=V) (vs:=[]) (ls:=[]) (sp:=sp) (Row.nil) h (by decide)
  simpa using this
 exact iS h1 (row_one hy hm) (by decide)
theorem oq (m:L3):∀(ls M:List L3)(c:List Sd),aT (ls++[m]) M c=(aT ls M c).bind fun c'=>cI c' m
 | [],M,c=>by
  show (match cI c m with|some c'=>aT [] (m::M) c'|none=>none)=cI c m
  cases cI c m<;>rfl
 | l::r,M,c=>by
  show (match cI c l with|some c'=>aT (r++[m]) (l::M) c'|none=>none)=(match cI c l with|some c'=>aT r (l::M) c'|none=>none).bind fun c'=>cI c' m
  cases cI c l with
  | none=>rfl
  | some c'=>exact oq m r (l::M) c'
theorem Db {ls:List L3}(hk:∀m∈ls,dP m=true){c:List Sd}(e:aT ls [] []=some c):decide (ls=[]\/ll ls ls []≠[])=true/\ll ls ls []=c.map Prod.fst:=by
 obtain ⟨h1,h2,h3⟩:=(uF hk).1 c e
 exact ⟨decide_eq_true h3,h1⟩
theorem vL {ls:List L3}(hk:∀m∈ls,dP m=true)(e:aT ls [] []=none):decide (ls=[]\/ll ls ls []≠[])=false:=by
 obtain ⟨h1,h2,h3⟩:=(uF hk).2 e
 exact decide_eq_false fun h=>h.elim h2 fun h=>h h1
theorem J1 {M:List L3}{c:List Sd}(h:hJ M c)(hb:∀m∈M,Bd m):∀l∈c.map Prod.fst,Bd l:=fun l hl=>by
 obtain ⟨s,hs,rfl⟩:=List.mem_map.1 hl
 exact hb _ (h.mem s hs).1
theorem Oz {ls:List L3}(hk:∀m∈ls,Bd m):∀m∈ls.reverse,Bd m:=fun m hm=>hk m (List.mem_reverse.1 hm)
set_option maxHeartbeats 1000000 in
theorem nq {V:View}{lp:OA}{ln lc:Nat}(hr:HS V lp ln)(hc:ln<=lc){yi ye yu:Value}(E:Er V yi ye yu) :
  ab prog 7 #[.slice lp ln lc] V fun r V'=>r=.bool true:=by
 refine mO lp ln lc V _ fun V1 l1=>(Cc hc).mono ?_
 rintro r V2 l2 ⟨tb,rfl,hfr,hb⟩
 have hrm:HS V lp (min ln 400):=fun i hi=>hr i (by have:=Nat.min_le_left ln 400;omega)
 have MB:min ln 400<=400:=Nat.min_le_right ln 400
 generalize min ln 400=mm at *
 refine ⟨tb,lp,mm,lc,0,rfl,hfr,hb,fun V3 l3 YF e3 h3=>?_⟩
 have VK:V.Le V3:=l1.trans (I_ l2 hfr l3)
 refine (Nq (V:=V3.bo [YF]) (hrm.le fun b o h=>VK b o h) MB e3 ⟨by simp,h3⟩ (Int.le_refl 0)).mono ?_
 rintro r V4 l4 ⟨H8,ls,q,n1,c1,t1,hw1,rfl,hL,hlen,hls⟩
 have hok:∀l∈ls,dP l=true:=fun l hl=>(hls l hl).1
 have hbd:∀l∈ls,Bd l:=fun l hl=>(hls l hl).2
 refine ⟨_,_,_,rfl,_,_,_,_,hw1,fun V5 l5 YH e8 h8=>?_⟩
 have MK:V4.Le V5:=fun b o h=>l5 b o h
 have L5:V.Le V5:=fun b o h=>MK b o (l4 b o (VK b o h))
 refine (Wu (V:=V5.bo [YH]) (hrm.le fun b o h=>L5 b o h) MB e8 ⟨by simp,h8⟩ t1).mono ?_
 rintro r V6 l6 ⟨l,at2,hl,ok,bd,t2,hw2⟩
 have hl0:bT V6 r l:=hl
 obtain ⟨_,_,_,_,_,_,_,_,_,_,_,_,rfl⟩:=bH hl0
 refine ⟨_,_,_,_,_,_,_,_,_,_,_,_,rfl,_,_,_,_,hw2,fun V7 l7=>?_⟩
 have Sb:V6.Le V7:=fun b o h=>l7 b o h
 have Sa:V5.Le V7:=fun b o h=>Sb b o (l6 b o h)
 have L7:V.Le V7:=L5.trans Sa
 have hL7:cG 6 bT V7 q n1 ls:=hL.le (MK.trans Sa) fun _ _ g=>bT.le g (MK.trans Sa)
 have Xi:bT V7 _ l:=bT.le hl0 Sb
 refine (gD hL7 (by omega) hbd).mono ?_
 rintro r V8 l8 ⟨q2,n2,c2,rfl,hW⟩
 have wq:∀{W:View},V8.Le W->cG 6 oW W q2 n2 ls:=fun l=>cG.q (hW.le l fun _ _ g=>bT.le g l)
 have oC:xI ls=true:=Ok (by omega) hok
 have L8:=L7.trans l8
 refine ⟨_,_,_,rfl,fun V9 l9=>(uv (wq l9) hbd (E.le (L8.trans l9))).mono ?_⟩
 rintro r jh l10 hE
 have hE':r=.tuple #[.bool (aT ls [] []).isNone,.nilIface]:=by
  cases hcan:aT ls [] [] with
  | none=>exact hE.QS oC hcan
  | some cs=>exact hE.some oC hcan
 subst hE'
 clear hE
 have rZ:=l9.trans l10
 refine ⟨_,_,rfl,fun jd bG=>(lY (wq (rZ.trans bG)) hbd (E.le (L8.trans (rZ.trans bG)))).mono ?_⟩
 rintro r nF cN hA
 have key:∃pa na ca ya,r=.tuple #[.agg #[.slice pa na ca],ya]/\((aT ls [] []=none/\na=0/\ya=ye)\/∃cs,aT ls [] []=some cs/\ya=.nilIface/\cG 6 bT nF pa na (cs.map Prod.fst)):=by
  cases hcan:aT ls [] [] with
  | none=>exact ⟨_,_,_,_,hA.QS oC hcan,.inl ⟨rfl,rfl,rfl⟩⟩
  | some cs=>
   obtain ⟨q,m,e,e1,e2,-⟩:=hA.some oC hcan
   exact ⟨_,_,_,_,e1,.inr ⟨cs,rfl,rfl,e2⟩⟩
 obtain ⟨pa,na,ca,ya,rfl,hA'⟩:=key
 clear hA
 have MM:=rZ.trans (bG.trans cN)
 obtain ⟨d1,d2,d3⟩:=bd.ag
 refine ⟨_,_,_,_,rfl,fun rH dg=>(rS (a:=l.1) (b:=l.2.1) (c:=l.2.2) (bT.le Xi (l8.trans (MM.trans dg))) (by omega) (by omega) (by omega)).mono ?_⟩
 rintro r nG dE gm
 have R3:bT nG r l:=gm
 obtain ⟨_,_,_,_,_,_,_,_,_,_,_,_,rfl⟩:=bH R3
 have I6:=MM.trans (dg.trans dE)
 refine ⟨_,_,_,_,_,_,_,_,_,_,_,_,rfl,fun lU dO=>(xf (wq (I6.trans dO)) hbd (by omega) (R3.le dO) bd ok (E.le (L8.trans (I6.trans dO)))).mono ?_⟩
 rintro r lR dv hB
 have key:∃pb nb cb yb,r=.tuple #[.agg #[.slice pb nb cb],yb]/\((aT (ls++[l]) [] []=none/\nb=0/\yb=ye)\/∃cs,aT (ls++[l]) [] []=some cs/\yb=.nilIface/\cG 6 bT lR pb nb (cs.map Prod.fst)):=by
  rw [oq]
  cases hcan:aT ls [] [] with
  | none=>exact ⟨_,_,_,_,hB.QS oC hcan,.inl ⟨rfl,rfl,rfl⟩⟩
  | some cs=>
   obtain ⟨h1,h2⟩:=hB.some oC hcan
   cases hcl:cI cs l with
   | none=>exact ⟨_,_,_,_,h1 hcl,.inl ⟨hcl,rfl,rfl⟩⟩
   | some c'=>
    obtain ⟨q,m,e,e1,e2⟩:=h2 c' hcl
    exact ⟨_,_,_,_,e1,.inr ⟨c',hcl,rfl,e2⟩⟩
 obtain ⟨pb,nb,cb,yb,rfl,hB'⟩:=key
 clear hB
 have I7:=I6.trans (dO.trans dv)
 refine ⟨_,_,_,_,rfl,fun nH c_=>(nO (hL7.le (l8.trans (I7.trans c_)) fun _ _ g=>bT.le g (l8.trans (I7.trans c_))) hbd hok (by omega)).mono ?_⟩
 rintro r qm dM ⟨qu,nu,cu,rfl,hU⟩
 have MN:=I7.trans (c_.trans dM)
 have I5:=l8.trans MN
 have TR:cG 6 bT qm q n1 ls:=hL7.le I5 fun _ _ g=>bT.le g I5
 obtain ⟨xs,hsl,hxl,Xp⟩:=Hl TR (by decide)
 have hn1:=hL7.len
 have bA:∀x∈ls++[l],Bd x:=fun x h=>(List.mem_append.1 h).elim (hbd x) fun h=>by rw [List.mem_singleton.1 h];exact bd
 have kA:∀x∈ls++[l],dP x=true:=fun x h=>(List.mem_append.1 h).elim (hok x) fun h=>by rw [List.mem_singleton.1 h];exact ok
 have lA:(ls++[l]).length=(0+n1)+1:=by rw [List.length_append];simp;omega
 refine ⟨_,_,_,_,rfl,xs,hsl,by omega,by omega,Nat.le_refl _,by simp,by omega,JW Xp hxl,fun YD J36 Vf c34 k1 k2=>⟨by omega,k1,by simp;omega,rfl,Hq,fun YE J40 Vg Ws k3 k4 rI dF Nn TV=>?_⟩⟩
 have hX:cG 6 bT rI (some ⟨Nn,0,none⟩) ((0+n1)+1) (ls++[l]):=by
  have hR:=JV (V:=rI) (ys:=[_,_,_,_,_,_]) (sp:=Vf) (sp':=Vg) hn1 (Xp.le fun _ _ g=>bT.le g dF) (by omega) rfl (bT.le Xi (I5.trans dF))
  have:=cG.eH (V:=rI) (c:=Ws) (fun _=>TV) hR (by decide) (by omega)
  have e:mA Nn Ws=some ⟨Nn,0,none⟩:=by unfold mA;rw [if_neg (by omega)]
  rw [e,lA] at this
  exact this
 refine (nO hX bA kA (by omega)).mono ?_
 rintro r zW gI ⟨qv,nv,cv,rfl,hV⟩
 have kX:=dF.trans gI
 have Qx:=MN.trans kX
 have RJ:=L8.trans Qx
 have cb:∀{ls:List L3} {cs:List Sd},(∀x∈ls,Bd x)->(∀x∈ls,dP x=true)->ls.length<=8->aT ls [] []=some cs->(∀x∈cs.map Prod.fst,Bd x)/\(cs.map Prod.fst).length<=1000000:=fun {ls cs} hb hk hl hcan=>by
  have hC:=((uF hk).1 cs hcan).2.1
  have S8:=mV hcan
  rw [List.length_nil] at S8
  exact ⟨J1 hC (Oz hb),by rw [List.length_map];omega⟩
 have ZT:(ls++[l]).length<=8:=by rw [List.length_append];simp;omega
 refine ⟨_,_,_,_,rfl,fun J44=>⟨gG.1,(fun hf=>by cases hf),fun _=>?_⟩⟩
 rcases hA' with ⟨hcan,rfl,rfl⟩|⟨cs,hcan,rfl,Y_⟩
 ·have va:aT (ls++[l]) [] []=none:=by rw [oq,hcan];rfl
  rcases hB' with ⟨-,rfl,rfl⟩|⟨cs,hcs,-,-⟩
  rotate_left
  ·rw [va] at hcs;cases hcs
  have e1:=vL hok hcan
  have e2:=vL kA va
  obtain ⟨i1,i2⟩:=nP E.se
  rw [e1,e2,hcan]
  refine ⟨(fun hf=>by simp at hf),fun _=>⟨i1,(fun hf=>by rw [i2] at hf;simp at hf),fun _=>⟨(fun hf=>by cases hf),fun _=>⟨fun _=>⟨_,⟨_,rfl,(E.le RJ).emp⟩,fun V71 Xy=>(fY E.se).mono ?_⟩,(fun hf=>by cases hf)⟩⟩⟩⟩
  rintro r V72 Xz rfl
  refine ⟨_,rfl,(fun hf=>by cases hf),fun _=>⟨(fun hf=>by simp at hf),fun _ V75 XA=>(nK (E.le (RJ.trans (Xy.trans (Xz.trans XA))))).mono ?_⟩⟩
  rintro r V76 ZR rfl
  have X6:=RJ.trans (Xy.trans (Xz.trans (XA.trans ZR)))
  refine ⟨_,rfl,fun _=>⟨i1,fun _=>⟨(fun hf=>by cases hf),fun _=>⟨fun _=>⟨_,⟨_,rfl,(E.le X6).emp⟩,fun Wc l87=>(fY E.se).mono ?_⟩,(fun hf=>by cases hf)⟩⟩,(fun hf=>by rw [i2] at hf;simp at hf)⟩,(fun hf=>by cases hf)⟩
  rintro r SR l88 rfl
  exact ⟨_,rfl,fun _ We l89=>rfl,(fun hf=>by cases hf)⟩
 ·obtain ⟨e1,O4⟩:=Db hok hcan
  obtain ⟨f1,f2⟩:=cb hbd hok (by omega) hcan
  rw [O4] at hU
  rw [e1,hcan]
  have f2':=hU.len
  refine ⟨(fun hf=>by simp at hf),fun _=>⟨gG.1,(fun hf=>by simp [bC] at hf),fun _=>⟨fun _ H3 oY=>?_,(fun hf=>by cases hf)⟩⟩⟩
  refine (gD (hU.le (kX.trans oY) fun _ _ g=>bT.le g (kX.trans oY)) f2 f1).mono ?_
  rintro r HT nB ⟨q45,n45,c45,rfl,hW2⟩
  have N9:=(c_.trans dM).trans (kX.trans (oY.trans nB))
  have I0:=(dg.trans dE).trans ((dO.trans dv).trans N9)
  refine ⟨_,_,_,rfl,fun Kr lS=>(kQ (Y_.le (I0.trans lS) fun _ _ g=>bT.le g (I0.trans lS)) (hW2.le lS fun _ _ g=>bT.le g lS) f2 f1).mono ?_⟩
  rintro r Nc lI rfl
  have VJ:=RJ.trans (oY.trans (nB.trans (lS.trans lI)))
  refine ⟨_,rfl,(fun hf=>by cases hf),fun _=>⟨(fun hf=>by cases hf),fun _ SL Ux=>(nK (E.le (VJ.trans Ux))).mono ?_⟩⟩
  rintro r VQ Xw rfl
  have X5:=VJ.trans (Ux.trans Xw)
  rcases hB' with ⟨va,rfl,rfl⟩|⟨cs2,va,rfl,Za⟩
  ·have e2:=vL kA va
   obtain ⟨i1,i2⟩:=nP E.se
   rw [e2]
   refine ⟨_,rfl,fun _=>⟨i1,fun _=>⟨(fun hf=>by cases hf),fun _=>⟨fun _=>⟨_,⟨_,rfl,(E.le X5).emp⟩,fun SP l64=>(fY E.se).mono ?_⟩,(fun hf=>by cases hf)⟩⟩,(fun hf=>by rw [i2] at hf;simp at hf)⟩,(fun hf=>by cases hf)⟩
   rintro r VW l65 rfl
   exact ⟨_,rfl,fun _ SQ l66=>rfl,(fun hf=>by cases hf)⟩
  ·obtain ⟨e2,e2'⟩:=Db kA va
   obtain ⟨g1,g2⟩:=cb bA kA ZT va
   rw [e2'] at hV
   rw [e2]
   refine ⟨_,rfl,fun _=>⟨gG.1,fun _=>⟨fun _ SM ZP=>?_,(fun hf=>by cases hf)⟩,(fun hf=>by simp [bC] at hf)⟩,(fun hf=>by cases hf)⟩
   have EL:=oY.trans (nB.trans (lS.trans (lI.trans (Ux.trans (Xw.trans ZP)))))
   refine (gD (hV.le EL fun _ _ g=>bT.le g EL) g2 g1).mono ?_
   rintro r VS ZQ ⟨q60,n60,c60,rfl,hW3⟩
   have I3:=(c_.trans dM).trans (kX.trans (EL.trans ZQ))
   refine ⟨_,_,_,rfl,fun SN R_=>(kQ (Za.le (I3.trans R_) fun _ _ g=>bT.le g (I3.trans R_)) (hW3.le R_ fun _ _ g=>bT.le g R_) g2 g1).mono ?_⟩
   rintro r VT Sa rfl
   exact ⟨_,rfl,fun _ SO l58=>rfl,(fun hf=>by cases hf)⟩
end Go.Proofs.Tryz
