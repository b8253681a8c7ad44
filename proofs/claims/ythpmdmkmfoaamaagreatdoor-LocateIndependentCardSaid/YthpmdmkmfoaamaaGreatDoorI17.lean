import Derived.Test.YthpmdmkmfoaamaaGreatDoorI16
import Derived.Test.YthpmdmkmfoaamaaGreatDoorI8
import Derived.Test.YthpmdmkmfoaamaaGreatDoorI13
set_option linter.unusedVariables false
open Go.IntKind (i64 u64 u32)
namespace Go.Proofs.Tryz
open Go.bF Go.fl
def yX:Tr:=.node LL (.leaf true) (.leaf false)
theorem Kf:yX.kd En:=⟨⟨Ia,H_⟩,trivial,trivial⟩
theorem oD {t:Tr}{p:Rat×Rat}{c:Int}(h:kg t p c)(hm:aX.cS t p=[]):c=if (aX.lq t p (1,0)).1 then 2 else 0:=by
 have:=h [] [(1,0)] ⟨fun r h=>(by cases h),fun r h=>(by cases h),List.Pairwise.nil⟩ (.inl ⟨rfl,rfl⟩) (by rw [hm];intro l h;cases h)
 rw [this]
 unfold aX.anyS aX.ki EP
 simp only [List.any_cons,List.any_nil,Bool.or_false,List.all_cons,List.all_nil,Bool.and_true]
 cases (aX.lq t p (1,0)).1<;>rfl
theorem IP:aX.CJ [(1,0),(-1,0)]:=by
 refine ⟨fun r hr=>?_,fun r hr=>?_,?_⟩
 ·simp only [List.mem_cons,List.not_mem_nil,or_false] at hr
  rcases hr with rfl|rfl
  ·exact .inl (by decide)
  ·exact .inl (by decide)
 ·simp only [List.mem_cons,List.not_mem_nil,or_false] at hr
  rcases hr with rfl|rfl
  ·exact ⟨(-1,0),by simp,1,by decide,by decide +kernel,by decide +kernel⟩
  ·exact ⟨(1,0),by simp,1,by decide,by decide +kernel,by decide +kernel⟩
 ·refine List.pairwise_cons.2 ⟨fun x hx=>?_,List.pairwise_singleton ..⟩
  rcases List.mem_singleton.1 hx with rfl
  exact .inl ⟨.inr ⟨rfl,by decide⟩,.inr ⟨rfl,by decide⟩⟩
theorem tF {V:View}{v w:Value}(h:AT V v (rt 0 yX) (wr 0 yX)){x y:Int}(hw:I2 V w (x:Rat) (y:Rat))(hx:-40<=x/\x<=40)(hy:-40<=y/\y<=40){e:Value}(he:uV V 0 e) :
  ab prog 13 #[v,w] V fun r V'=>∃c,r=.tuple #[.int .i64 c,.nilIface]/\kg yX ((x:Rat),(y:Rat)) c:=by
 have sx:=uS hx
 have sy:=uS hy
 have ho:qU (wr 0 yX) (rt 0 yX)=some yX:=B1 ⟨Ia,trivial,trivial⟩ (by decide)
 refine (h_ (p:=((x:Rat),(y:Rat))) (lL (p:=Bd) (t:=yX) ⟨H_,trivial,trivial⟩) h (CI.of (p:=((x:Rat),(y:Rat))) hw sx sy (by omega)) (sx.mono (by omega)) (sy.mono (by omega)) (fun t ht=>by rw [ho] at ht;cases ht;decide) (fun t ht n c=>by rw [ho] at ht;cases ht;exact Kc n c _ (by have:=oO yX ((x:Rat),(y:Rat));rw [w_];have e:yX.size=1:=rfl;omega)) he).mono ?_
 rintro r V' _ ⟨-,h2⟩
 exact h2 yX ho
theorem DA {V:View}{e:Value}(he:uV V 0 e):ab prog 16 #[] V fun r V'=>r=.bool true:=by
 refine uG V _ fun V1 l1=>(ef 0 0 (by omega) (by omega) (by omega) (by omega)).mono ?_
 rintro r V2 l2 hp
 have hp0:=hp
 obtain ⟨_,_,_,_,_,_,_,_,_,_,_,_,rfl,-⟩:=hp
 refine ⟨_,_,_,_,_,_,_,_,_,_,_,_,_,_,rfl,fun V3 l3=>(ef 1 0 (by omega) (by omega) (by omega) (by omega)).mono ?_⟩
 rintro r V4 l4 hq
 have hq0:=hq
 obtain ⟨_,_,_,_,_,_,_,_,_,_,_,_,rfl,-⟩:=hq
 refine ⟨_,_,_,_,_,_,_,_,_,_,_,_,_,_,rfl,fun V5 l5=>(xK (hp0.le (l3.trans (l4.trans l5))) (hq0.le l5)).mono ?_⟩
 rintro r V6 l6 ⟨l,rfl,hl⟩
 obtain ⟨b1,u1,v1,w1,b2,u2,v2,w2,b3,u3,v3,w3,rfl⟩:=y_ hl
 have GG:=l1.trans (l2.trans (l3.trans (l4.trans (l5.trans l6))))
 refine ⟨_,_,_,_,_,_,_,_,_,_,_,_,_,rfl,fun V7 l7=>(gG true).mono ?_⟩
 rintro r V8 l8 ⟨pa,rfl,ha⟩
 refine ⟨_,rfl,fun V9 l9=>(gG false).mono ?_⟩
 rintro r gX l10 ⟨pb,rfl,hb⟩
 have Mh:=l7.trans (l8.trans (l9.trans l10))
 refine ⟨_,rfl,fun iH bR bk e1 e2=>(ic (V:=iH.ar [bk]) (ln:=LL) (x:=.leaf true) (y:=.leaf false) e1 (RL.le (V:=V6) (V':=iH.ar _) hl fun b o h=>(Mh.trans bR) b o h) (RW.le (V:=V8) (V':=iH.ar _) (fun b o h=>(l9.trans (l10.trans bR)) b o h) ha) (RW.le (V:=gX) (V':=iH.ar _) (fun b o h=>bR b o h) hb) Kf (by decide)).mono ?_⟩
 rintro r lf cE ⟨e3,hat⟩
 have Lt:AT lf r (rt 0 yX) (wr 0 yX):=hat
 clear hat
 have Jm:=Lt
 obtain ⟨q,n,c,rfl,-⟩:=Lt
 have L4:iH.Le lf:=fun b o h=>cE b o h
 have Ks:=GG.trans (Mh.trans (bR.trans L4))
 refine ⟨_,_,_,_,rfl,_,_,_,_,_,_,_,_,_,_,_,_,_,_,_,_,e3,fun lr cu=>(ef 0 1 (by omega) (by omega) (by omega) (by omega)).mono ?_⟩
 have cu:lf.Le lr:=fun b o h=>cu b o h
 rintro r pH eM hp
 have hp0:=hp
 obtain ⟨_,_,_,_,_,_,_,_,_,_,_,_,rfl,-⟩:=hp
 refine ⟨_,_,_,_,_,_,_,_,_,_,_,_,_,_,rfl,fun oe dA=>(fU (hp0.le dA) (uS (by omega)) (uS (by omega)) (by omega)).mono ?_⟩
 rintro r mM dF hw
 have hw0:=hw
 obtain ⟨_,_,_,_,_,_,_,_,_,_,_,_,_,_,rfl,-⟩:=hw
 have Fe:=cu.trans (eM.trans (dA.trans dF))
 refine ⟨_,_,_,_,_,_,_,_,_,_,_,_,_,_,rfl,fun oo cO=>(tF (Jm.le (Fe.trans cO)) (hw0.le cO) (by omega) (by omega) (he.le (Ks.trans (Fe.trans cO)))).mono ?_⟩
 rintro r qA eW ⟨k1,rfl,hk1⟩
 have S0:=oD hk1 (by decide +kernel)
 rw [show (aX.lq yX (((0:Int):Rat),((1:Int):Rat)) (1,0)).1=true by decide +kernel,if_pos rfl] at S0
 subst S0
 have L8:=Fe.trans (cO.trans eW)
 refine ⟨_,_,rfl,fun sf eF=>(ef 5 0 (by omega) (by omega) (by omega) (by omega)).mono ?_⟩
 rintro r zb kf hp
 have hp0:=hp
 obtain ⟨_,_,_,_,_,_,_,_,_,_,_,_,rfl,-⟩:=hp
 refine ⟨_,_,_,_,_,_,_,_,_,_,_,_,_,_,rfl,fun uR fr=>(fU (hp0.le fr) (uS (by omega)) (uS (by omega)) (by omega)).mono ?_⟩
 rintro r xp kU hw
 have hw0:=hw
 obtain ⟨_,_,_,_,_,_,_,_,_,_,_,_,_,_,rfl,-⟩:=hw
 have Ff:=L8.trans (eF.trans (kf.trans (fr.trans kU)))
 refine ⟨_,_,_,_,_,_,_,_,_,_,_,_,_,_,rfl,fun uW gm=>(tF (Jm.le (Ff.trans gm)) (hw0.le gm) (by omega) (by omega) (he.le (Ks.trans (Ff.trans gm)))).mono ?_⟩
 rintro r Dp qO ⟨k2,rfl,hk2⟩
 have N0:=hk2 [(1,0),(-1,0)] (jf [(1,0),(-1,0)]) IP (qk IP) (by
  intro l hl
  have:aX.cS yX (((5:Int):Rat),((0:Int):Rat))=[LL]:=by decide +kernel
  rw [this] at hl
  rcases List.mem_singleton.1 hl with rfl
  exact ⟨(1,0),by simp,1,by decide,by decide +kernel⟩)
 rw [show aX.anyS yX (((5:Int):Rat),((0:Int):Rat)) (jf [(1,0),(-1,0)])=true by decide +kernel,show aX.ki yX (((5:Int):Rat),((0:Int):Rat)) (jf [(1,0),(-1,0)])=false by decide +kernel] at N0
 have N0:k2=1:=N0
 subst N0
 have L9:=Ff.trans (gm.trans qO)
 refine ⟨_,_,rfl,fun Eo iJ=>(ef 0 (-1) (by omega) (by omega) (by omega) (by omega)).mono ?_⟩
 rintro r Dq qP hp
 have hp0:=hp
 obtain ⟨_,_,_,_,_,_,_,_,_,_,_,_,rfl,-⟩:=hp
 refine ⟨_,_,_,_,_,_,_,_,_,_,_,_,_,_,rfl,fun Gx lK=>(fU (hp0.le lK) (uS (by omega)) (uS (by omega)) (by omega)).mono ?_⟩
 rintro r Gy vj hw
 have hw0:=hw
 obtain ⟨_,_,_,_,_,_,_,_,_,_,_,_,_,_,rfl,-⟩:=hw
 have IC:=L9.trans (iJ.trans (qP.trans (lK.trans vj)))
 refine ⟨_,_,_,_,_,_,_,_,_,_,_,_,_,_,rfl,fun Kw rT=>(tF (Jm.le (IC.trans rT)) (hw0.le rT) (by omega) (by omega) (he.le (Ks.trans (IC.trans rT)))).mono ?_⟩
 rintro r Gz tG ⟨k3,rfl,hk3⟩
 have N1:=oD hk3 (by decide +kernel)
 rw [show (aX.lq yX (((0:Int):Rat),((-1:Int):Rat)) (1,0)).1=false by decide +kernel] at N1
 have N1:k3=0:=N1
 subst N1
 exact ⟨_,_,rfl,vl.1,fun _=>⟨vl.1,fun _=>⟨vl.1,fun _=>⟨fun _=>⟨fun _ NN C3=>rfl,(fun h=>by cases h)⟩,(fun h=>by cases h)⟩,(fun h=>by rw [vl.2] at h;cases h)⟩,(fun h=>by rw [vl.2] at h;cases h)⟩,(fun h=>by rw [vl.2] at h;cases h)⟩
theorem Eb (l:List (Rat×Rat)):∃m:List (Rat×Rat),m.Perm l/\m.Pairwise fun x y=>¬dz y x<0:=by
 refine ⟨l.mergeSort (fun x y=>decide (¬dz y x<0)),List.mergeSort_perm ..,?_⟩
 refine (List.pairwise_mergeSort (le:=fun x y=>decide (¬dz y x<0)) (fun a b c h1 h2=>?_) (fun a b=>?_) l).imp fun h=>of_decide_eq_true h
 ·exact decide_eq_true (aX.su c b a (of_decide_eq_true h2) (of_decide_eq_true h1))
 ·by_cases h:dz b a<0
  ·have:=aX.CN b a h
   rw [Bool.or_eq_true]
   exact .inr (decide_eq_true this)
  ·rw [Bool.or_eq_true]
   exact .inl (decide_eq_true h)
theorem indep {t:Tr}{l:L3}(ho:(Tr.node l t t).kd fun l=>¬(l.1=0/\l.2.1=0)){p:Rat×Rat}{a b:Int}(h1:kg t p a)(h2:kg (.node l t t) p b):a=b:=by
 obtain ⟨m,pm,pw⟩:=Eb (iy (aX.cS (.node l t t) p))
 obtain ⟨ry,cv⟩:=De (C8 ho) pm pw
 have sm:=qk ry
 have sub:∀x∈aX.cS t p,x∈aX.cS (.node l t t) p:=fun x hx=>by
  rw [aX.cS]
  by_cases e:ev l p.1 p.2≥0
  ·rw [if_pos e];exact List.mem_append_right _ (List.mem_append_left _ hx)
  ·rw [if_pos (show ev l p.1 p.2<=0 by grind)];exact List.mem_append_right _ (List.mem_append_right _ hx)
 have e1:=h1 _ _ ry sm fun l hl=>cv l (sub l hl)
 have e2:=h2 _ _ ry sm cv
 generalize jf (eU eP m)=S at *
 have key:∀v∈S,aX.lq (.node l t t) p v=aX.lq t p v:=fun v hv=>by
  have n:=cv.gen (aX.rX ry sm v hv)
  have:=(aX.lY n fun l _=>⟨id,id⟩).2
  rw [aX.lq] at this ⊢
  split
  ·rfl
  ·rename_i q
   rw [if_neg q] at this
   split
   ·rfl
   ·rename_i q'
    rw [if_neg q'] at this
    cases this
 have k1:aX.anyS (.node l t t) p S=aX.anyS t p S:=by
  unfold aX.anyS
  rw [Bool.eq_iff_iff,List.any_eq_true,List.any_eq_true]
  constructor
  ·rintro ⟨x,hx,h⟩;exact ⟨x,hx,by rw [←key x hx];exact h⟩
  ·rintro ⟨x,hx,h⟩;exact ⟨x,hx,by rw [key x hx];exact h⟩
 have k2:aX.ki (.node l t t) p S=aX.ki t p S:=by
  unfold aX.ki
  rw [Bool.eq_iff_iff,List.all_eq_true,List.all_eq_true]
  constructor
  ·intro h x hx;rw [←key x hx];exact h x hx
  ·intro h x hx;rw [key x hx];exact h x hx
 rw [e1,e2,k1,k2]
def Dn (V:View)(vs:List Value)(i:Nat)(d:Nd):Prop:=∃(b1:Bool)(p1:OA)(n1 c1:Nat)(b2:Bool)(p2:OA)(n2 c2:Nat)(b3:Bool)(p3:OA)(n3 c3:Nat),
 (∀j v,([.bool b1,.slice p1 n1 c1,.bool b2,.slice p2 n2 c2,.bool b3,.slice p3 n3 c3,.int .i64 d.left,.int .i64 d.right]:List Value)[j]?=some v->vs[i*8+j]?=some v) /\
 GL V (.agg #[.bool b1,.slice p1 n1 c1,.bool b2,.slice p2 n2 c2,.bool b3,.slice p3 n3 c3]) d.ln
theorem Dn.le {V V':View}{vs:List Value}{i:Nat}{d:Nd}(h:Dn V vs i d)(hl:V.Le V'):Dn V' vs i d:=by
 obtain ⟨b1,p1,n1,c1,b2,p2,n2,c2,b3,p3,n3,c3,h1,h2⟩:=h
 exact ⟨b1,p1,n1,c1,b2,p2,n2,c2,b3,p3,n3,c3,h1,h2.le hl⟩
theorem FO {vs xs:List Value}{k i:Nat}(hx:xs.length=8)(h:k*8+8<=vs.length)(hi:i<k*8\/k*8+8<=i):(vs.take (k*8)++xs++vs.drop (k*8+8))[i]?=vs[i]?:=by
 have ht:(vs.take (k*8)).length=k*8:=by rw [List.length_take];omega
 rcases hi with hi|hi
 ·rw [List.append_assoc,List.getElem?_append_left (by omega),List.getElem?_take,if_pos hi]
 ·rw [List.getElem?_append_right (by rw [List.length_append];omega),List.length_append,ht,hx,List.getElem?_drop]
  congr 1
  omega
theorem Vp {a b c d e f g h v:Value}{j:Nat}(hv:([a,b,c,d,e,f,g,h]:List Value)[j]?=some v):j<8:=by
 rcases Nat.lt_or_ge j 8 with hj|hj
 ·exact hj
 ·rw [List.getElem?_eq_none (by simpa using hj)] at hv;cases hv
theorem Dn.out {V:View}{vs xs:List Value}{k i:Nat}{d:Nd}(h:Dn V vs i d)(hx:xs.length=8)(hk:k*8+8<=vs.length)(hi:i≠k):Dn V (vs.take (k*8)++xs++vs.drop (k*8+8)) i d:=by
 obtain ⟨b1,p1,n1,c1,b2,p2,n2,c2,b3,p3,n3,c3,h1,h2⟩:=h
 refine ⟨b1,p1,n1,c1,b2,p2,n2,c2,b3,p3,n3,c3,fun j v hv=>?_,h2⟩
 have:=Vp hv
 rw [FO hx hk (by omega)]
 exact h1 j v hv
def vm (n b m:Nat):Nat:=(n-1-m+(n-b))%n
def CZ (V:View):View:=⟨V.w,fun b=>b<V.w.heap.size,fun _=>False,fun _ h=>h,fun _ h=>h.elim⟩
theorem Bj {f:FuncId}{args:Array Value}{V:View}{o:Obj}(h:ab prog f args (CZ V) fun r V'=>∃bk,r=.pointer (some ⟨bk,0,none⟩)/\V'.bC bk o) :
  ab prog f args V fun r V'=>∃bk,r=.pointer (some ⟨bk,0,none⟩)/\V.w.heap.size<=bk/\V'.bC bk o:=
 ⟨h.1,h.2.mono fun _ _ ⟨_,he,hx,bk,hr,hb⟩=>⟨_,he,⟨hx.size,fun b hb _=>hx.bC b hb (fun h=>h),hx.os,hx.tape,hx.out⟩,bk,hr,Nat.le_of_not_lt hb.1,fun hh=>hb.1 (V.hH bk hh),hb.2⟩⟩
theorem zy {V:View}{lp:OA}{ln lc:Nat}(hc:ln<=lc) :
  ab prog 10 #[.slice lp ln lc] V fun r V'=>∃bk,r=.pointer (some ⟨bk,0,none⟩)/\V.w.heap.size<=bk/\V'.bC bk (.cells #[.slice lp (min ln 400) lc,.int .i64 0] 95 (0,0)):=by
 refine Bj (yU lp ln lc (CZ V) _ ?_)
 have e:bO (ln:Int) 400=((min ln 400:Nat):Int):=by
  unfold bO
  simp only [Nat.min_def]
  split<;>split<;>omega
 rw [e,Int.toNat_natCast]
 have:=Nat.min_le_left ln 400
 exact ⟨⟨by omega,by omega⟩,fun V1 l1 bk hb=>⟨bk,rfl,hb⟩⟩
theorem xZ {t:Tr}(h:t.kd En):t.kd fun x=>mV x=true:=Tr.kd.imp (fun _ h=>h.1) h
theorem FF {t:Tr}(h:t.kd En):t.kd Bd:=Tr.kd.imp (fun _ h=>h.2) h
theorem RQ.cB {V:View}{b:Nat}(hn:rZ V b){v:Value}{q:Rat}(h:RQ (V.bare b) v q):RQ V v q:=by
 obtain ⟨_,_,_,_,_,_,e,h1,h2⟩:=h
 exact ⟨_,_,_,_,_,_,e,RD.cB hn h1,RD.cB hn h2⟩
theorem RP.cB {V:View}{b:Nat}(hn:rZ V b){v:Value}{x y:Rat}(h:RP (V.bare b) v x y):RP V v x y:=by
 obtain ⟨_,_,_,_,_,_,_,_,_,_,_,_,e,h1,h2⟩:=h
 exact ⟨_,_,_,_,_,_,_,_,_,_,_,_,e,RQ.cB hn h1,RQ.cB hn h2⟩
theorem oB {V:View}{tb yb:Nat}{lp:OA}{n c:Nat}{at_:Int}(hr:CK V lp n)(hn:n<=400)(hw:jG V tb lp n c at_)(hx:V.X tb)(h0:0<=at_)(hne:tb≠yb)
  {i:Bool}{b1:Bool}{p1:OA}{n1 c1:Nat}{b2:Bool}{p2:OA}{n2 c2:Nat}{b3:Bool}{p3:OA}{n3 c3:Nat}{pl pr:OA}{ln:L3}{x y:Tr}
  (hy:V.w.heap[yb]?=some (.cells #[.bool false,.bool i,.bool b1,.slice p1 n1 c1,.bool b2,.slice p2 n2 c2,.bool b3,.slice p3 n3 c3,.pointer pl,.pointer pr] 64 (0,0)))
  (hl:RL V (.agg #[.bool b1,.slice p1 n1 c1,.bool b2,.slice p2 n2 c2,.bool b3,.slice p3 n3 c3]) ln.1 ln.2.1 ln.2.2)(hx':RW V pl x)(hy':RW V pr y)(ha:(Tr.node ln x y).kd En)(hs:(Tr.node ln x y).size<=1000) :
  ab prog 12 #[.pointer (some ⟨tb,0,none⟩),.pointer (some ⟨yb,0,none⟩)] V fun r V'=>V'.w.heap[yb]?=some (.cells #[.bool false,.bool i,.bool b1,.slice p1 n1 c1,.bool b2,.slice p2 n2 c2,.bool b3,.slice p3 n3 c3,.pointer pl,.pointer pr] 64 (0,0)) /\
   ∃(p:Rat×Rat)(at':Int),RP V' r p.1 p.2/\Sz 60000 p.1/\Sz 60000 p.2/\0<=at'/\jG V' tb lp n c at':=by
 have hsz:yb<V.w.heap.size:=(Array.getElem?_eq_some_iff.1 hy).1
 have l0:=V.CQ yb
 refine (ab.bare hsz (xF (V:=V.bare yb) (hr.le l0) hn hw ⟨hx,hne⟩ h0 (q:=some ⟨yb,0,none⟩) (t:=.node ln x y) ⟨yb,i,b1,p1,n1,c1,b2,p2,n2,c2,b3,p3,n3,c3,pl,pr,rfl,⟨fun h=>h.2 rfl,hy⟩,hl.le l0,hx'.le l0,hy'.le l0⟩ ha hs)).mono ?_
 rintro r V' l' ⟨h1,p,at',hp,s1,s2,t0,hw'⟩
 rw [hy] at h1
 refine ⟨h1,p,at',RP.cB ⟨_,_,_,h1,?_⟩ hp,s1,s2,t0,hw'⟩
 intro v hv k z e
 subst e
 simp at hv
theorem iL {V:View}{e:Value}(he:uV V 0 e){lp:OA}{ln lc:Nat}(hr:CK V lp ln)(hc:ln<=lc) :
  ab prog 5 #[.slice lp ln lc] V fun r V'=>r=.bool true:=by
 refine iD lp ln lc V _ fun V1 l1=>(zy hc).mono ?_
 rintro r V2 l2 ⟨bk1,rfl,hfr,hb⟩
 refine ⟨bk1,_,_,_,_,rfl,hfr,hb,fun V3 l3 Jb e4 h4=>?_⟩
 have cu:V1.Le V3:=fun b o h=>l3 b o ⟨fun hh=>hh.elim (l2 b o h).1 fun e=>by
  have hlt:b<V1.w.heap.size:=by
   rcases Nat.lt_or_ge b V1.w.heap.size with h'|h'
   ·exact h'
   ·have:=h.2;rw [Array.getElem?_eq_none h'] at this;cases this
  have:=e.1
  omega,(l2 b o h).2⟩
 have hmin:min ln 400<=400:=Nat.min_le_right _ _
 have hr:CK V lp (min ln 400):=fun i hi=>hr i (Nat.lt_of_lt_of_le hi (Nat.min_le_left _ _))
 generalize min ln 400=n at *
 have S2:V.Le V3:=l1.trans cu
 refine (Jc 3 (V:=V3.ar [Jb]) (by omega) (hr.le fun b o h=>S2 b o h) hmin e4 ⟨by simp,h4⟩ (Int.le_refl 0)).mono ?_
 rintro r V4 l4 ⟨qa,t,EB,rfl,Jw,Ho,hsa,t1,hw1⟩
 have C1:V.Le V4:=fun b o h=>l4 b o (S2 b o h)
 refine ⟨_,rfl,_,_,_,_,hw1,fun V5 l5 Ik e5 h5=>(R5 (V:=V5.ar [Ik]) (hr.le fun b o h=>l5 b o (C1 b o h)) hmin e5 ⟨by simp,h5⟩ t1).mono ?_⟩
 rintro r V6 l6 ⟨L,at2,hL,MJ,NQ,t2,hw2⟩
 have hL0:=hL
 obtain ⟨b1,u1,v1,w1,b2,u2,v2,w2,b3,u3,v3,w3,rfl⟩:=y_ hL
 have l46:V4.Le V6:=fun b o h=>l6 b o (l5 b o h)
 have GG:V.Le V6:=C1.trans l46
 have hya:(Tr.node L t t).kd En:=⟨⟨MJ,NQ⟩,Ho,Ho⟩
 have hys:(Tr.node L t t).size<=15:=by simp only [Tr.size];omega
 refine ⟨_,_,_,_,_,_,_,_,_,_,_,_,rfl,_,_,_,_,hw2,fun V7 l7 OK OL e7 h7 e8 h8 ne=>(oB (V:=V7.ar [OK,OL]) (hr.le fun b o h=>l7 b o (GG b o h)) hmin e7 ⟨by simp,h7⟩ t2 ne e8 (RL.le (V:=V6) (V':=V7.ar _) hL0 fun b o h=>l7 b o h) (RW.le (V:=V4) (V':=V7.ar _) (fun b o h=>l7 b o (l46 b o h)) Jw) (RW.le (V:=V4) (V':=V7.ar _) (fun b o h=>l7 b o (l46 b o h)) Jw) hya (by omega)).mono ?_⟩
 rintro r V8 l8 ⟨Uu,p,at3,hp,sp1,sp2,t3,hw3⟩
 have hp0:=hp
 obtain ⟨_,_,_,_,_,_,_,_,_,_,_,_,rfl,-⟩:=hp
 have N7:V6.Le V8:=fun b o h=>l8 b o (l7 b o h)
 have JM:=GG.trans N7
 refine ⟨_,_,_,_,_,_,_,_,_,_,_,_,_,_,rfl,_,_,_,_,hw3,_,_,_,_,_,_,_,_,_,_,_,_,_,_,_,_,Uu,fun V9 l9 OP e9 h9=>(g_ (V:=V9.ar [OP]) 2 (hr.le fun b o h=>l9 b o (JM b o h)) hmin e9 ⟨by simp,h9⟩ t3 (by omega) (by omega)).mono ?_⟩
 rintro r gX l10 ⟨x,at4,rfl,x0,x1,t4,hw4⟩
 have N8:V8.Le gX.shut:=fun b o h=>l10 b o (l9 b o h)
 have S1:=JM.trans N8
 refine ⟨_,rfl,_,_,_,_,hw4,fun z W=>∃v:Rat×Rat,RP W (.agg #[.bool z.1,.slice z.2.1 z.2.2.1 z.2.2.2.1,.slice z.2.2.2.2.1 z.2.2.2.2.2.1 z.2.2.2.2.2.2.1,.bool z.2.2.2.2.2.2.2.1,.slice z.2.2.2.2.2.2.2.2.1 z.2.2.2.2.2.2.2.2.2.1 z.2.2.2.2.2.2.2.2.2.2.1,.slice z.2.2.2.2.2.2.2.2.2.2.2.1 z.2.2.2.2.2.2.2.2.2.2.2.2.1 z.2.2.2.2.2.2.2.2.2.2.2.2.2]) v.1 v.2/\Sz 60000 v.1/\Sz 60000 v.2,⟨fun g iH bR bk e11 h11=>(Li (V:=iH.ar [bk]) (hr.le fun b o h=>bR b o (S1 b o h)) hmin e11 ⟨by simp,h11⟩ t4).mono ?_,fun g=>⟨(_,_,_,_,_,_,_,_,_,_,_,_,_,_),by and_intros<;>rfl,p,hp0.le N8,sp1,sp2⟩⟩,?_⟩
 ·rintro r lf cE ⟨Ti,WH,hq,sq,t5,LS⟩
  have hq0:=hq
  obtain ⟨_,_,_,_,_,_,rfl⟩:=hq.shape
  have JN:gX.shut.Le lf.shut:=fun b o h=>cE b o (bR b o h)
  refine ⟨_,_,_,_,_,_,_,rfl,_,_,_,_,LS,fun lr cu bk e13 Ip=>(Li (V:=lr.ar [bk]) (hr.le fun b o h=>cu b o (JN b o (S1 b o h))) hmin e13 ⟨by simp,Ip⟩ t5).mono ?_⟩
  rintro r pH eM ⟨Tj,WI,hq',sq',t6,JC⟩
  have Jv:=hq'
  obtain ⟨_,_,_,_,_,_,rfl⟩:=hq'.shape
  have L_:lf.shut.Le pH.shut:=fun b o h=>eM b o (cu b o h)
  refine ⟨_,_,_,_,_,_,_,rfl,_,_,_,_,JC,fun oe dA=>(fE (hq0.le (V:=lf) fun b o h=>dA b o (L_ b o h)) (Jv.le (V:=pH) fun b o h=>dA b o h) sq sq' (by omega)).mono ?_⟩
  rintro r mM dF gs
  have gs0:=gs
  obtain ⟨_,_,_,_,_,_,rfl⟩:=gs.shape
  have LZ:gX.shut.Le mM:=JN.trans (L_.trans (dA.trans dF))
  refine ⟨_,_,_,_,_,_,_,rfl,fun oo cO=>(M4 (hL0.le (N7.trans (N8.trans (LZ.trans cO)))) (gs0.le cO) (FE MJ) NQ.Gl ((sq.add sq').mono (by omega)) (by omega)).mono ?_⟩
  rintro r qA eW ga
  have Lo:=ga
  obtain ⟨_,_,_,_,_,_,_,_,_,_,_,_,rfl,-⟩:=ga
  exact ⟨_,_,_,_,_,_,_,_,_,_,_,_,_,_,rfl,(_,_,_,_,_,_,_,_,_,_,_,_,_,_),by and_intros<;>rfl,(Ih L (Ti+Tj),Ii L (Ti+Tj)),Lo,(Gg NQ.Gl ((sq.add sq').mono (by omega))).mono (by omega),(Gh NQ.Gl ((sq.add sq').mono (by omega))).mono (by omega)⟩
 rintro ⟨y1,y2,y3,y4,y5,y6,y7,y8,y9,XO,XP,XQ,y13,XR⟩ sf eF ⟨v,gv,KN,KO⟩
 dsimp only at gv ⊢
 have Mi:=N8.trans eF
 have Hw:=l46.trans (N7.trans Mi)
 have JJ:=C1.trans Hw
 have Tc:qU (wr 0 t) (rt 0 t)=some t:=B1 (xZ Ho) (by omega)
 have Uk:∀x∈wr 0 t,Bd x.ln:=lL (FF Ho)
 have Td:qU (wr 0 (.node L t t)) (rt 0 (.node L t t))=some (.node L t t):=B1 (xZ hya) (by omega)
 have Ul:∀x∈wr 0 (.node L t t),Bd x.ln:=lL (FF hya)
 refine ⟨rfl,fun zb kf=>(mT (RW.le (V:=V4) (V':=zb) (Hw.trans kf) Jw) Ho (by omega)).mono ?_⟩
 rintro r uR fr hA
 have NX:=hA
 obtain ⟨pa,na,ca,rfl,-⟩:=hA
 have ID:=kf.trans fr
 refine ⟨_,_,_,_,rfl,fun xp kU=>(fU (gv.le (ID.trans kU)) KN KO (by omega)).mono ?_⟩
 rintro r uW gm hq
 have hq0:=hq
 obtain ⟨_,_,_,_,_,_,_,_,_,_,_,_,_,_,rfl,-⟩:=hq
 have IE:=ID.trans (kU.trans gm)
 refine ⟨_,_,_,_,_,_,_,_,_,_,_,_,_,_,rfl,fun Dp qO=>(h_ (p:=v) Uk (NX.le (kU.trans (gm.trans qO))) (CI.of (p:=v) (hq0.le qO) KN KO (by omega)) (KN.mono (by omega)) (KO.mono (by omega)) (fun t' ht=>by rw [Tc] at ht;cases ht;omega) (fun _ _ n c=>Ga n c _) (he.le (JJ.trans (IE.trans qO)))).mono ?_⟩
 rintro r Eo iJ ⟨-,q1⟩
 obtain ⟨k1,rfl,hk1⟩:=q1 t Tc
 have C2:=IE.trans (qO.trans iJ)
 refine ⟨_,_,rfl,fun Dq qP OQ e26 Lp=>(ic (V:=Dq.ar [OQ]) (ln:=L) (x:=t) (y:=t) e26 (RL.le (V:=V6) (V':=Dq.ar _) hL0 fun b o h=>qP b o (C2 b o (Mi b o (N7 b o h)))) (RW.le (V:=V4) (V':=Dq.ar _) (fun b o h=>qP b o (C2 b o (Hw b o h))) Jw) (RW.le (V:=V4) (V':=Dq.ar _) (fun b o h=>qP b o (C2 b o (Hw b o h))) Jw) hya (by omega)).mono ?_⟩
 rintro r Gx lK ⟨e27,hat⟩
 have hB0:AT Gx r (rt 0 (.node L t t)) (wr 0 (.node L t t)):=hat
 clear hat
 have hB1:=hB0
 obtain ⟨pb,nb,cb,rfl,-⟩:=hB0
 have IF:sf.Le Gx:=fun b o h=>lK b o (qP b o (C2 b o h))
 refine ⟨_,_,_,_,rfl,_,_,_,_,_,_,_,_,_,_,_,_,_,_,_,_,e27,fun Gy vj=>(fU (gv.le fun b o h=>vj b o (IF b o h)) KN KO (by omega)).mono ?_⟩
 have vj:Gx.Le Gy:=fun b o h=>vj b o h
 rintro r Kw rT hq'
 have Jv:=hq'
 obtain ⟨_,_,_,_,_,_,_,_,_,_,_,_,_,_,rfl,-⟩:=hq'
 have IG:=IF.trans (vj.trans rT)
 refine ⟨_,_,_,_,_,_,_,_,_,_,_,_,_,_,rfl,fun Gz tG=>(h_ (p:=v) Ul (hB1.le (vj.trans (rT.trans tG))) (CI.of (p:=v) (Jv.le tG) KN KO (by omega)) (KN.mono (by omega)) (KO.mono (by omega)) (fun t' ht=>by rw [Td] at ht;cases ht;omega) (fun _ _ n c=>Ga n c _) (he.le (JJ.trans (IG.trans tG)))).mono ?_⟩
 rintro r NN C3 ⟨-,q2⟩
 obtain ⟨k2,rfl,hk2⟩:=q2 _ Td
 have Ma:=IG.trans (tG.trans C3)
 refine ⟨_,_,rfl,fun Rl IH=>(DA (he.le (JJ.trans (Ma.trans IH)))).mono ?_⟩
 rintro r Oo BU rfl
 have key:k1=k2:=indep (Tr.kd.imp (fun _ h=>FD h) (xZ hya)) hk1 hk2
 exact ⟨_,rfl,fun _=>⟨vl.1,fun _=>⟨vl.1,fun _ TL KG=>by rw [key];simp,fun h=>by rw [vl.2] at h;cases h⟩,fun h=>by rw [vl.2] at h;cases h⟩,fun h=>by cases h⟩
end Go.Proofs.Tryz
