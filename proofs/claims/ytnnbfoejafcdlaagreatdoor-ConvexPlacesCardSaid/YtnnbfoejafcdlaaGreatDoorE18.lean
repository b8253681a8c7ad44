import Derived.Test.YtnnbfoejafcdlaaGreatDoorE17
import Derived.Test.YtnnbfoejafcdlaaGreatDoorE9
import Derived.Test.YtnnbfoejafcdlaaGreatDoorE8
set_option linter.unusedVariables false
open Go.IntKind (i64 u64 u32)
namespace Go.Proofs.Tryz
open Go.bM Go.fB
def AR (ls:List L3)(x:Rat×Rat):Int:=if ny ls=true then (if ∀l∈ls,0<=ar l x.1 x.2 then (if ∃l∈ls,ar l x.1 x.2=0 then 1 else 2) else 0) else 0
theorem Bq {ls:List L3}(q:aq.V2):aq.pos ls q↔aq.pos ls.reverse q:=⟨fun h m hm=>h m (List.mem_reverse.1 hm),fun h m hm=>h m (List.mem_reverse.2 hm)⟩
theorem C5 {ls:List L3}(hk:∀m∈ls,cS m=true){c:List Sd}(e:bq ls [] []=some c):ny ls=true:=by
 obtain ⟨q,hq⟩:=((pe hk).1 c e).2.1.pos
 exact (vo hk).2 ⟨q,(Bq q).2 hq⟩
theorem C4 {ls:List L3}(hk:∀m∈ls,cS m=true)(e:bq ls [] []=none):ny ls=false:=by
 cases g:ny ls
 ·rfl
 ·exact absurd ((vo hk).1 g) ((pe hk).2 e).2.2
theorem LI {ls:List L3}(hk:∀m∈ls,cS m=true){c:List Sd}(e:bq ls [] []=some c)(x:Rat×Rat):AR ls x=HM c x:=by
 have hc:=((pe hk).1 c e).2.1
 have hr:∀m∈ls.reverse,cS m=true:=fun m hm=>hk m (List.mem_reverse.1 hm)
 obtain ⟨k1,k2⟩:=CF hc hr x
 have g1:vi c x=true↔∀m∈ls,0<=ar m x.1 x.2:=by
  unfold vi
  rw [List.all_eq_true]
  refine Iff.trans ⟨fun h s hs=>of_decide_eq_true (h s hs),fun h s hs=>decide_eq_true (h s hs)⟩ (k1.trans ⟨fun h m hm=>h m (List.mem_reverse.2 hm),fun h m hm=>h m (List.mem_reverse.1 hm)⟩)
 have g2:Ma c x=true↔∀m∈ls,0<ar m x.1 x.2:=by
  unfold Ma
  rw [List.all_eq_true]
  refine Iff.trans ⟨fun h s hs=>of_decide_eq_true (h s hs),fun h s hs=>decide_eq_true (h s hs)⟩ (k2.trans ⟨fun h m hm=>h m (List.mem_reverse.2 hm),fun h m hm=>h m (List.mem_reverse.1 hm)⟩)
 unfold AR HM
 rw [if_pos (C5 hk e)]
 by_cases c1:vi c x=true
 ·rw [if_pos c1,if_pos (g1.1 c1)]
  by_cases c2:Ma c x=true
  ·rw [if_pos c2,if_neg]
   rintro ⟨l,hl,h0⟩
   have:=g2.1 c2 l hl
   grind
  ·rw [if_neg c2,if_pos]
   refine Classical.byContradiction fun hn=>c2 (g2.2 fun m hm=>?_)
   have h1:=g1.1 c1 m hm
   have h2:ar m x.1 x.2≠0:=fun h=>hn ⟨m,hm,h⟩
   grind
 ·rw [if_neg c1,if_neg (fun h=>c1 (g1.2 h))]
theorem HN {ls:List L3}(hk:∀m∈ls,cS m=true)(e:bq ls [] []=none)(x:Rat×Rat):AR ls x=0:=by
 unfold AR;rw [C4 hk e];rfl
theorem Pa {ls:List L3}(hk:∀m∈ls,cS m=true){l:L3}(hl:cS l=true){c:List Sd}(e:bq ls [] []=some c):PX ls l=Lm c l:=by
 have hc:=((pe hk).1 c e).2.1
 have hr:∀m∈ls.reverse,cS m=true:=fun m hm=>hk m (List.mem_reverse.1 hm)
 obtain ⟨k1,k2⟩:=Ks hc hr hl
 have add:∀{m:L3},cS m=true->(ny (ls++[m])=true↔∃q,aq.pos ls.reverse q/\0<ar m q.1 q.2):=fun {m} hm=>by
  rw [vo (fun x hx=>(List.mem_append.1 hx).elim (hk x) fun h=>by rw [List.mem_singleton.1 h];exact hm)]
  refine ⟨fun ⟨q,hq⟩=>⟨q,(Bq q).1 fun x hx=>hq x (List.mem_append_left _ hx),hq m (List.mem_append_right _ (List.mem_singleton.2 rfl))⟩,fun ⟨q,h1,h2⟩=>⟨q,fun x hx=>?_⟩⟩
  rcases List.mem_append.1 hx with h|h
  ·exact (Bq q).2 h1 x h
  ·rw [List.mem_singleton.1 h];exact h2
 have a1:=add hl
 have a2:=add (Bk hl)
 have a2:ny (ls++[fR l])=true↔∃q,aq.pos ls.reverse q/\ar l q.1 q.2<0:=a2.trans ⟨fun ⟨q,h1,h2⟩=>⟨q,h1,by rw [val_rev] at h2;grind⟩,fun ⟨q,h1,h2⟩=>⟨q,h1,by rw [val_rev];grind⟩⟩
 rw [←a1,←a2] at k1
 rw [←a1] at k2
 unfold PX Lm
 by_cases g:(cw c l bj).isSome=true
 ·rw [if_pos (k1.1 g),if_pos g]
 ·rw [if_neg (fun h=>g (k1.2 h)),if_neg g]
  rcases k2 (Bool.eq_false_iff.2 g) with ⟨h1,h2⟩|⟨h1,h2⟩
  ·rw [if_pos h2,h1]
  ·rw [if_neg h2,h1]
theorem xI {V:View}{cp:OA}{cn cc:Nat}{ls:List L3}(h:cI 6 cd V cp cn ls)(hb:∀l∈ls,Bd l)(hk:∀l∈ls,cS l=true)(hl:ls.length<=1000){pv:Value}{x:Rat×Rat}(hp:RP V pv x.1 x.2)(s1:Sz 1000000000 x.1)(s2:Sz 1000000000 x.2) :
  ab prog 33 #[.slice cp cn cc,pv] V fun r V'=>r=.int .i64 (AR ls x):=by
 have hn:=h.len
 subst hn
 have hp0:=hp
 obtain ⟨_,_,_,_,_,_,_,_,_,_,_,_,rfl,-⟩:=hp
 have hL:∀{W:View},V.Le W->cI 6 cd W cp ls.length ls:=fun g=>h.le g fun _ _ k=>cd.le k g
 refine wX cp ls.length cc _ _ _ _ _ _ _ _ _ _ _ _ _ _ V _ fun V1 l1=>(jH (hL l1) hb hk hl).mono ?_
 rintro r V2 l2 ⟨u,p,rfl,gu⟩
 obtain ⟨_,_,_,_,_,_,_,_,_,_,_,_,rfl,-⟩:=gu
 have JK:=l1.trans l2
 refine ⟨_,_,_,_,_,_,_,_,_,_,_,_,_,_,_,rfl,fun hz V3 l3=>?_,fun hz=>⟨fun z _=>∃i:Nat,z.2=(i:Int)/\i<=ls.length/\(∀l∈ls.take i,0<=ar l x.1 x.2)/\z.1=if ∃l∈ls.take i,ar l x.1 x.2=0 then 1 else 2,fun z=>(ls.length-z.2).toNat,⟨(2,0),by and_intros<;>rfl,0,rfl,Nat.zero_le _,(fun l hl=>by rw [List.take_zero] at hl;cases hl),by rw [List.take_zero];rfl⟩,?_⟩⟩
 ·rw [Bool.not_eq_true'] at hz
  unfold AR
  rw [hz];rfl
 rw [Bool.not_eq_false'] at hz
 rintro ⟨o,z⟩ V4 l4 ⟨i,e,hi,hall,ho⟩
 dsimp only at e ho ⊢
 subst e
 have IL:=JK.trans l4
 refine ⟨by trivial,fun hlt=>?_,fun hlt V8 l8=>?_⟩
 rotate_left
 ·have e:i=ls.length:=by have:=of_decide_eq_false hlt;omega
  subst e
  rw [List.take_length] at hall ho
  unfold AR
  rw [if_pos hz,if_pos hall,ho]
 have hlt:i<ls.length:=by have:=of_decide_eq_true hlt;omega
 have w1:i64.wrap ((i:Int)+1)=((i+1:Nat):Int):=by rw [ay (by omega)];rfl
 rw [w1,Int.toNat_natCast]
 obtain ⟨is,b1,p1,n1,c1,b2,p2,n2,c2,b3,p3,n3,c3,a,had,a0,a1,a2,a3,a4,a5,hl1⟩:=pG (hL IL) hlt
 have bd:=hb _ (List.getElem_mem hlt)
 have hm:=List.getElem_mem hlt
 have sl:=bd.kF
 have et:ls.take (i+1)=ls.take i++[ls[i]]:=(List.take_append_getElem hlt).symm
 generalize ls[i]=L at *
 refine ⟨is,⟨by omega,by omega⟩,b1,p1,n1,c1,b2,p2,n2,c2,b3,p3,n3,c3,a,had,a0,a1,a2,a3,a4,a5,fun V5 l5=>(Bx (hl1.le l5) (hp0.le (IL.trans l5)) (sl.up (K:=1000000000) (by omega)) s1 s2 (by omega)).mono ?_⟩
 rintro r V6 l6 rfl
 have next:∀{o':Int},0<=ar L x.1 x.2->(o'=if ar L x.1 x.2=0 then 1 else o)->∃i':Nat,((i+1:Nat):Int)=(i':Int)/\i'<=ls.length/\(∀l∈ls.take i',0<=ar l x.1 x.2)/\o'=if ∃l∈ls.take i',ar l x.1 x.2=0 then 1 else 2:=fun {o'} g1 g2=>by
  refine ⟨i+1,rfl,hlt,fun l hl=>?_,?_⟩
  ·rw [et] at hl
   rcases List.mem_append.1 hl with h|h
   ·exact hall l h
   ·rw [List.mem_singleton.1 h];exact g1
  ·rw [g2,ho,et]
   by_cases c0:ar L x.1 x.2=0
   ·rw [if_pos c0,if_pos ⟨L,List.mem_append_right _ (List.mem_singleton.2 rfl),c0⟩]
   ·rw [if_neg c0]
    by_cases c1:∃l∈ls.take i,ar l x.1 x.2=0
    ·obtain ⟨l,h1,h2⟩:=c1
     rw [if_pos ⟨l,h1,h2⟩,if_pos ⟨l,List.mem_append_left _ h1,h2⟩]
    ·rw [if_neg c1,if_neg]
     rintro ⟨l,h1,h2⟩
     rcases List.mem_append.1 h1 with h|h
     ·exact c1 ⟨l,h,h2⟩
     ·rw [List.mem_singleton.1 h] at h2;exact c0 h2
 have sg:=lC (ar L x.1 x.2)
 refine ⟨_,rfl,fun hs V7 l7=>?_,fun hs=>⟨fun hs0=>⟨(1,((i+1:Nat):Int)),by dsimp only;omega,by and_intros<;>rfl,next ?_ ?_⟩,fun hs0=>⟨(o,((i+1:Nat):Int)),by dsimp only;omega,by and_intros<;>rfl,next ?_ ?_⟩⟩⟩
 ·have hs:(ar L x.1 x.2).num.sign=-1:=by simpa using hs
  have hneg:¬0<=ar L x.1 x.2:=by
   rcases sg with ⟨g,e⟩|⟨g,e⟩|⟨g,e⟩<;>first|(rw [e] at hs;omega)|grind
  unfold AR
  rw [if_pos hz,if_neg (fun h=>hneg (h L hm))]
 ·have hs0:(ar L x.1 x.2).num.sign=0:=by simpa using hs0
  rcases sg with ⟨g,e⟩|⟨g,e⟩|⟨g,e⟩<;>first|(rw [e] at hs0;omega)|grind
 ·have hs0:(ar L x.1 x.2).num.sign=0:=by simpa using hs0
  rw [if_pos]
  rcases sg with ⟨g,e⟩|⟨g,e⟩|⟨g,e⟩<;>first|(rw [e] at hs0;omega)|grind
 ·have hs:¬(ar L x.1 x.2).num.sign=-1:=by simpa using hs
  rcases sg with ⟨g,e⟩|⟨g,e⟩|⟨g,e⟩<;>first|(rw [e] at hs;omega)|grind
 ·have hs0:¬(ar L x.1 x.2).num.sign=0:=by simpa using hs0
  rw [if_neg]
  intro h0
  rw [h0] at hs0;exact hs0 rfl
theorem DI {V:View}{xs ys sp sp':List Value}{ls:List L3}{m:L3}{n:Nat}(hn:n=ls.length)(h:Row 6 cd V xs ls)(hx:xs.length=n*6)(hy:ys.length=6)(hm:cd V (.agg ys.toArray) m):Row 6 cd V ((([]:List Value).take (0*6)++xs++sp).take ((0+n)*6)++ys++sp') (ls++[m]):=by
 subst hn
 have e:([]:List Value).take (0*6)++xs++sp=xs++sp:=by simp
 rw [e,Nat.zero_add]
 have h1:Row 6 cd V (xs++sp) ls:=by
  have:=iW (V:=V) (vs:=[]) (ls:=[]) (sp:=sp) (Row.nil) h (by decide)
  simpa using this
 exact iW h1 (row_one hy hm) (by decide)
theorem xJ {V:View}{cp:OA}{cn cc:Nat}{ls:List L3}(h:cI 6 cd V cp cn ls)(hb:∀l∈ls,Bd l)(hk:∀l∈ls,cS l=true)(hl:ls.length<=999){lv:Value}{m:L3}(hm:cd V lv m)(bm:Bd m)(om:cS m=true) :
  ab prog 54 #[.slice cp cn cc,lv] V fun r V'=>r=.int .i64 (PX ls m):=by
 have hn:=h.len
 subst hn
 have hm0:=hm
 obtain ⟨_,_,_,_,_,_,_,_,_,_,_,_,rfl⟩:=bJ hm
 obtain ⟨xs,x1,x2,x3⟩:=Aa h (by decide)
 have one:∀{W:View} {xs:List Value},Row 6 cd W xs ls->xs.length=ls.length*6->∀v∈xs,v.oneCell'=true:=fun g1 g2=>KI g1 g2
 have bA:∀l∈ls++[m],Bd l:=fun l h=>(List.mem_append.1 h).elim (hb l) fun h=>by rw [List.mem_singleton.1 h];exact bm
 have kA:∀l∈ls++[m],cS l=true:=fun l h=>(List.mem_append.1 h).elim (hk l) fun h=>by rw [List.mem_singleton.1 h];exact om
 have bB:∀l∈ls++[fR m],Bd l:=fun l h=>(List.mem_append.1 h).elim (hb l) fun h=>by rw [List.mem_singleton.1 h];exact bm.rev
 have kB:∀l∈ls++[fR m],cS l=true:=fun l h=>(List.mem_append.1 h).elim (hk l) fun h=>by rw [List.mem_singleton.1 h];exact Bk om
 have ln:∀x:L3,(ls++[x]).length=(0+ls.length)+1:=fun x=>by rw [List.length_append];simp
 refine wZ cp ls.length cc _ _ _ _ _ _ _ _ _ _ _ _ V _ ⟨xs,x1,x2,by omega,Nat.le_refl _,by simp,x2,one x3 x2,fun Xf J5 sp2 c3 g1 g2=>⟨by omega,g1,by simp;omega,rfl,Ib,fun Xg J9 sp6 c7 g3 g4=>fun V1 l1 Zv e1 h1=>?_⟩⟩
 have r1:=DI (V:=V1) (ys:=[_,_,_,_,_,_]) (sp:=sp2) (sp':=sp6) rfl (x3.le fun _ _ g=>cd.le g l1) x2 rfl (cd.le hm0 l1)
 have a1:=rL (V:=V1) e1 r1 (by rw [ln];exact g3) (by simp) bA kA (by rw [ln];omega)
 rw [ln] at a1
 refine a1.mono ?_
 rintro r V2 l2 ⟨_,_,_,_,_,_,_,_,_,_,_,_,_,_,rfl,w2⟩
 have L2:V.Le V2.shut:=fun b o g=>l2 b o (l1 b o g)
 obtain ⟨ys,y1,y2,y3⟩:=Aa (h.le L2 fun _ _ g=>cd.le g L2) (by decide)
 refine ⟨_,_,_,_,_,_,_,_,_,_,_,_,_,_,_,rfl,_,w2,ys,y1,y2,by omega,Nat.le_refl _,by simp,y2,one y3 y2,fun Zw J23 Wc c21 g5 g6 V3 l3=>(rP (cd.le hm0 (L2.trans l3))).mono ?_⟩
 rintro r V4 l4 gr
 have Oz:cd V4 r (fR m):=gr
 obtain ⟨_,_,_,_,_,_,_,_,_,_,_,_,rfl⟩:=bJ Oz
 refine ⟨_,_,_,_,_,_,_,_,_,_,_,_,rfl,by omega,g5,by simp;omega,rfl,Ib,fun Zy J33 We c31 g7 g8 V5 l5 Zz e5 h5=>?_⟩
 have kh:=l3.trans (l4.trans l5)
 have r2:=DI (V:=V5) (ys:=[_,_,_,_,_,_]) (sp:=Wc) (sp':=We) rfl (y3.le fun _ _ g=>cd.le g kh) y2 rfl (cd.le Oz l5)
 have a2:=rL (V:=V5) e5 r2 (by rw [ln];exact g7) (by simp) bB kB (by rw [ln];omega)
 rw [ln] at a2
 refine a2.mono ?_
 rintro r V6 l6 ⟨_,_,_,_,_,_,_,_,_,_,_,_,_,_,rfl,w6⟩
 refine ⟨_,_,_,_,_,_,_,_,_,_,_,_,_,_,_,rfl,_,w6,fun hA=>⟨fun hB V7 l7=>?_,fun hB=>⟨fun _ V8 l8=>?_,(fun h=>by rw [hA] at h;cases h)⟩⟩,fun hA=>⟨(fun h=>by rw [hA] at h;cases h),fun _ jh bK=>?_⟩⟩
 ·unfold PX;rw [if_pos ⟨hA,hB⟩]
 ·unfold PX;rw [if_neg (fun h=>by rw [hB] at h;cases h.2),if_pos hA]
 ·unfold PX;rw [if_neg (fun h=>by rw [hA] at h;cases h.1),if_neg (fun h=>by rw [hA] at h;cases h)]
set_option maxHeartbeats 1000000 in
theorem l_ {V:View}{lp:OA}{ln lc:Nat}(hr:Hs V lp ln)(hc:ln<=lc){yi ye yu:Value}(E:Er V yi ye yu) :
  ab prog 9 #[.slice lp ln lc] V fun r V'=>r=.bool true:=by
 refine lR lp ln lc V _ fun V1 l1=>(CD hc).mono ?_
 rintro r V2 l2 ⟨tb,rfl,hfr,hb⟩
 have hrm:Hs V lp (min ln 400):=fun i hi=>hr i (by have:=Nat.min_le_left ln 400;omega)
 have JE:min ln 400<=400:=Nat.min_le_right ln 400
 generalize min ln 400=mm at *
 refine ⟨tb,lp,mm,lc,0,rfl,hfr,hb,fun V3 l3 Xf e3 h3=>?_⟩
 have L3:V.Le V3:=l1.trans (JV l2 hfr l3)
 refine (Oj (V:=V3.aV [Xf]) (hrm.le fun b o h=>L3 b o h) JE e3 ⟨by simp,h3⟩ (Int.le_refl 0)).mono ?_
 rintro r V4 l4 ⟨IG,ls,q,n1,c1,t1,hw1,rfl,hL,hlen,hls⟩
 have hok:∀l∈ls,cS l=true:=fun l hl=>(hls l hl).1
 have hbd:∀l∈ls,Bd l:=fun l hl=>(hls l hl).2
 refine ⟨_,_,_,rfl,_,_,_,_,hw1,fun V5 l5 Xg e8 h8=>?_⟩
 have NB:V4.Le V5:=fun b o h=>l5 b o h
 have L5:V.Le V5:=fun b o h=>NB b o (l4 b o (L3 b o h))
 refine (Xk (V:=V5.aV [Xg]) (hrm.le fun b o h=>L5 b o h) JE e8 ⟨by simp,h8⟩ t1).mono ?_
 rintro r V6 l6 ⟨l,at2,hl,ok,bd,t2,hw2⟩
 have hl0:cd V6 r l:=hl
 obtain ⟨_,_,_,_,_,_,_,_,_,_,_,_,rfl⟩:=bJ hl0
 refine ⟨_,_,_,_,_,_,_,_,_,_,_,_,rfl,_,_,_,_,hw2,fun V7 l7 TM e17 ZR=>?_⟩
 have S0:V6.Le V7:=fun b o h=>l7 b o h
 have Vi:V5.Le V7:=fun b o h=>S0 b o (l6 b o h)
 have L7:V.Le V7:=L5.trans Vi
 refine (LC (V:=V7.aV [TM]) (hrm.le fun b o h=>L7 b o h) JE e17 ⟨by simp,ZR⟩ t2).mono ?_
 rintro r V8 l8 ⟨x,y,at3,hp,sx,sy,t3,hw3⟩
 have hp0:=hp
 obtain ⟨_,_,_,_,_,_,_,_,_,_,_,_,rfl,-⟩:=hp
 have l78:V7.Le V8:=fun b o h=>l8 b o h
 refine ⟨_,_,_,_,_,_,_,_,_,_,_,_,_,_,rfl,_,_,_,_,hw3,fun V9 l9=>?_⟩
 have Yk:V8.Le V9:=fun b o h=>l9 b o h
 have S1:=l78.trans Yk
 have L9:=L7.trans S1
 have XU:cI 6 cd V9 q n1 ls:=hL.le (NB.trans (Vi.trans S1)) fun _ _ g=>cd.le g (NB.trans (Vi.trans S1))
 have X5:cd V9 _ l:=cd.le hl0 (S0.trans S1)
 have X6:=hp0.le Yk
 refine (nK XU (by omega) hbd).mono ?_
 rintro r jk l10 ⟨q2,n2,c2,rfl,hW⟩
 have wq:∀{W:View},jk.Le W->cI 6 oO W q2 n2 ls:=fun l=>cI.q (hW.le l fun _ _ g=>cd.le g l)
 obtain ⟨d1,d2,d3⟩:=bd.ag
 refine ⟨_,_,_,rfl,fun jh bK=>(rQ (a:=l.1) (b:=l.2.1) (c:=l.2.2) (cd.le X5 (l10.trans bK)) (by omega) (by omega) (by omega)).mono ?_⟩
 rintro r lS cg gm
 have SQ:cd lS r l:=gm
 obtain ⟨_,_,_,_,_,_,_,_,_,_,_,_,rfl⟩:=bJ SQ
 have oC:xT ls=true:=O7 (by omega) hok
 have Ba:=bK.trans cg
 have Ho:=L9.trans (l10.trans Ba)
 refine ⟨_,_,_,_,_,_,_,_,_,_,_,_,rfl,fun oR cK=>(uB (wq (Ba.trans cK)) hbd (SQ.le cK) bd ok (E.le (Ho.trans cK))).mono ?_⟩
 rintro r mP dN hP
 have JM:=cK.trans dN
 have ND:=l10.trans (Ba.trans JM)
 have key:∃k y0,r=.tuple #[.int .i64 k,y0]/\((bq ls [] []=none/\k=0/\y0=ye)\/∃cs,bq ls [] []=some cs/\k=Lm cs l/\y0=.nilIface):=by
  cases hcan:bq ls [] [] with
  | none=>exact ⟨_,_,hP.S3 oC hcan,.inl ⟨rfl,rfl,rfl⟩⟩
  | some cs=>exact ⟨_,_,hP.some oC hcan,.inr ⟨cs,rfl,rfl,rfl⟩⟩
 obtain ⟨k,y0,rfl,hk⟩:=key
 refine ⟨_,_,rfl,fun lE dF=>(rR (X6.le (ND.trans dF)) sx sy (by omega)).mono ?_⟩
 rintro r lT dw ga
 have Qy:=ga
 obtain ⟨_,_,_,_,_,_,_,_,_,_,_,_,_,_,rfl,-⟩:=ga
 have JP:=dF.trans dw
 have NF:=ND.trans JP
 have YS:=L9.trans NF
 refine ⟨_,_,_,_,_,_,_,_,_,_,_,_,_,_,rfl,fun nk dj=>(uA (x:=(x,y)) (wq (Ba.trans (JM.trans (JP.trans dj)))) hbd (IE.of (p:=(x,y)) (Qy.le dj) sx sy (by omega)) (sx.mono (by omega)) (sy.mono (by omega)) (E.le (YS.trans dj))).mono ?_⟩
 rintro r qn dB hC
 have GU:=NF.trans (dj.trans dB)
 have Tp:=L9.trans GU
 have hR:r=.tuple #[.int .i64 (AR ls (x,y)),.nilIface]:=by
  cases hcan:bq ls [] [] with
  | none=>rw [HN hok hcan];exact hC.S3 oC hcan
  | some cs=>rw [LI hok hcan];exact hC.some oC hcan
 subst hR
 have hL':∀{W:View},V9.Le W->cI 6 cd W q n1 ls:=fun l=>XU.le l fun _ _ g=>cd.le g l
 refine ⟨_,_,rfl,ij.1,(fun hf=>by cases hf),fun _ yW fF=>(xI (x:=(x,y)) (hL' (GU.trans fF)) hbd hok (by omega) (X6.le (GU.trans fF)) (sx.mono (by omega)) (sy.mono (by omega))).mono ?_⟩
 rintro r ug fr rfl
 have NG:=GU.trans (fF.trans fr)
 refine ⟨_,rfl,(fun hf=>by simp at hf),fun _ xl fX=>(jH (hL' (NG.trans fX)) hbd hok (by omega)).mono ?_⟩
 rintro r IF mX ⟨u,pp,rfl,gu⟩
 obtain ⟨_,_,_,_,_,_,_,_,_,_,_,_,rfl,-⟩:=gu
 have JS:=NG.trans (fX.trans mX)
 have Tq:=L9.trans JS
 refine ⟨_,_,_,_,_,_,_,_,_,_,_,_,_,_,_,rfl,fun hz Ht kh=>(nH (E.le (Tq.trans kh))).mono ?_,fun hz SJ Fs=>(nH (E.le (Tq.trans Fs))).mono ?_⟩
 ·rintro r IV lQ rfl
  rw [Bool.not_eq_true'] at hz
  refine ⟨_,rfl,fun _=>⟨ye,⟨_,rfl,(E.le (Tq.trans (kh.trans lQ))).emp⟩,fun Nc lf=>?_⟩,fun hf=>by cases hf⟩
  rcases hk with ⟨hcan,rfl,rfl⟩|⟨cs,hcan,-,-⟩
  ·refine (qB E.se).mono ?_
   rintro r Nf vx rfl
   exact ⟨_,rfl,fun _ PH zZ=>rfl,fun hf=>by cases hf⟩
  ·rw [C5 hok hcan] at hz;cases hz
 ·rintro r P4 xR rfl
  rw [Bool.not_eq_false'] at hz
  rcases hk with ⟨hcan,rfl,rfl⟩|⟨cs,hcan,rfl,rfl⟩
  ·rw [C4 hok hcan] at hz;cases hz
  ·refine ⟨_,rfl,fun _=>⟨ij.1,fun _ Tx IM=>(xJ (hL' (JS.trans (Fs.trans (xR.trans IM)))) hbd hok (by omega) (cd.le X5 (JS.trans (Fs.trans (xR.trans IM)))) bd ok).mono ?_,fun hf=>by cases hf⟩,fun hf=>by cases hf⟩
   rintro r WN Ft rfl
   refine ⟨_,rfl,fun YV Ny=>?_⟩
   rw [Pa hok ok hcan]
   simp
end Go.Proofs.Tryz
