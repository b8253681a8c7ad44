import Derived.Test.YtdhlkpfmlimjfaaGreatDoorA13
import Derived.Test.YtdhlkpfmlimjfaaGreatDoorA8
import Derived.Test.YtdhlkpfmlimjfaaGreatDoorA10
import Derived.Test.YtdhlkpfmlimjfaaGreatDoorA6
set_option linter.unusedVariables false
open Go.IntKind (i64 u64 u32)
namespace Go.Proofs.Tryz
open Go.Eng Go.Big
theorem ny {V:View}{v:Value}{a b c:Int}(h:RL V v a b c):∃(b1:Bool)(p1:OA)(n1 c1:Nat)(b2:Bool)(p2:OA)(n2 c2:Nat)(b3:Bool)(p3:OA)(n3 c3:Nat),v=.agg #[.bool b1,.slice p1 n1 c1,.bool b2,.slice p2 n2 c2,.bool b3,.slice p3 n3 c3]:=by
 obtain ⟨p,n,s,p',n',s',q,m,e,rfl,-⟩:=h
 exact ⟨_,_,_,_,_,_,_,_,_,_,_,_,rfl⟩
def Fk (V:View)(p:OA)(n:Nat):Prop:=∀i,i<n->∃(a:Addr)(x:Int),addrAdd p (i*1)=some a/\V.at a (.int .i64 x)
theorem Fk.le {V V':View}{p:OA}{n:Nat}(h:Fk V p n)(l:V.Le V'):Fk V' p n:=fun i hi=>by
 obtain ⟨a,x,e,hx⟩:=h i hi;exact ⟨a,x,e,l.at hx⟩
def sY (V:View)(tb:Nat)(p:OA)(n c:Nat)(at_:Int):Prop:=V.w.heap[tb]?=some (.cells #[.slice p n c,.int .i64 at_] 102 (0,0))
theorem qv {V:View}{tb:Nat}{p:OA}{n c:Nat}{at_:Int}(k:Int)(hr:Fk V p n)(hn:n<=400)(hw:sY V tb p n c at_)(hx:V.X tb)(h0:0<=at_)(hk:0<k)(hk2:k<=1000) :
  Acts prog 37 #[.pointer (some ⟨tb,0,none⟩),.int .i64 k] V fun r V'=>∃x at',r=.int .i64 x/\0<=x/\x<k/\0<=at'/\sY V' tb p n c at':=by
 refine mb tb p n c at_ k V _ hw hx ⟨fun g V1 l1 e=>⟨0,at_,rfl,by omega,hk,h0,e⟩,fun g=>?_⟩
 have g:at_<n:=by have:=of_decide_eq_false g;omega
 obtain ⟨i,rfl⟩:∃i:Nat,at_=i:=⟨at_.toNat,by omega⟩
 obtain ⟨a,x,e1,e2⟩:=hr i (by omega)
 have hs:p.isSome=true:=by
  cases p with
  | none=>simp [addrAdd] at e1
  | some a=>rfl
 have m1:(x.tmod k).natAbs<k.natAbs:=by rw [Int.natAbs_tmod];exact Nat.mod_lt _ (by omega)
 have w1:i64.wrap ((i:Int)+1)=((i+1:Nat):Int):=by rw [i64w (by omega)];omega
 rw [Int.toNat_natCast,w1]
 have w2:i64.wrap (x.tmod k+k)=x.tmod k+k:=i64w (by omega)
 refine ⟨hs,⟨by omega,by omega⟩,x,⟨a,e1,e2⟩,by omega,fun g2 V2 l2 e=>⟨x.tmod k+k,_,by rw [w2],?_,?_,?_,e⟩,fun g2 V3 l3 e=>⟨_,_,rfl,?_,?_,?_,e⟩⟩
 ·omega
 ·have:=of_decide_eq_true g2;omega
 ·omega
 ·have:=of_decide_eq_false g2;omega
 ·omega
 ·omega
theorem Oz {V:View}{tb:Nat}{p:OA}{n c:Nat}{at_:Int}(hr:Fk V p n)(hn:n<=400)(hw:sY V tb p n c at_)(hx:V.X tb)(h0:0<=at_) :
  Acts prog 90 #[.pointer (some ⟨tb,0,none⟩)] V fun r V'=>∃(x y at':Int),RP V' r (x:Rat) (y:Rat)/\(-4<=x/\x<=4)/\(-4<=y/\y<=4)/\0<=at'/\sY V' tb p n c at':=by
 refine pP tb p n c at_ V _ hw hx fun V1 l1 bk1 e1 h1=>(qv (V:=V1.lend [bk1]) 9 (hr.le fun b o h=>l1 b o h) hn e1 ⟨by simp,h1⟩ h0 (by omega) (by omega)).mono ?_
 rintro r V2 l2 ⟨x,GN,rfl,x0,x1,t1,hw1⟩
 refine ⟨_,rfl,_,_,_,_,hw1,fun V3 l3 Qo e3 h3=>(qv (V:=V3.lend [Qo]) 9 (hr.le fun b o h=>l3 b o (l2 b o (l1 b o h))) hn e3 ⟨by simp,h3⟩ t1 (by omega) (by omega)).mono ?_⟩
 rintro r V4 l4 ⟨y,at2,rfl,y0,y1,t2,hw2⟩
 refine ⟨_,rfl,_,_,_,_,hw2,fun V5 l5=>?_⟩
 rw [i64w (x:=x-4) (by omega),i64w (x:=y-4) (by omega)]
 refine (qC (x-4) (y-4) (by omega) (by omega) (by omega) (by omega)).mono ?_
 rintro r V6 l6 hp
 have hp0:=hp
 obtain ⟨p1,n1,c1,p2,n2,c2,p3,n3,c3,p4,n4,c4,rfl,-⟩:=hp
 exact ⟨_,_,_,_,_,_,_,_,_,_,_,_,_,_,rfl,fun V7 l7 e7=>⟨x-4,y-4,at2,hp0.le l7,⟨by omega,by omega⟩,⟨by omega,by omega⟩,t2,e7⟩⟩
theorem RQ.zero {V:View}:RQ V (.agg #[.bool false,.slice none 0 0,.slice none 0 0]) ((0:Int):Rat):=⟨none,0,0,none,0,0,rfl,RD.nil,RD.nil⟩
theorem RP.zero {V:View}:RP V (.agg #[.bool false,.slice none 0 0,.slice none 0 0,.bool false,.slice none 0 0,.slice none 0 0]) ((0:Int):Rat) ((0:Int):Rat):=
 ⟨none,0,0,none,0,0,none,0,0,none,0,0,rfl,RQ.zero,RQ.zero⟩
theorem C3 {z:Int}(h:-40<=z/\z<=40):Sz 10 (z:Rat):=wK (by omega) (by omega)
theorem Qt {V:View}{tb:Nat}{p:OA}{n c:Nat}{at_:Int}(hr:Fk V p n)(hn:n<=400)(hw:sY V tb p n c at_)(hx:V.X tb)(h0:0<=at_) :
  Acts prog 92 #[.pointer (some ⟨tb,0,none⟩)] V fun r V'=>∃(x y at':Int),RP V' r (x:Rat) (y:Rat)/\(-4<=x/\x<=4)/\(-4<=y/\y<=4)/\¬(x=0/\y=0)/\0<=at'/\sY V' tb p n c at':=by
 refine pQ tb p n c at_ V _ hw hx fun V1 l1 bk1 e1 h1=>(Oz (V:=V1.lend [bk1]) (hr.le fun b o h=>l1 b o h) hn e1 ⟨by simp,h1⟩ h0).mono ?_
 rintro r V2 l2 ⟨x,y,GN,hp,hx1,hy1,t1,hw1⟩
 have hp0:=hp
 obtain ⟨p1,n1,c1,p2,n2,c2,p3,n3,c3,p4,n4,c4,rfl,-⟩:=hp
 refine ⟨_,_,_,_,_,_,_,_,_,_,_,_,_,_,rfl,_,_,_,_,hw1,fun V3 l3=>(vM (hp0.le fun b o h=>l3 b o h) RP.zero (C3 (by omega)) (C3 (by omega)) (C3 (by omega)) (C3 (by omega)) (by omega)).mono ?_⟩
 rintro r V4 l4 rfl
 refine ⟨_,rfl,fun g V5 l5=>(qC 1 0 (by omega) (by omega) (by omega) (by omega)).mono ?_,fun g V8 l8 e8=>⟨x,y,GN,hp0.le fun b o h=>l8 b o (l4 b o (l3 b o h)),hx1,hy1,?_,t1,e8⟩⟩
 ·rintro r V6 l6 hq
  have hq0:=hq
  obtain ⟨p1,n1,c1,p2,n2,c2,p3,n3,c3,p4,n4,c4,rfl,-⟩:=hq
  exact ⟨_,_,_,_,_,_,_,_,_,_,_,_,_,_,rfl,fun V7 l7 e7=>⟨1,0,GN,hq0.le l7,⟨by omega,by omega⟩,⟨by omega,by omega⟩,by omega,t1,e7⟩⟩
 ·rintro ⟨rfl,rfl⟩
  simp at g
theorem Qs {V:View}{tb:Nat}{p:OA}{n c:Nat}{at_:Int}(hr:Fk V p n)(hn:n<=400)(hw:sY V tb p n c at_)(hx:V.X tb)(h0:0<=at_) :
  Acts prog 39 #[.pointer (some ⟨tb,0,none⟩)] V fun r V'=>∃(x:L3)(at':Int),RL V' r x.1 x.2.1 x.2.2/\okL x=true/\Bd x/\0<=at'/\sY V' tb p n c at':=by
 refine pO tb p n c at_ V _ hw hx fun V1 l1 bk1 e1 h1=>(Oz (V:=V1.lend [bk1]) (hr.le fun b o h=>l1 b o h) hn e1 ⟨by simp,h1⟩ h0).mono ?_
 rintro r V2 l2 ⟨x,y,GN,hp,hx1,hy1,t1,hw1⟩
 have hp0:=hp
 obtain ⟨p1,n1,c1,p2,n2,c2,p3,n3,c3,p4,n4,c4,rfl,-⟩:=hp
 refine ⟨_,_,_,_,_,_,_,_,_,_,_,_,_,_,rfl,_,_,_,_,hw1,fun V3 l3=>(mj 1 (by omega) (by omega)).mono ?_⟩
 rintro r V4 l4 hq
 have hq0:=hq
 obtain ⟨p5,n5,c5,p6,n6,c6,rfl⟩:=hq.shape
 refine ⟨_,_,_,_,_,_,_,rfl,fun V5 l5 LS e5 h5=>(Qt (V:=V5.lend [LS]) (hr.le fun b o h=>l5 b o (l4 b o (l3 b o (l2 b o (l1 b o h))))) hn e5 ⟨by simp,h5⟩ t1).mono ?_⟩
 rintro r V6 l6 ⟨u,w,at2,hv,hu1,MG,hne,t2,hw2⟩
 have hv0:=hv
 obtain ⟨q1,m1,d1,q2,m2,d2,q3,m3,d3,q4,m4,d4,rfl,-⟩:=hv
 refine ⟨_,_,_,_,_,_,_,_,_,_,_,_,_,_,rfl,_,_,_,_,hw2,fun V7 l7=>?_⟩
 have l27:V2.Le V7:=fun b o h=>l7 b o (l6 b o (l5 b o (l4 b o (l3 b o h))))
 have Ro:V4.Le V7:=fun b o h=>l7 b o (l6 b o (l5 b o h))
 have l67:V6.Le V7:=fun b o h=>l7 b o h
 refine (oH (hp0.le l27) (hq0.le Ro) (hv0.le l67) (k:=10) (m:=10) (C3 (by omega)) (C3 (by omega)) (C3 (by omega)) (C3 (by omega)) (C3 (by omega)) (by omega)).mono ?_
 rintro r V8 l8 hs
 have hs0:=hs
 obtain ⟨s1,i1,j1,s2,i2,j2,s3,i3,j3,s4,i4,j4,rfl,-⟩:=hs
 have f1:(x:Rat)+((1:Int):Rat)*(u:Rat)=((x+u:Int):Rat):=by rw [←Rat.intCast_mul,←Rat.intCast_add,Int.one_mul]
 have f2:(y:Rat)+((1:Int):Rat)*(w:Rat)=((y+w:Int):Rat):=by rw [←Rat.intCast_mul,←Rat.intCast_add,Int.one_mul]
 refine ⟨_,_,_,_,_,_,_,_,_,_,_,_,_,_,rfl,fun V9 l9=>(pk (hp0.le (l27.trans (l8.trans l9))) (hs0.le l9) (k:=10) (C3 (by omega)) (C3 (by omega)) (by rw [f1];exact C3 (by omega)) (by rw [f2];exact C3 (by omega)) (by omega) (by omega)).mono ?_⟩
 rintro r V10 l10 ⟨-,h⟩
 rw [Gx] at h
 have n1:((-w:Int):Rat).num=-w:=rfl
 have n2:((u:Int):Rat).num=u:=rfl
 have n3:((w*x-u*y:Int):Rat).num=w*x-u*y:=rfl
 dsimp only at h
 rw [n1,n2,n3] at h
 obtain ⟨l,rfl,hl⟩:=h (by omega)
 have m1:=En MG hx1
 have m2:=En hu1 hy1
 obtain ⟨k1,k2⟩:=F7 (a:=-w) (b:=u) (c:=w*x-u*y) (by omega) (by omega) (by omega) (by omega)
 have hl0:=hl
 obtain ⟨b1,u1,v1,w1,b2,u2,v2,w2,b3,u3,v3,w3,rfl⟩:=(ny hl)
 exact ⟨_,_,_,_,_,_,_,_,_,_,_,_,_,rfl,fun V11 l11 e11=>⟨AB (-w) u (w*x-u*y),at2,hl0.le l11,k1,k2,t2,e11⟩⟩
def RW (V:View):OA->Tr->Prop
 | p,.leaf i=>∃(b:Nat)(c2 c3 c4 c5 c6 c7 c8 c9:Value),p=some ⟨b,0,none⟩/\V.a_ b (.cells #[.bool true,.bool i,c2,c3,c4,c5,c6,c7,c8,c9] 107 (0,0))
 | p,.node l x y=>∃(b:Nat)(i:Bool)(b1:Bool)(p1:OA)(n1 c1:Nat)(b2:Bool)(p2:OA)(n2 c2:Nat)(b3:Bool)(p3:OA)(n3 c3:Nat)(pl pr:OA),p=some ⟨b,0,none⟩ /\
   V.a_ b (.cells #[.bool false,.bool i,.bool b1,.slice p1 n1 c1,.bool b2,.slice p2 n2 c2,.bool b3,.slice p3 n3 c3,.pointer pl,.pointer pr] 107 (0,0)) /\
   RL V (.agg #[.bool b1,.slice p1 n1 c1,.bool b2,.slice p2 n2 c2,.bool b3,.slice p3 n3 c3]) l.1 l.2.1 l.2.2/\RW V pl x/\RW V pr y
theorem RW.le {V V':View}(h:V.Le V'):∀{t:Tr} {p:OA},RW V p t->RW V' p t
 | .leaf i,p,⟨b,c2,c3,c4,c5,c6,c7,c8,c9,e,hb⟩=>⟨b,c2,c3,c4,c5,c6,c7,c8,c9,e,h _ _ hb⟩
 | .node l x y,p,⟨b,i,b1,p1,n1,c1,b2,p2,n2,c2,b3,p3,n3,c3,pl,pr,e,hb,hl,hx,hy⟩=>⟨b,i,b1,p1,n1,c1,b2,p2,n2,c2,b3,p3,n3,c3,pl,pr,e,h _ _ hb,hl.le h,RW.le h hx,RW.le h hy⟩
theorem ml {V:View}(i:Bool):Acts prog 38 #[.bool i] V fun r V'=>∃p,r=.pointer p/\RW V' p (.leaf i):=
 tW i V _ fun V1 l1 b hb=>⟨_,rfl,b,_,_,_,_,_,_,_,_,rfl,hb⟩
def Okb (x:L3):Prop:=okL x=true/\Bd x
theorem Hx:∀(k:Nat) {V:View} {tb:Nat} {p:OA} {n c:Nat} {at_:Int},k<=10->Fk V p n->n<=400->sY V tb p n c at_->V.X tb->0<=at_ ->
  Acts prog 10 #[.pointer (some ⟨tb,0,none⟩),.int .i64 (k:Int)] V fun r V'=>∃q t at',r=.pointer q/\RW V' q t/\t.All Okb/\t.size<2^k/\0<=at'/\sY V' tb p n c at':=by
 intro k
 induction k with
 | zero=>
  intro V tb p n c at_ _ hr hn hw hx h0
  refine gN tb p n c at_ _ V _ hw hx ⟨fun g V1 l1 bk1 e1 h1=>(qv (V:=V1.lend [bk1]) 2 (hr.le fun b o h=>l1 b o h) hn e1 ⟨by simp,h1⟩ h0 (by omega) (by omega)).mono ?_,fun g=>by simp at g⟩
  rintro r V2 l2 ⟨x,GN,rfl,-,-,t1,hw1⟩
  refine ⟨_,rfl,_,_,_,_,hw1,fun V3 l3=>(ml _).mono ?_⟩
  rintro r V4 l4 ⟨q,rfl,hq⟩
  exact ⟨_,rfl,fun V5 l5 e5=>⟨_,_,GN,rfl,hq.le l5,trivial,by simp [Tr.size],t1,e5⟩⟩
 | succ k ih=>
  intro V tb p n c at_ hk hr hn hw hx h0
  refine gN tb p n c at_ _ V _ hw hx ⟨fun g=>by rw [beq_iff_eq] at g;omega,fun _ V6 l6 Qp e6 h6=>(qv (V:=V6.lend [Qp]) 4 (hr.le fun b o h=>l6 b o h) hn e6 ⟨by simp,h6⟩ h0 (by omega) (by omega)).mono ?_⟩
  rintro r V7 l7 ⟨x,GN,rfl,-,-,t1,hw1⟩
  have F2:V.Le V7:=fun b o h=>l7 b o (l6 b o h)
  refine ⟨_,rfl,_,_,_,_,hw1,fun g V8 l8 LR e8 h8=>(qv (V:=V8.lend [LR]) 2 (hr.le fun b o h=>l8 b o (F2 b o h)) hn e8 ⟨by simp,h8⟩ t1 (by omega) (by omega)).mono ?_,fun g V13 l13 LU e13 GV=>(Qs (V:=V13.lend [LU]) (hr.le fun b o h=>l13 b o (F2 b o h)) hn e13 ⟨by simp,GV⟩ t1).mono ?_⟩
  ·rintro r V9 l9 ⟨x,at2,rfl,-,-,t2,hw2⟩
   refine ⟨_,rfl,_,_,_,_,hw2,fun V10 l10=>(ml _).mono ?_⟩
   rintro r V11 l11 ⟨q,rfl,hq⟩
   exact ⟨_,rfl,fun V12 l12 e12=>⟨_,_,at2,rfl,hq.le l12,trivial,by simpa [Tr.size] using Nat.two_pow_pos _,t2,e12⟩⟩
  ·rintro r V14 eY ⟨ln,at2,hl,hok,hbd,t2,hw2⟩
   have hl0:=hl
   obtain ⟨b1,u1,v1,w1,b2,u2,v2,w2,b3,u3,v3,w3,rfl⟩:=(ny hl)
   have Ed:V.Le V14:=fun b o h=>eY b o (l13 b o (F2 b o h))
   have wk:i64.wrap (((k+1:Nat):Int)-1)=(k:Int):=by rw [i64w (by omega)];omega
   refine ⟨_,_,_,_,_,_,_,_,_,_,_,_,rfl,_,_,_,_,hw2,fun V15 eZ LV e15 GW=>?_⟩
   rw [wk]
   refine ((ih (V:=V15.lend [LV]) (by omega) (hr.le fun b o h=>eZ b o (Ed b o h)) hn e15 ⟨by simp,GW⟩ t2).mono ?_)
   rintro r me eU ⟨qa,ta,at3,rfl,Mx,HW,hsa,t3,hw3⟩
   have H5:V.Le me:=fun b o h=>eU b o (eZ b o (Ed b o h))
   refine ⟨_,rfl,_,_,_,_,hw3,fun pS dX LW e17 QH=>(ih (V:=pS.lend [LW]) (by omega) (hr.le fun b o h=>dX b o (H5 b o h)) hn e17 ⟨by simp,QH⟩ t3).mono ?_⟩
   rintro r sQ fB ⟨qb,RZ,at4,rfl,Q9,htb,hsb,t4,hw4⟩
   refine ⟨_,rfl,_,_,_,_,hw4,fun ua fH bk32 e19 hb=>⟨_,.node ln ta RZ,at4,rfl,⟨bk32,_,_,_,_,_,_,_,_,_,_,_,_,_,_,_,rfl,hb,?_,?_,?_⟩,⟨⟨hok,hbd⟩,HW,htb⟩,?_,t4,e19⟩⟩
   ·exact hl0.le fun b o h=>fH b o (fB b o (dX b o (eU b o (eZ b o h))))
   ·exact RW.le (V:=me) (V':=ua) (fun b o h=>fH b o (fB b o (dX b o h))) Mx
   ·exact RW.le (V:=sQ) (V':=ua) (fun b o h=>fH b o h) Q9
   ·simp only [Tr.size];rw [Nat.pow_succ];omega
def Tr.depth:Tr->Nat
 | .leaf _=>0
 | .node _ a b=>1+max a.depth b.depth
theorem j7:∀t:Tr,t.depth<=t.size
 | .leaf _=>Nat.le_refl _
 | .node _ a b=>by have:=j7 a;have:=j7 b;simp only [Tr.depth,Tr.size];omega
theorem Ek {a b:Nat}(ha:a<=1000000)(hb:b<=1000000):i64.wrap ((1:Int)+maxI (a:Int) (b:Int))=((1+max a b:Nat):Int):=by
 have:maxI (a:Int) (b:Int)=((max a b:Nat):Int):=by unfold maxI;split<;>omega
 rw [this,i64w (by omega)]
 omega
theorem c_bsp_Depth:∀(t:Tr) {V:View} {p:OA},RT V p t->t.size<=1000000->Acts prog 94 #[.pointer p] V fun r V'=>r=.int .i64 (t.depth:Int)
 | .leaf i,V,p,h,hs=>by
  refine kq p V _ fun V1 l1=>(c_bsp_IsLeaf (h.le l1)).mono ?_
  rintro r V2 l2 rfl
  exact ⟨_,rfl,fun _ V3 l3=>rfl,(fun h=>nomatch h)⟩
 | .node ln a b,V,p,h,hs=>by
  have h0:=h
  refine kq p V _ fun V1 l1=>(c_bsp_IsLeaf (h0.le l1)).mono ?_
  rintro r V2 l2 rfl
  obtain ⟨bb,x1,x2,x3,y1,y2,y3,z1,z2,z3,pl,pr,i,rfl,hb,hl,ha,hbb⟩:=h.le (l1.trans l2)
  have s1:=j7 a
  have s2:=j7 b
  simp only [Tr.size] at hs
  refine ⟨_,rfl,(fun h=>nomatch h),fun _=>⟨rfl,rfl,pl,rdc hb 9 rfl,rfl,rfl,pr,rdc hb 10 rfl,fun V4 l4=>(c_bsp_Depth a (ha.le l4) (by omega)).mono ?_⟩⟩
  rintro r V5 l5 rfl
  refine ⟨_,rfl,fun V6 l6=>(c_bsp_Depth b (hbb.le (l4.trans (l5.trans l6))) (by omega)).mono ?_⟩
  rintro r V7 l7 rfl
  exact ⟨_,rfl,fun V8 l8=>by rw [Ek (by omega) (by omega)];rfl⟩
def MU:Tr->Int
 | .leaf i=>if i then 0 else 1
 | .node ..=>0
end Go.Proofs.Tryz
namespace Go.Eng
theorem Dq (a:Addr)(m n:Nat):(a.add m).add n=a.add (m+n):=by
 unfold Addr.add
 by_cases h1:m=0
 ·subst h1;simp
 ·by_cases h2:n=0
  ·subst h2;simp [h1]
  ·rw [if_neg h1,if_neg h2,if_neg (by omega)]
   simp only [Nat.add_assoc]
variable {α:Type} {sz:Nat} {R:View->Value->α->Prop} {V V':View}
structure Row (sz:Nat) (R:View->Value->α->Prop) (V:View) (vs:List Value) (al:List α):Prop where
 at_:∀(i:Nat)(h:i<al.length),∃xs:List Value,xs.length=sz/\R V (.agg xs.toArray) al[i]/\∀j x,xs[j]?=some x->vs[i*sz+j]?=some x
structure Lst (sz:Nat) (R:View->Value->α->Prop) (V:View) (p:OA) (n:Nat) (al:List α):Prop where
 len:n=al.length
 at_:∀(i:Nat)(h:i<al.length),∃ad,addrAdd p (i*sz)=some ad/\∃xs:List Value,xs.length=sz/\R V (.agg xs.toArray) al[i]/\∀j x,xs[j]?=some x->V.at (ad.add j) x
theorem Row.nil {vs:List Value}:Row sz R V vs []:=⟨fun i h=>absurd h (Nat.not_lt_zero i)⟩
theorem Lst.nil {p:OA}:Lst sz R V p 0 []:=⟨rfl,fun i h=>absurd h (Nat.not_lt_zero i)⟩
theorem Row.le {vs:List Value}{al:List α}(h:Row sz R V vs al)(m:∀v a,R V v a->R V' v a):Row sz R V' vs al:=
 ⟨fun i hi=>by obtain ⟨xs,h1,h2,h3⟩:=h.at_ i hi;exact ⟨xs,h1,m _ _ h2,h3⟩⟩
theorem Lst.le {p:OA}{n:Nat}{al:List α}(h:Lst sz R V p n al)(l:V.Le V')(m:∀v a,R V v a->R V' v a):Lst sz R V' p n al:=
 ⟨h.len,fun i hi=>by obtain ⟨ad,h0,xs,h1,h2,h3⟩:=h.at_ i hi;exact ⟨ad,h0,xs,h1,m _ _ h2,fun j x hx=>l.at (h3 j x hx)⟩⟩
theorem Row.nT {vs:List Value}{al:List α}(h:Row sz R V vs al)(hs:0<sz):al.length*sz<=vs.length:=by
 by_cases h0:al.length=0
 ·rw [h0];omega
 ·obtain ⟨xs,h1,-,h3⟩:=h.at_ (al.length-1) (by omega)
  have hx:sz-1<xs.length:=by omega
  have:=(List.getElem?_eq_some_iff.1 (h3 (sz-1) _ (List.getElem?_eq_getElem hx))).1
  have e:al.length*sz=(al.length-1)*sz+sz:=by
   obtain ⟨m,hm⟩:∃m,al.length=m+1:=⟨al.length-1,by omega⟩
   rw [hm,Nat.add_sub_cancel,Nat.succ_mul]
  omega
theorem Row.snoc {vs:List Value}{al:List α}(h:Row sz R V vs al){xs sp:List Value}{a:α}(hx:xs.length=sz)(ha:R V (.agg xs.toArray) a)(hs:0<sz) :
  Row sz R V (vs.take (al.length*sz)++xs++sp) (al++[a]):=by
 have hl:=h.nT hs
 have ht:(vs.take (al.length*sz)).length=al.length*sz:=by rw [List.length_take];omega
 refine ⟨fun i hi=>?_⟩
 rw [List.length_append,List.length_singleton] at hi
 by_cases e:i=al.length
 ·subst e
  refine ⟨xs,hx,by rw [List.getElem_append_right (Nat.le_refl _)];simpa using ha,fun j x hj=>?_⟩
  have hj':=(List.getElem?_eq_some_iff.1 hj).1
  rw [List.append_assoc,List.getElem?_append_right (by rw [ht];omega),ht,Nat.add_sub_cancel_left,List.getElem?_append_left hj']
  exact hj
 ·have hi':i<al.length:=by omega
  obtain ⟨ys,y1,y2,y3⟩:=h.at_ i hi'
  refine ⟨ys,y1,by rw [List.getElem_append_left hi'];exact y2,fun j x hj=>?_⟩
  have hj':=(List.getElem?_eq_some_iff.1 hj).1
  have hlt:i*sz+j<al.length*sz:=by
   have:(i+1)*sz<=al.length*sz:=Nat.mul_le_mul_right _ hi'
   rw [Nat.succ_mul] at this
   omega
  rw [List.append_assoc,List.getElem?_append_left (by rw [ht];exact hlt),List.getElem?_take,if_pos hlt]
  exact y3 j x hj
theorem Lst.Ii {bk:Nat}{ty:TypeId}{m:Nat×Nat}{vs:List Value}{al:List α}(hb:V.a_ bk (.cells vs.toArray ty m))(h:Row sz R V vs al):Lst sz R V (some ⟨bk,0,none⟩) al.length al:=by
 refine ⟨rfl,fun i hi=>?_⟩
 obtain ⟨xs,h1,h2,h3⟩:=h.at_ i hi
 refine ⟨⟨bk,i*sz,none⟩,by simp [addrAdd,add_zero'],xs,h1,h2,fun j x hj=>?_⟩
 have e:(⟨bk,i*sz,none⟩:Addr).add j=⟨bk,i*sz+j,none⟩:=by rw [←add_zero',Dq,add_zero']
 rw [e]
 exact blk_at hb (h3 j x hj)
theorem Lst.of_mrow {bk c:Nat}{ty:TypeId}{m:Nat×Nat}{vs:List Value}{al:List α}(hb:vs≠[]->V.a_ bk (.cells vs.toArray ty m))(h:Row sz R V vs al)(hs:0<sz)(hc:al.length<=c):Lst sz R V (mA bk c) al.length al:=by
 cases al with
 | nil=>exact Lst.nil
 | cons a r=>
  have hne:vs≠[]:=fun e=>by
   have:=h.nT hs
   rw [e,List.length_cons,Nat.succ_mul] at this
   simp at this;omega
  have:mA bk c=some ⟨bk,0,none⟩:=by unfold mA;rw [if_neg];rw [List.length_cons] at hc;omega
  rw [this]
  exact Lst.Ii (hb hne) h
end Go.Eng
namespace Go.Eng
open Go.Proofs.Tryz
variable {α:Type} {sz:Nat} {R:View->Value->α->Prop} {V V':View} {d:α}
theorem Row.get {vs:List Value}{al:List α}(h:Row sz R V vs al){i:Nat}(hi:i<al.length)(hs:0<sz) :
  ∃xs:List Value,xs.length=sz/\R V (.agg xs.toArray) (al.getD i d)/\i*sz+sz<=vs.length/\(vs.drop (i*sz)).take sz=xs:=by
 obtain ⟨xs,h1,h2,h3⟩:=h.at_ i hi
 have hl:=h.nT hs
 have:(i+1)*sz<=al.length*sz:=Nat.mul_le_mul_right _ hi
 rw [Nat.succ_mul] at this
 refine ⟨xs,h1,by simpa [List.getD_eq_getElem?_getD,hi] using h2,by omega,?_⟩
 apply List.ext_getElem?
 intro j
 rw [List.getElem?_take]
 split
 ·rename_i hj
  rw [List.getElem?_drop]
  have hx:j<xs.length:=by omega
  rw [h3 j _ (List.getElem?_eq_getElem hx),List.getElem?_eq_getElem hx]
 ·rename_i hj
  rw [List.getElem?_eq_none (by omega)]
theorem Row.put {vs:List Value}{al:List α}(h:Row sz R V vs al){i:Nat}(hi:i<al.length)(hs:0<sz){xs:List Value}{a:α}(hx:xs.length=sz)(ha:R V (.agg xs.toArray) a) :
  Row sz R V (dw vs (i*sz) xs) (al.set i a):=by
 have hl:=h.nT hs
 have h9:∀k,k<al.length->k*sz+sz<=vs.length:=fun k hk=>by
  have:(k+1)*sz<=al.length*sz:=Nat.mul_le_mul_right _ hk
  rw [Nat.succ_mul] at this
  omega
 have hi9:=h9 i hi
 rw [jF (by omega)]
 have ht:(vs.take (i*sz)).length=i*sz:=by rw [List.length_take];omega
 refine ⟨fun k hk=>?_⟩
 rw [List.length_set] at hk
 by_cases e:k=i
 ·subst e
  refine ⟨xs,hx,by simpa using ha,fun j x hj=>?_⟩
  have hj':=(List.getElem?_eq_some_iff.1 hj).1
  rw [List.append_assoc,List.getElem?_append_right (by omega),ht,Nat.add_sub_cancel_left,List.getElem?_append_left hj']
  exact hj
 ·obtain ⟨ys,y1,y2,y3⟩:=h.at_ k hk
  refine ⟨ys,y1,by rw [List.getElem_set_ne (fun e'=>e e'.symm)];exact y2,fun j x hj=>?_⟩
  have hj':=(List.getElem?_eq_some_iff.1 hj).1
  by_cases lt:k<i
  ·have:(k+1)*sz<=i*sz:=Nat.mul_le_mul_right _ lt
   rw [Nat.succ_mul] at this
   rw [List.append_assoc,List.getElem?_append_left (by omega),List.getElem?_take,if_pos (by omega)]
   exact y3 j x hj
  ·have:(i+1)*sz<=k*sz:=Nat.mul_le_mul_right _ (by omega)
   rw [Nat.succ_mul] at this
   rw [List.getElem?_append_right (by rw [List.length_append];omega),List.length_append,ht,hx,List.getElem?_drop]
   rw [show i*sz+sz+(k*sz+j-(i*sz+sz))=k*sz+j by omega]
   exact y3 j x hj
theorem y_ {vs xs:List Value}{o:Nat}(h:o+xs.length<=vs.length):(dw vs o xs).length=vs.length:=by
 rw [jF h];simp only [List.length_append,List.length_take,List.length_drop];omega
theorem Row.swap {vs:List Value}{al:List α}(h:Row sz R V vs al){i j:Nat}(hi:i<al.length)(hj:j<al.length)(hs:0<sz){xs ys:List Value}(hx:xs.length=sz)(hy:ys.length=sz)(h1:R V (.agg xs.toArray) (al.getD i d))(h2:R V (.agg ys.toArray) (al.getD j d)) :
  Row sz R V (dw (dw vs (i*sz) ys) (j*sz) xs) (pB d al i j):=by
 have:=h.put hi hs hy h2
 exact this.put (by simpa using hj) hs hx h1
end Go.Eng
namespace Go.Proofs.Tryz
open Go.Eng Go.Big
section
variable {α:Type} (e:α->α->Bool)
variable {e}
end
end Go.Proofs.Tryz
namespace Go.Eng
open Go.Proofs.Tryz
section
variable {α:Type} {sz:Nat} {R:View->Value->α->Prop} {V:View} {d:α}
end
end Go.Eng
namespace Go.Proofs.Tryz
open Go.Eng Go.Big
def RA (V:View)(v:Value)(q:Rat):Prop:=∃p n c p' n' c',v=.agg #[.bool (decide (q.num<0)),.slice p n c,.slice p' n' c']/\RD V p n c (af q.num.natAbs)/\RD V p' n' c' (af q.den)
theorem RA.le {V V':View}{v:Value}{q:Rat}(h:RA V v q)(l:V.Le V'):RA V' v q:=by
 obtain ⟨p,n,c,p',n',c',e,h1,h2⟩:=h
 exact ⟨p,n,c,p',n',c',e,h1.le l,h2.le l⟩
theorem lk {V:View}(b:Bool){p q:OA}{n c m e:Nat}{xs ys:List Nat}(hx:RD V p n c xs)(hy:RD V q m e ys)(hm:xs.length<=1099511627776)(hn:ys.length<=1099511627776) :
  Acts prog 105 #[.agg #[.bool b,.slice p n c,.slice q m e]] V fun r V'=>RR V' r (mkRat (aO b xs) (val ys)):=by
 refine A6 b p n c q m e V _ fun V1 l1=>(bP b (hx.le l1) (hy.le l1) hm hn).mono ?_
 rintro r V2 l2 h
 obtain ⟨u,v,w,rfl⟩:=h.shape
 exact ⟨_,_,_,rfl,fun V3 l3=>h.le l3⟩
theorem ux {V:View}{v:Value}{q:Rat}(h:RA V v q){k:Nat}(hs:Sz k q)(hk:k<=1099511627776):Acts prog 105 #[v] V fun r V'=>RR V' r q:=by
 obtain ⟨p,n,c,p',n',c',rfl,h1,h2⟩:=h
 have q1:=ae hs.1
 have q2:=ae hs.2
 refine (lk _ h1 h2 (by omega) (by omega)).mono ?_
 rintro r V' _ h
 rw [aA,ab,Rat.mkRat_self] at h
 exact h
theorem gY {V:View}{v w:Value}{x y:Rat}(hx:RR V v x)(hy:RR V w y){k m:Nat}(hk:Sz k x)(hm:Sz m y)(hkm:k+m<1099511627776) :
  Acts prog 219 #[v,w] V fun r V'=>RR V' r (x*y):=by
 obtain ⟨r0,r1,r2,rfl⟩:=hx.shape
 obtain ⟨s0,s1,s2,rfl⟩:=hy.shape
 have hxy:x*y=mkRat (x.num*y.num) (x.den*y.den):=Rat.mul_def' x y
 have b1:(x.num*y.num).natAbs<2^(k+m):=by rw [Int.natAbs_mul,Nat.pow_add];exact Nat.mul_lt_mul'' hk.1 hm.1
 have b2:x.den*y.den<2^(k+m):=by rw [Nat.pow_add];exact Nat.mul_lt_mul'' hk.2 hm.2
 have q1:=ae hk.1
 have q2:=ae hk.2
 have q3:=ae hm.1
 have q4:=ae hm.2
 have q5:=ae b1
 have q6:=ae b2
 refine tF r0 r1 r2 s0 s1 s2 V _ ⟨fun hr=>⟨fun _ _=>True,⟨fun hs=>?_,fun _=>⟨(),by (try dsimp only);and_intros<;>trivial,trivial⟩⟩,fun _ V8 l8 _=>⟨rfl,fun V9 Rp=>?_⟩⟩,fun _ V9 l9=>?_⟩
 ·rcases hx with ⟨ex,wx⟩|⟨a,b,p,n,c,p',n',c',ex,-,-,-,-,-,wx⟩
  ·rcases hy with ⟨ey,wy⟩|⟨a,b,p,n,c,p',n',c',ey,-,-,-,-,-,wy⟩
   ·simp only [Value.agg.injEq,Array.mk.injEq,List.cons.injEq,Value.int.injEq,Value.pointer.injEq,true_and,and_true] at ex ey
    obtain ⟨rfl,rfl,rfl⟩:=ex
    obtain ⟨rfl,rfl,rfl⟩:=ey
    obtain ⟨KW,Pz⟩:=wx
    obtain ⟨KX,PA⟩:=wy
    have dx:=x.den_nz
    have dy:=y.den_nz
    have e1:i64.wrap ((x.den:Int)-1+1)=x.den:=by rw [i64w (by omega)];omega
    have e2:i64.wrap ((y.den:Int)-1+1)=y.den:=by rw [i64w (by omega)];omega
    rw [e1,e2]
    intro V1 l1
    refine (eG _ _ KW KX).mono ?_
    rintro r V2 l2 ⟨z1,rfl,hz1⟩
    refine ⟨_,_,rfl,fun V3 l3=>(eG _ _ (by omega) (by omega)).mono ?_⟩
    rintro r V4 l4 ⟨z2,rfl,hz2⟩
    refine ⟨_,_,rfl,fun t1=>⟨fun t2 V5 l5=>?_,fun _=>⟨(),by (try dsimp only);and_intros<;>trivial,trivial⟩⟩,fun _=>⟨(),by (try dsimp only);and_intros<;>trivial,trivial⟩⟩
    have t1:=of_decide_eq_true t1
    have t2:=of_decide_eq_true t2
    rw [hz1 t1,hz2 t2]
    have hd:((x.den:Int)*(y.den:Int))=((x.den*y.den:Nat):Int):=(Int.natCast_mul ..).symm
    rw [hd] at t2 ⊢
    refine (kV _ _ t1 (by rwa [Int.natAbs_natCast] at t2) (Nat.mul_ne_zero dx dy)).mono ?_
    rintro r V6 l6 h6
    rw [←hxy] at h6
    obtain ⟨n,d,p,rfl⟩:=h6.shape
    exact ⟨_,_,_,rfl,fun V7 l7=>h6.le l7⟩
   ·simp only [Value.agg.injEq,Array.mk.injEq,List.cons.injEq,Value.int.injEq,Value.pointer.injEq,true_and,and_true] at ey
    obtain ⟨rfl,rfl,rfl⟩:=ey
    cases hs
  ·simp only [Value.agg.injEq,Array.mk.injEq,List.cons.injEq,Value.int.injEq,Value.pointer.injEq,true_and,and_true] at ex
   obtain ⟨rfl,rfl,rfl⟩:=ex
   cases hr
 ·have l9:=l8.trans Rp
  refine (eE (hx.le l9) hk (by omega)).mono ?_
  rintro r V10 l10 ⟨p1,n1,c1,rfl,g1⟩
  refine ⟨_,_,_,_,rfl,fun V11 l11=>(eE (hy.le (l9.trans (l10.trans l11))) hm (by omega)).mono ?_⟩
  rintro r V12 l12 ⟨p2,n2,c2,rfl,g2⟩
  refine ⟨_,_,_,_,rfl,fun V13 l13=>(fm _ _ (g1.le (l11.trans (l12.trans l13))) (g2.le l13) (by omega)).mono ?_⟩
  rintro r V14 eY De
  rw [aA,aA] at De
  obtain ⟨p3,n3,c3,rfl,g3⟩:=De
  have Dm:=l9.trans (l10.trans (l11.trans (l12.trans (l13.trans eY))))
  refine ⟨_,_,_,_,rfl,fun V15 eZ=>(dL (hx.le (Dm.trans eZ)) hk (by omega)).mono ?_⟩
  rintro r me eU ⟨p4,n4,c4,rfl,g4⟩
  refine ⟨_,_,_,rfl,fun pS dX=>(dL (hy.le (Dm.trans (eZ.trans (eU.trans dX)))) hm (by omega)).mono ?_⟩
  rintro r sQ fB ⟨p5,n5,c5,rfl,g5⟩
  refine ⟨_,_,_,rfl,fun ua fH=>(fe (g4.le (dX.trans (fB.trans fH))) (g5.le fH) (by omega)).mono ?_⟩
  rintro r Dc lG ⟨p6,n6,c6,rfl,g6⟩
  rw [ab,ab] at g6
  refine ⟨_,_,_,rfl,fun ub hU=>(bP _ (g3.le (eZ.trans (eU.trans (dX.trans (fB.trans (fH.trans (lG.trans hU))))))) (g6.le hU) (by omega) (by omega)).mono ?_⟩
  rintro r xn mF h22
  rw [aA,ab,←hxy] at h22
  obtain ⟨n,d,p,rfl⟩:=h22.shape
  exact ⟨_,_,_,rfl,fun xo kb=>h22.le kb⟩
 ·skip
  refine (eE (hx.le l9) hk (by omega)).mono ?_
  rintro r V10 l10 ⟨p1,n1,c1,rfl,g1⟩
  refine ⟨_,_,_,_,rfl,fun V11 l11=>(eE (hy.le (l9.trans (l10.trans l11))) hm (by omega)).mono ?_⟩
  rintro r V12 l12 ⟨p2,n2,c2,rfl,g2⟩
  refine ⟨_,_,_,_,rfl,fun V13 l13=>(fm _ _ (g1.le (l11.trans (l12.trans l13))) (g2.le l13) (by omega)).mono ?_⟩
  rintro r V14 eY De
  rw [aA,aA] at De
  obtain ⟨p3,n3,c3,rfl,g3⟩:=De
  have Dm:=l9.trans (l10.trans (l11.trans (l12.trans (l13.trans eY))))
  refine ⟨_,_,_,_,rfl,fun V15 eZ=>(dL (hx.le (Dm.trans eZ)) hk (by omega)).mono ?_⟩
  rintro r me eU ⟨p4,n4,c4,rfl,g4⟩
  refine ⟨_,_,_,rfl,fun pS dX=>(dL (hy.le (Dm.trans (eZ.trans (eU.trans dX)))) hm (by omega)).mono ?_⟩
  rintro r sQ fB ⟨p5,n5,c5,rfl,g5⟩
  refine ⟨_,_,_,rfl,fun ua fH=>(fe (g4.le (dX.trans (fB.trans fH))) (g5.le fH) (by omega)).mono ?_⟩
  rintro r Dc lG ⟨p6,n6,c6,rfl,g6⟩
  rw [ab,ab] at g6
  refine ⟨_,_,_,rfl,fun ub hU=>(bP _ (g3.le (eZ.trans (eU.trans (dX.trans (fB.trans (fH.trans (lG.trans hU))))))) (g6.le hU) (by omega) (by omega)).mono ?_⟩
  rintro r xn mF h22
  rw [aA,ab,←hxy] at h22
  obtain ⟨n,d,p,rfl⟩:=h22.shape
  exact ⟨_,_,_,rfl,fun xo kb=>h22.le kb⟩
theorem inv_neg {q:Rat}(h:q.num<0):(q⁻¹).num=-(q.den:Int)/\(q⁻¹).den=q.num.natAbs:=by
 show (Rat.inv q).num=_/\(Rat.inv q).den=_
 unfold Rat.inv
 rw [dif_pos h]
 exact ⟨rfl,rfl⟩
theorem inv_pos {q:Rat}(h:0<q.num):(q⁻¹).num=(q.den:Int)/\(q⁻¹).den=q.num.natAbs:=by
 show (Rat.inv q).num=_/\(Rat.inv q).den=_
 unfold Rat.inv
 rw [dif_neg (by omega),dif_pos h]
 exact ⟨rfl,rfl⟩
theorem inv_zero {q:Rat}(h:q.num=0):q⁻¹=0:=by
 have:q=0:=Rat.num_eq_zero.1 h
 subst this
 exact Rat.inv_zero
theorem jH {k:Nat}{q:Rat}(h:Sz k q):Sz k q⁻¹:=by
 rcases Int.lt_trichotomy q.num 0 with h0|h0|h0
 ·obtain ⟨e1,e2⟩:=inv_neg h0
  refine ⟨?_,?_⟩
  ·rw [e1,Int.natAbs_neg];exact h.2
  ·rw [e2];exact h.1
 ·rw [inv_zero h0]
  exact ⟨Nat.two_pow_pos _,Nat.lt_of_le_of_lt (Nat.pos_of_ne_zero q.den_nz) h.2⟩
 ·obtain ⟨e1,e2⟩:=inv_pos h0
  exact ⟨by rw [e1];exact h.2,by rw [e2];exact h.1⟩
theorem FB {V:View}{v:Value}{q:Rat}(h:RR V v q){k:Nat}(hs:Sz k q)(hk:k<=1099511627776):Acts prog 236 #[v] V fun r V'=>RR V' r q⁻¹:=by
 rcases h with ⟨rfl,hw⟩|⟨a,b,p,n,c,p',n',c',rfl,h1,h2,h3,h4,h5,hw⟩
 ·obtain ⟨w1,w2⟩:=hw
  have hd:=q.den_nz
  refine ld _ _ _ V _ ⟨(fun h0=>nomatch h0),fun _=>⟨fun g V4 l4=>?_,fun g=>⟨fun g2 V5 l5=>?_,fun g2 V6 l6=>?_⟩⟩⟩
  ·have g:=of_decide_eq_true g
   obtain ⟨e1,e2⟩:=inv_neg g
   refine .inl ⟨?_,?_⟩
   ·rw [e1,e2,i64w (x:=(q.den:Int)-1+1) (by omega),i64w (x:=0-q.num) (by omega),i64w (x:=0-((q.den:Int)-1+1)) (by omega),i64w (by omega)]
    congr 4
    ·omega
    ·congr 1;omega
   ·unfold Wd;rw [e1,e2,Int.natAbs_neg];exact ⟨w2,w1⟩
  ·have g2:q.num=0:=by simpa using g2
   rw [inv_zero g2]
   exact .inl ⟨rfl,by decide,by decide⟩
  ·have g:¬q.num<0:=of_decide_eq_false g
   have g2:q.num≠0:=by simpa using g2
   obtain ⟨e1,e2⟩:=inv_pos (q:=q) (by omega)
   refine .inl ⟨?_,?_⟩
   ·rw [e1,e2,i64w (x:=(q.den:Int)-1+1) (by omega),i64w (by omega)]
    congr 4
    ·omega
    ·congr 1;omega
   ·unfold Wd;rw [e1,e2];exact ⟨w2,w1⟩
 ·obtain ⟨rfl,hn⟩:=h4.inv
  have q1:=ae hs.1
  have q2:=ae hs.2
  refine ld _ _ _ V _ ⟨fun _=>⟨rfl,rfl,rfl,decide (q.num<0),⟨a.add 0,by simp [addrAdd,Addr.add],h1⟩,rfl,rfl,p',n',c',⟨a.add 2,rfl,h3⟩,rfl,rfl,rfl,p,n,c,⟨a.add 1,by simp [addrAdd,Addr.add],h2⟩,fun V1 l1=>(bP _ (h5.le l1) (hn.le l1) (by omega) (by omega)).mono ?_⟩,fun h0=>nomatch h0⟩
  rintro r V2 l2 h
  have e:mkRat (aO (decide (q.num<0)) (af q.den)) (val (af q.num.natAbs))=q⁻¹:=by
   rw [ab]
   have hv:aO (decide (q.num<0)) (af q.den)=if q.num<0 then -(q.den:Int) else (q.den:Int):=by
    unfold aO
    rw [ab]
    by_cases g:q.num<0<;>simp [g]
   rw [hv]
   rcases Int.lt_trichotomy q.num 0 with h0|h0|h0
   ·obtain ⟨e1,e2⟩:=inv_neg h0
    rw [if_pos h0,←e1,←e2,Rat.mkRat_self]
   ·rw [inv_zero h0,h0];simp
   ·obtain ⟨e1,e2⟩:=inv_pos h0
    rw [if_neg (by omega),←e1,←e2,Rat.mkRat_self]
  rw [e] at h
  obtain ⟨u,v,w,rfl⟩:=h.shape
  exact ⟨_,_,_,rfl,fun V3 l3=>h.le l3⟩
theorem vH {V:View}{v w:Value}{x y:Rat}(hx:RR V v x)(hy:RR V w y){k m:Nat}(hk:Sz k x)(hm:Sz m y)(hkm:k+m<1099511627776) :
  Acts prog 213 #[v,w] V fun r V'=>RR V' r (x*y⁻¹):=by
 have hx0:=hx
 have hy0:=hy
 obtain ⟨r0,r1,r2,rfl⟩:=hx.shape
 obtain ⟨s0,s1,s2,rfl⟩:=hy.shape
 refine tG r0 r1 r2 s0 s1 s2 V _ fun V1 l1=>(FB (hy0.le l1) hm (by omega)).mono ?_
 rintro r V2 l2 h2
 have h20:=h2
 obtain ⟨u,v,w,rfl⟩:=h2.shape
 refine ⟨_,_,_,rfl,fun V3 l3=>(gY (hx0.le (l1.trans (l2.trans l3))) (h20.le l3) hk (jH hm) hkm).mono ?_⟩
 rintro r V4 l4 h4
 have QI:=h4
 obtain ⟨u,v,w,rfl⟩:=h4.shape
 exact ⟨_,_,_,rfl,fun V5 l5=>QI.le l5⟩
def RPt (V:View)(v:Value)(x y:Rat):Prop:=∃(x1 x2:Int)(p:OA)(y1 y2:Int)(q:OA),v=.agg #[.int .i64 x1,.int .i64 x2,.pointer p,.int .i64 y1,.int .i64 y2,.pointer q] /\
 RR V (.agg #[.int .i64 x1,.int .i64 x2,.pointer p]) x/\RR V (.agg #[.int .i64 y1,.int .i64 y2,.pointer q]) y
theorem RPt.le {V V':View}{v:Value}{x y:Rat}(h:RPt V v x y)(l:V.Le V'):RPt V' v x y:=by
 obtain ⟨x1,x2,p,y1,y2,q,e,h1,h2⟩:=h
 exact ⟨x1,x2,p,y1,y2,q,e,h1.le l,h2.le l⟩
theorem vK {V:View}{p:Value}{en eo:Rat}{q:Value}{kQ kR:Rat}(hp:RPt V p en eo)(hq:RPt V q kQ kR){k:Nat}(eW:Sz k en)(eX:Sz k eo)(kS:Sz k kQ)(kT:Sz k kR)(hk:2*k+1<274877906944) :
  Acts prog 233 #[p,q] V fun r V'=>RPt V' r ((en)+(kQ)) ((eo)+(kR)):=by
 have hp0:=hp
 obtain ⟨p0,p1,p2,p3,p4,p5,rfl,yl,ym⟩:=hp
 have hq0:=hq
 obtain ⟨q0,q1,q2,q3,q4,q5,rfl,D7,D8⟩:=hq
 refine tP p0 p1 p2 p3 p4 p5 q0 q1 q2 q3 q4 q5 V _ fun V1 l1=>(jd (yl.le (l1)) (D7.le (l1)) eW kS (by omega)).mono ?_
 rintro r V2 l2 g1
 have g10:=g1
 obtain ⟨KT,KU,KV,rfl⟩:=g1.shape
 have bw:Sz (2*k+1) ((en)+(kQ)):=Sz.mono (Sz.add eW kS) (by omega)
 refine ⟨_,_,_,rfl,fun V3 l3=>(jd (ym.le (l1.trans (l2.trans (l3)))) (D8.le (l1.trans (l2.trans (l3)))) eX kT (by omega)).mono ?_⟩
 rintro r V4 l4 g2
 have g20:=g2
 obtain ⟨IX,IY,IZ,rfl⟩:=g2.shape
 have cC:Sz (2*k+1) ((eo)+(kR)):=Sz.mono (Sz.add eX kT) (by omega)
 exact ⟨_,_,_,rfl,fun V5 l5=>⟨_,_,_,_,_,_,rfl,(g10.le (l3.trans (l4.trans (l5)))),(g20.le (l5))⟩⟩
theorem gR {en eo kQ kR:Rat}{k:Nat}(eW:Sz k en)(eX:Sz k eo)(kS:Sz k kQ)(kT:Sz k kR):Sz (2*k+1) ((en)+(kQ)):=by
 have bw:Sz (2*k+1) ((en)+(kQ)):=Sz.mono (Sz.add eW kS) (by omega)
 have cC:Sz (2*k+1) ((eo)+(kR)):=Sz.mono (Sz.add eX kT) (by omega)
 exact Sz.mono bw (by omega)
theorem gS {en eo kQ kR:Rat}{k:Nat}(eW:Sz k en)(eX:Sz k eo)(kS:Sz k kQ)(kT:Sz k kR):Sz (2*k+1) ((eo)+(kR)):=by
 have bw:Sz (2*k+1) ((en)+(kQ)):=Sz.mono (Sz.add eW kS) (by omega)
 have cC:Sz (2*k+1) ((eo)+(kR)):=Sz.mono (Sz.add eX kT) (by omega)
 exact Sz.mono cC (by omega)
theorem jV {V:View}{p:Value}{en eo:Rat}{c:Value}{zQ:Rat}(hp:RPt V p en eo)(hc:RR V c zQ){k:Nat}(eW:Sz k en)(eX:Sz k eo)(tC:Sz k zQ)(hk:2*k+1<274877906944) :
  Acts prog 234 #[p,c] V fun r V'=>RPt V' r ((en)*(zQ)) ((eo)*(zQ)):=by
 have hp0:=hp
 obtain ⟨p0,p1,p2,p3,p4,p5,rfl,yl,ym⟩:=hp
 have hc0:=hc
 obtain ⟨c0,c1,c2,rfl⟩:=hc.shape
 refine pK p0 p1 p2 p3 p4 p5 c0 c1 c2 V _ fun V1 l1=>(gY (yl.le (l1)) (hc0.le (l1)) eW tC (by omega)).mono ?_
 rintro r V2 l2 g1
 have g10:=g1
 obtain ⟨KT,KU,KV,rfl⟩:=g1.shape
 have bw:Sz (2*k+1) ((en)*(zQ)):=Sz.mono (Sz.mul eW tC) (by omega)
 refine ⟨_,_,_,rfl,fun V3 l3=>(gY (ym.le (l1.trans (l2.trans (l3)))) (hc0.le (l1.trans (l2.trans (l3)))) eX tC (by omega)).mono ?_⟩
 rintro r V4 l4 g2
 have g20:=g2
 obtain ⟨IX,IY,IZ,rfl⟩:=g2.shape
 have cC:Sz (2*k+1) ((eo)*(zQ)):=Sz.mono (Sz.mul eX tC) (by omega)
 exact ⟨_,_,_,rfl,fun V5 l5=>⟨_,_,_,_,_,_,rfl,(g10.le (l3.trans (l4.trans (l5)))),(g20.le (l5))⟩⟩
theorem bR {en eo zQ:Rat}{k:Nat}(eW:Sz k en)(eX:Sz k eo)(tC:Sz k zQ):Sz (2*k+1) ((en)*(zQ)):=by
 have bw:Sz (2*k+1) ((en)*(zQ)):=Sz.mono (Sz.mul eW tC) (by omega)
 have cC:Sz (2*k+1) ((eo)*(zQ)):=Sz.mono (Sz.mul eX tC) (by omega)
 exact Sz.mono bw (by omega)
theorem bS {en eo zQ:Rat}{k:Nat}(eW:Sz k en)(eX:Sz k eo)(tC:Sz k zQ):Sz (2*k+1) ((eo)*(zQ)):=by
 have bw:Sz (2*k+1) ((en)*(zQ)):=Sz.mono (Sz.mul eW tC) (by omega)
 have cC:Sz (2*k+1) ((eo)*(zQ)):=Sz.mono (Sz.mul eX tC) (by omega)
 exact Sz.mono cC (by omega)
theorem ji {V:View}{p:Value}{en eo:Rat}{q:Value}{kQ kR:Rat}(hp:RPt V p en eo)(hq:RPt V q kQ kR){k:Nat}(eW:Sz k en)(eX:Sz k eo)(kS:Sz k kQ)(kT:Sz k kR)(hk:4*k+3<274877906944) :
  Acts prog 174 #[p,q] V fun r V'=>RR V' r (((en)*(kQ))+((eo)*(kR))):=by
 have hp0:=hp
 obtain ⟨p0,p1,p2,p3,p4,p5,rfl,yl,ym⟩:=hp
 have hq0:=hq
 obtain ⟨q0,q1,q2,q3,q4,q5,rfl,D7,D8⟩:=hq
 refine tQ p0 p1 p2 p3 p4 p5 q0 q1 q2 q3 q4 q5 V _ fun V1 l1=>(gY (yl.le (l1)) (D7.le (l1)) eW kS (by omega)).mono ?_
 rintro r V2 l2 g1
 have g10:=g1
 obtain ⟨KT,KU,KV,rfl⟩:=g1.shape
 have bw:Sz (2*k+1) ((en)*(kQ)):=Sz.mono (Sz.mul eW kS) (by omega)
 refine ⟨_,_,_,rfl,fun V3 l3=>(gY (ym.le (l1.trans (l2.trans (l3)))) (D8.le (l1.trans (l2.trans (l3)))) eX kT (by omega)).mono ?_⟩
 rintro r V4 l4 g2
 have g20:=g2
 obtain ⟨IX,IY,IZ,rfl⟩:=g2.shape
 have cC:Sz (2*k+1) ((eo)*(kR)):=Sz.mono (Sz.mul eX kT) (by omega)
 refine ⟨_,_,_,rfl,fun V5 l5=>(jd (g10.le (l3.trans (l4.trans (l5)))) (g20.le (l5)) bw cC (by omega)).mono ?_⟩
 rintro r V6 l6 g3
 have xg:=g3
 obtain ⟨Lx,Ly,Lz,rfl⟩:=g3.shape
 have fA:Sz (4*k+3) (((en)*(kQ))+((eo)*(kR))):=Sz.mono (Sz.add bw cC) (by omega)
 exact ⟨_,_,_,rfl,fun V7 l7=>(xg.le (l7))⟩
theorem cA {en eo kQ kR:Rat}{k:Nat}(eW:Sz k en)(eX:Sz k eo)(kS:Sz k kQ)(kT:Sz k kR):Sz (4*k+3) (((en)*(kQ))+((eo)*(kR))):=by
 have bw:Sz (2*k+1) ((en)*(kQ)):=Sz.mono (Sz.mul eW kS) (by omega)
 have cC:Sz (2*k+1) ((eo)*(kR)):=Sz.mono (Sz.mul eX kT) (by omega)
 have fA:Sz (4*k+3) (((en)*(kQ))+((eo)*(kR))):=Sz.mono (Sz.add bw cC) (by omega)
 exact Sz.mono fA (by omega)
theorem qA {V:View}{p:Value}{en eo:Rat}{q:Value}{kQ kR:Rat}(hp:RPt V p en eo)(hq:RPt V q kQ kR){k:Nat}(eW:Sz k en)(eX:Sz k eo)(kS:Sz k kQ)(kT:Sz k kR)(hk:4*k+3<274877906944) :
  Acts prog 216 #[p,q] V fun r V'=>RR V' r (((en)*(kR))-((eo)*(kQ))):=by
 have hp0:=hp
 obtain ⟨p0,p1,p2,p3,p4,p5,rfl,yl,ym⟩:=hp
 have hq0:=hq
 obtain ⟨q0,q1,q2,q3,q4,q5,rfl,D7,D8⟩:=hq
 refine pJ p0 p1 p2 p3 p4 p5 q0 q1 q2 q3 q4 q5 V _ fun V1 l1=>(gY (yl.le (l1)) (D8.le (l1)) eW kT (by omega)).mono ?_
 rintro r V2 l2 g1
 have g10:=g1
 obtain ⟨KT,KU,KV,rfl⟩:=g1.shape
 have bw:Sz (2*k+1) ((en)*(kR)):=Sz.mono (Sz.mul eW kT) (by omega)
 refine ⟨_,_,_,rfl,fun V3 l3=>(gY (ym.le (l1.trans (l2.trans (l3)))) (D7.le (l1.trans (l2.trans (l3)))) eX kS (by omega)).mono ?_⟩
 rintro r V4 l4 g2
 have g20:=g2
 obtain ⟨IX,IY,IZ,rfl⟩:=g2.shape
 have cC:Sz (2*k+1) ((eo)*(kQ)):=Sz.mono (Sz.mul eX kS) (by omega)
 refine ⟨_,_,_,rfl,fun V5 l5=>(vI (g10.le (l3.trans (l4.trans (l5)))) (g20.le (l5)) bw cC (by omega)).mono ?_⟩
 rintro r V6 l6 g3
 have xg:=g3
 obtain ⟨Lx,Ly,Lz,rfl⟩:=g3.shape
 have fA:Sz (4*k+3) (((en)*(kR))-((eo)*(kQ))):=Sz.mono (Sz.sub bw cC) (by omega)
 exact ⟨_,_,_,rfl,fun V7 l7=>(xg.le (l7))⟩
theorem oB {en eo kQ kR:Rat}{k:Nat}(eW:Sz k en)(eX:Sz k eo)(kS:Sz k kQ)(kT:Sz k kR):Sz (4*k+3) (((en)*(kR))-((eo)*(kQ))):=by
 have bw:Sz (2*k+1) ((en)*(kR)):=Sz.mono (Sz.mul eW kT) (by omega)
 have cC:Sz (2*k+1) ((eo)*(kQ)):=Sz.mono (Sz.mul eX kS) (by omega)
 have fA:Sz (4*k+3) (((en)*(kR))-((eo)*(kQ))):=Sz.mono (Sz.sub bw cC) (by omega)
 exact Sz.mono fA (by omega)
theorem jh {V:View}{l:Value}{aU l_1 cJ:Rat}(hl:ph V l aU l_1 cJ){k:Nat}(bV:Sz k aU)(b_:Sz k l_1)(bO:Sz k cJ)(hk:1*k+1<274877906944) :
  Acts prog 171 #[l] V fun r V'=>RPt V' r (l_1) (-(aU)):=by
 have hl0:=hl
 obtain ⟨l0,l1,l2,l3,l4,l5,l6,l7,l8,rfl,yi,yj,yk⟩:=hl
 refine tO l0 l1 l2 l3 l4 l5 l6 l7 l8 V _ fun V1 l1=>(eC (yi.le (l1)) bV (by omega)).mono ?_
 rintro r V2 l2 g1
 have g10:=g1
 obtain ⟨KT,KU,KV,rfl⟩:=g1.shape
 have bw:Sz (1*k+0) (-(aU)):=Sz.mono (Sz.neg bV) (by omega)
 exact ⟨_,_,_,rfl,fun V3 l3=>⟨_,_,_,_,_,_,rfl,(yj.le (l1.trans (l2.trans (l3)))),(g10.le (l3))⟩⟩
theorem gP {aU l_1 cJ:Rat}{k:Nat}(bV:Sz k aU)(b_:Sz k l_1)(bO:Sz k cJ):Sz (1*k+0) (l_1):=by
 have bw:Sz (1*k+0) (-(aU)):=Sz.mono (Sz.neg bV) (by omega)
 exact Sz.mono b_ (by omega)
theorem gQ {aU l_1 cJ:Rat}{k:Nat}(bV:Sz k aU)(b_:Sz k l_1)(bO:Sz k cJ):Sz (1*k+0) (-(aU)):=by
 have bw:Sz (1*k+0) (-(aU)):=Sz.mono (Sz.neg bV) (by omega)
 exact Sz.mono bw (by omega)
theorem fF {V:View}{l:Value}{aU l_1 cJ:Rat}(hl:ph V l aU l_1 cJ){k:Nat}(bV:Sz k aU)(b_:Sz k l_1)(bO:Sz k cJ)(hk:1*k+1<274877906944) :
  Acts prog 173 #[l] V fun r V'=>RPt V' r (aU) (l_1):=by
 have hl0:=hl
 obtain ⟨l0,l1,l2,l3,l4,l5,l6,l7,l8,rfl,yi,yj,yk⟩:=hl
 exact ot l0 l1 l2 l3 l4 l5 l6 l7 l8 V _ fun V1 l1=>⟨_,_,_,_,_,_,rfl,(yi.le (l1)),(yj.le (l1))⟩
theorem cg {aU l_1 cJ:Rat}{k:Nat}(bV:Sz k aU)(b_:Sz k l_1)(bO:Sz k cJ):Sz (1*k+0) (aU):=by
 exact Sz.mono bV (by omega)
theorem ch {aU l_1 cJ:Rat}{k:Nat}(bV:Sz k aU)(b_:Sz k l_1)(bO:Sz k cJ):Sz (1*k+0) (l_1):=by
 exact Sz.mono b_ (by omega)
theorem nG {V:View}{l:Value}{aU l_1 cJ:Rat}(hl:ph V l aU l_1 cJ){k:Nat}(bV:Sz k aU)(b_:Sz k l_1)(bO:Sz k cJ)(hk:1*k+1<274877906944) :
  Acts prog 198 #[l] V fun r V'=>ph V' r (-(aU)) (-(l_1)) (-(cJ)):=by
 have hl0:=hl
 obtain ⟨l0,l1,l2,l3,l4,l5,l6,l7,l8,rfl,yi,yj,yk⟩:=hl
 refine nq l0 l1 l2 l3 l4 l5 l6 l7 l8 V _ fun V1 l1=>(eC (yi.le (l1)) bV (by omega)).mono ?_
 rintro r V2 l2 g1
 have g10:=g1
 obtain ⟨KT,KU,KV,rfl⟩:=g1.shape
 have bw:Sz (1*k+0) (-(aU)):=Sz.mono (Sz.neg bV) (by omega)
 refine ⟨_,_,_,rfl,fun V3 l3=>(eC (yj.le (l1.trans (l2.trans (l3)))) b_ (by omega)).mono ?_⟩
 rintro r V4 l4 g2
 have g20:=g2
 obtain ⟨IX,IY,IZ,rfl⟩:=g2.shape
 have cC:Sz (1*k+0) (-(l_1)):=Sz.mono (Sz.neg b_) (by omega)
 refine ⟨_,_,_,rfl,fun V5 l5=>(eC (yk.le (l1.trans (l2.trans (l3.trans (l4.trans (l5)))))) bO (by omega)).mono ?_⟩
 rintro r V6 l6 g3
 have xg:=g3
 obtain ⟨Lx,Ly,Lz,rfl⟩:=g3.shape
 have fA:Sz (1*k+0) (-(cJ)):=Sz.mono (Sz.neg bO) (by omega)
 exact ⟨_,_,_,rfl,fun V7 l7=>⟨_,_,_,_,_,_,_,_,_,rfl,(g10.le (l3.trans (l4.trans (l5.trans (l6.trans (l7)))))),(g20.le (l5.trans (l6.trans (l7)))),(xg.le (l7))⟩⟩
theorem jU {V:View}{l:Value}{aU l_1 cJ:Rat}{p:Value}{en eo:Rat}(hl:ph V l aU l_1 cJ)(hp:RPt V p en eo){k:Nat}(bV:Sz k aU)(b_:Sz k l_1)(bO:Sz k cJ)(eW:Sz k en)(eX:Sz k eo)(hk:5*k+4<274877906944) :
  Acts prog 145 #[l,p] V fun r V'=>RR V' r ((((aU)*(en))+((l_1)*(eo)))+(cJ)):=by
 have hl0:=hl
 obtain ⟨l0,l1,l2,l3,l4,l5,l6,l7,l8,rfl,yi,yj,yk⟩:=hl
 have hp0:=hp
 obtain ⟨p0,p1,p2,p3,p4,p5,rfl,yl,ym⟩:=hp
 refine pI l0 l1 l2 l3 l4 l5 l6 l7 l8 p0 p1 p2 p3 p4 p5 V _ fun V1 l1=>(fF (hl0.le (l1)) (Sz.mono bV (by omega):Sz (1*k+0) _) (Sz.mono b_ (by omega):Sz (1*k+0) _) (Sz.mono bO (by omega):Sz (1*k+0) _) (by omega)).mono ?_
 rintro r V2 l2 g1
 have g10:=g1
 obtain ⟨KN,KO,KP,KQ,KR,KS,rfl,Jv,Jw⟩:=g1
 have bw:Sz (1*k+0) (aU):=Sz.mono ((cg (Sz.mono bV (by omega):Sz (1*k+0) _) (Sz.mono b_ (by omega):Sz (1*k+0) _) (Sz.mono bO (by omega):Sz (1*k+0) _))) (by omega)
 have dK:Sz (1*k+0) (l_1):=Sz.mono ((ch (Sz.mono bV (by omega):Sz (1*k+0) _) (Sz.mono b_ (by omega):Sz (1*k+0) _) (Sz.mono bO (by omega):Sz (1*k+0) _))) (by omega)
 refine ⟨_,_,_,_,_,_,rfl,fun V3 l3=>(ji (g10.le (l3)) (hp0.le (l1.trans (l2.trans (l3)))) (Sz.mono bw (by omega):Sz (1*k+0) _) (Sz.mono dK (by omega):Sz (1*k+0) _) (Sz.mono eW (by omega):Sz (1*k+0) _) (Sz.mono eX (by omega):Sz (1*k+0) _) (by omega)).mono ?_⟩
 rintro r V4 l4 g2
 have g20:=g2
 obtain ⟨IX,IY,IZ,rfl⟩:=g2.shape
 have cC:Sz (4*k+3) (((aU)*(en))+((l_1)*(eo))):=Sz.mono ((cA (Sz.mono bw (by omega):Sz (1*k+0) _) (Sz.mono dK (by omega):Sz (1*k+0) _) (Sz.mono eW (by omega):Sz (1*k+0) _) (Sz.mono eX (by omega):Sz (1*k+0) _))) (by omega)
 refine ⟨_,_,_,rfl,fun V5 l5=>(jd (g20.le (l5)) (yk.le (l1.trans (l2.trans (l3.trans (l4.trans (l5)))))) cC bO (by omega)).mono ?_⟩
 rintro r V6 l6 g3
 have xg:=g3
 obtain ⟨Lx,Ly,Lz,rfl⟩:=g3.shape
 have fA:Sz (5*k+4) ((((aU)*(en))+((l_1)*(eo)))+(cJ)):=Sz.mono (Sz.add cC bO) (by omega)
 exact ⟨_,_,_,rfl,fun V7 l7=>(xg.le (l7))⟩
theorem iY {aU l_1 cJ en eo:Rat}{k:Nat}(bV:Sz k aU)(b_:Sz k l_1)(bO:Sz k cJ)(eW:Sz k en)(eX:Sz k eo):Sz (5*k+4) ((((aU)*(en))+((l_1)*(eo)))+(cJ)):=by
 have bw:Sz (1*k+0) (aU):=Sz.mono ((cg (Sz.mono bV (by omega):Sz (1*k+0) _) (Sz.mono b_ (by omega):Sz (1*k+0) _) (Sz.mono bO (by omega):Sz (1*k+0) _))) (by omega)
 have dK:Sz (1*k+0) (l_1):=Sz.mono ((ch (Sz.mono bV (by omega):Sz (1*k+0) _) (Sz.mono b_ (by omega):Sz (1*k+0) _) (Sz.mono bO (by omega):Sz (1*k+0) _))) (by omega)
 have cC:Sz (4*k+3) (((aU)*(en))+((l_1)*(eo))):=Sz.mono ((cA (Sz.mono bw (by omega):Sz (1*k+0) _) (Sz.mono dK (by omega):Sz (1*k+0) _) (Sz.mono eW (by omega):Sz (1*k+0) _) (Sz.mono eX (by omega):Sz (1*k+0) _))) (by omega)
 have fA:Sz (5*k+4) ((((aU)*(en))+((l_1)*(eo)))+(cJ)):=Sz.mono (Sz.add cC bO) (by omega)
 exact Sz.mono fA (by omega)
theorem kW {V:View}{l:Value}{aU l_1 cJ:Rat}(hl:ph V l aU l_1 cJ){k:Nat}(bV:Sz k aU)(b_:Sz k l_1)(bO:Sz k cJ)(hk:10*k+9<274877906944) :
  Acts prog 212 #[l] V fun r V'=>RPt V' r ((aU)*(((-(cJ))*(((aU)*(aU))+((l_1)*(l_1)))⁻¹))) ((l_1)*(((-(cJ))*(((aU)*(aU))+((l_1)*(l_1)))⁻¹))):=by
 have hl0:=hl
 obtain ⟨l0,l1,l2,l3,l4,l5,l6,l7,l8,rfl,yi,yj,yk⟩:=hl
 refine sE l0 l1 l2 l3 l4 l5 l6 l7 l8 V _ fun V1 l1=>(fF (hl0.le (l1)) (Sz.mono bV (by omega):Sz (1*k+0) _) (Sz.mono b_ (by omega):Sz (1*k+0) _) (Sz.mono bO (by omega):Sz (1*k+0) _) (by omega)).mono ?_
 rintro r V2 l2 g1
 have g10:=g1
 obtain ⟨KN,KO,KP,KQ,KR,KS,rfl,Jv,Jw⟩:=g1
 have bw:Sz (1*k+0) (aU):=Sz.mono ((cg (Sz.mono bV (by omega):Sz (1*k+0) _) (Sz.mono b_ (by omega):Sz (1*k+0) _) (Sz.mono bO (by omega):Sz (1*k+0) _))) (by omega)
 have dK:Sz (1*k+0) (l_1):=Sz.mono ((ch (Sz.mono bV (by omega):Sz (1*k+0) _) (Sz.mono b_ (by omega):Sz (1*k+0) _) (Sz.mono bO (by omega):Sz (1*k+0) _))) (by omega)
 refine ⟨_,_,_,_,_,_,rfl,fun V3 l3=>(eC (yk.le (l1.trans (l2.trans (l3)))) bO (by omega)).mono ?_⟩
 rintro r V4 l4 g2
 have g20:=g2
 obtain ⟨IX,IY,IZ,rfl⟩:=g2.shape
 have cC:Sz (1*k+0) (-(cJ)):=Sz.mono (Sz.neg bO) (by omega)
 refine ⟨_,_,_,rfl,fun V5 l5=>(ji (g10.le (l3.trans (l4.trans (l5)))) (g10.le (l3.trans (l4.trans (l5)))) (Sz.mono bw (by omega):Sz (1*k+0) _) (Sz.mono dK (by omega):Sz (1*k+0) _) (Sz.mono bw (by omega):Sz (1*k+0) _) (Sz.mono dK (by omega):Sz (1*k+0) _) (by omega)).mono ?_⟩
 rintro r V6 l6 g3
 have xg:=g3
 obtain ⟨Lx,Ly,Lz,rfl⟩:=g3.shape
 have fA:Sz (4*k+3) (((aU)*(aU))+((l_1)*(l_1))):=Sz.mono ((cA (Sz.mono bw (by omega):Sz (1*k+0) _) (Sz.mono dK (by omega):Sz (1*k+0) _) (Sz.mono bw (by omega):Sz (1*k+0) _) (Sz.mono dK (by omega):Sz (1*k+0) _))) (by omega)
 refine ⟨_,_,_,rfl,fun V7 l7=>(vH (g20.le (l5.trans (l6.trans (l7)))) (xg.le (l7)) cC fA (by omega)).mono ?_⟩
 rintro r V8 l8 g4
 have Lk:=g4
 obtain ⟨S9,S_,Ta,rfl⟩:=g4.shape
 have oA:Sz (5*k+4) ((-(cJ))*(((aU)*(aU))+((l_1)*(l_1)))⁻¹):=Sz.mono (Sz.mul cC (jH fA)) (by omega)
 refine ⟨_,_,_,rfl,fun V9 l9=>(jV (g10.le (l3.trans (l4.trans (l5.trans (l6.trans (l7.trans (l8.trans (l9)))))))) (Lk.le (l9)) (Sz.mono bw (by omega):Sz (5*k+4) _) (Sz.mono dK (by omega):Sz (5*k+4) _) (Sz.mono oA (by omega):Sz (5*k+4) _) (by omega)).mono ?_⟩
 rintro r V10 l10 g5
 have Ll:=g5
 obtain ⟨Ss,Su,Sv,Sw,Sx,Sy,rfl,L9,L_⟩:=g5
 have IB:Sz (10*k+9) ((aU)*(((-(cJ))*(((aU)*(aU))+((l_1)*(l_1)))⁻¹))):=Sz.mono ((bR (Sz.mono bw (by omega):Sz (5*k+4) _) (Sz.mono dK (by omega):Sz (5*k+4) _) (Sz.mono oA (by omega):Sz (5*k+4) _))) (by omega)
 have IC:Sz (10*k+9) ((l_1)*(((-(cJ))*(((aU)*(aU))+((l_1)*(l_1)))⁻¹))):=Sz.mono ((bS (Sz.mono bw (by omega):Sz (5*k+4) _) (Sz.mono dK (by omega):Sz (5*k+4) _) (Sz.mono oA (by omega):Sz (5*k+4) _))) (by omega)
 exact ⟨_,_,_,_,_,_,rfl,fun V11 l11=>⟨_,_,_,_,_,_,rfl,(L9.le (l11)),(L_.le (l11))⟩⟩
theorem cN {aU l_1 cJ:Rat}{k:Nat}(bV:Sz k aU)(b_:Sz k l_1)(bO:Sz k cJ):Sz (10*k+9) ((aU)*(((-(cJ))*(((aU)*(aU))+((l_1)*(l_1)))⁻¹))):=by
 have bw:Sz (1*k+0) (aU):=Sz.mono ((cg (Sz.mono bV (by omega):Sz (1*k+0) _) (Sz.mono b_ (by omega):Sz (1*k+0) _) (Sz.mono bO (by omega):Sz (1*k+0) _))) (by omega)
 have dK:Sz (1*k+0) (l_1):=Sz.mono ((ch (Sz.mono bV (by omega):Sz (1*k+0) _) (Sz.mono b_ (by omega):Sz (1*k+0) _) (Sz.mono bO (by omega):Sz (1*k+0) _))) (by omega)
 have cC:Sz (1*k+0) (-(cJ)):=Sz.mono (Sz.neg bO) (by omega)
 have fA:Sz (4*k+3) (((aU)*(aU))+((l_1)*(l_1))):=Sz.mono ((cA (Sz.mono bw (by omega):Sz (1*k+0) _) (Sz.mono dK (by omega):Sz (1*k+0) _) (Sz.mono bw (by omega):Sz (1*k+0) _) (Sz.mono dK (by omega):Sz (1*k+0) _))) (by omega)
 have oA:Sz (5*k+4) ((-(cJ))*(((aU)*(aU))+((l_1)*(l_1)))⁻¹):=Sz.mono (Sz.mul cC (jH fA)) (by omega)
 have IB:Sz (10*k+9) ((aU)*(((-(cJ))*(((aU)*(aU))+((l_1)*(l_1)))⁻¹))):=Sz.mono ((bR (Sz.mono bw (by omega):Sz (5*k+4) _) (Sz.mono dK (by omega):Sz (5*k+4) _) (Sz.mono oA (by omega):Sz (5*k+4) _))) (by omega)
 have IC:Sz (10*k+9) ((l_1)*(((-(cJ))*(((aU)*(aU))+((l_1)*(l_1)))⁻¹))):=Sz.mono ((bS (Sz.mono bw (by omega):Sz (5*k+4) _) (Sz.mono dK (by omega):Sz (5*k+4) _) (Sz.mono oA (by omega):Sz (5*k+4) _))) (by omega)
 exact Sz.mono IB (by omega)
theorem cO {aU l_1 cJ:Rat}{k:Nat}(bV:Sz k aU)(b_:Sz k l_1)(bO:Sz k cJ):Sz (10*k+9) ((l_1)*(((-(cJ))*(((aU)*(aU))+((l_1)*(l_1)))⁻¹))):=by
 have bw:Sz (1*k+0) (aU):=Sz.mono ((cg (Sz.mono bV (by omega):Sz (1*k+0) _) (Sz.mono b_ (by omega):Sz (1*k+0) _) (Sz.mono bO (by omega):Sz (1*k+0) _))) (by omega)
 have dK:Sz (1*k+0) (l_1):=Sz.mono ((ch (Sz.mono bV (by omega):Sz (1*k+0) _) (Sz.mono b_ (by omega):Sz (1*k+0) _) (Sz.mono bO (by omega):Sz (1*k+0) _))) (by omega)
 have cC:Sz (1*k+0) (-(cJ)):=Sz.mono (Sz.neg bO) (by omega)
 have fA:Sz (4*k+3) (((aU)*(aU))+((l_1)*(l_1))):=Sz.mono ((cA (Sz.mono bw (by omega):Sz (1*k+0) _) (Sz.mono dK (by omega):Sz (1*k+0) _) (Sz.mono bw (by omega):Sz (1*k+0) _) (Sz.mono dK (by omega):Sz (1*k+0) _))) (by omega)
 have oA:Sz (5*k+4) ((-(cJ))*(((aU)*(aU))+((l_1)*(l_1)))⁻¹):=Sz.mono (Sz.mul cC (jH fA)) (by omega)
 have IB:Sz (10*k+9) ((aU)*(((-(cJ))*(((aU)*(aU))+((l_1)*(l_1)))⁻¹))):=Sz.mono ((bR (Sz.mono bw (by omega):Sz (5*k+4) _) (Sz.mono dK (by omega):Sz (5*k+4) _) (Sz.mono oA (by omega):Sz (5*k+4) _))) (by omega)
 have IC:Sz (10*k+9) ((l_1)*(((-(cJ))*(((aU)*(aU))+((l_1)*(l_1)))⁻¹))):=Sz.mono ((bS (Sz.mono bw (by omega):Sz (5*k+4) _) (Sz.mono dK (by omega):Sz (5*k+4) _) (Sz.mono oA (by omega):Sz (5*k+4) _))) (by omega)
 exact Sz.mono IC (by omega)
theorem xI {V:View}{l:Value}{aU l_1 cJ:Rat}{t:Value}{sR:Rat}(hl:ph V l aU l_1 cJ)(ht:RR V t sR){k:Nat}(bV:Sz k aU)(b_:Sz k l_1)(bO:Sz k cJ)(wF:Sz k sR)(hk:20*k+19<274877906944) :
  Acts prog 210 #[l,t] V fun r V'=>RPt V' r ((((aU)*(((-(cJ))*(((aU)*(aU))+((l_1)*(l_1)))⁻¹))))+(((l_1)*(sR)))) ((((l_1)*(((-(cJ))*(((aU)*(aU))+((l_1)*(l_1)))⁻¹))))+((((-(aU)))*(sR)))):=by
 have hl0:=hl
 obtain ⟨l0,l1,l2,l3,l4,l5,l6,l7,l8,rfl,yi,yj,yk⟩:=hl
 have ht0:=ht
 obtain ⟨t0,t1,t2,rfl⟩:=ht.shape
 refine wQ l0 l1 l2 l3 l4 l5 l6 l7 l8 t0 t1 t2 V _ fun V1 l1=>(kW (hl0.le (l1)) (Sz.mono bV (by omega):Sz (1*k+0) _) (Sz.mono b_ (by omega):Sz (1*k+0) _) (Sz.mono bO (by omega):Sz (1*k+0) _) (by omega)).mono ?_
 rintro r V2 l2 g1
 have g10:=g1
 obtain ⟨KN,KO,KP,KQ,KR,KS,rfl,Jv,Jw⟩:=g1
 have bw:Sz (10*k+9) ((aU)*(((-(cJ))*(((aU)*(aU))+((l_1)*(l_1)))⁻¹))):=Sz.mono ((cN (Sz.mono bV (by omega):Sz (1*k+0) _) (Sz.mono b_ (by omega):Sz (1*k+0) _) (Sz.mono bO (by omega):Sz (1*k+0) _))) (by omega)
 have dK:Sz (10*k+9) ((l_1)*(((-(cJ))*(((aU)*(aU))+((l_1)*(l_1)))⁻¹))):=Sz.mono ((cO (Sz.mono bV (by omega):Sz (1*k+0) _) (Sz.mono b_ (by omega):Sz (1*k+0) _) (Sz.mono bO (by omega):Sz (1*k+0) _))) (by omega)
 refine ⟨_,_,_,_,_,_,rfl,fun V3 l3=>(jh (hl0.le (l1.trans (l2.trans (l3)))) (Sz.mono bV (by omega):Sz (1*k+0) _) (Sz.mono b_ (by omega):Sz (1*k+0) _) (Sz.mono bO (by omega):Sz (1*k+0) _) (by omega)).mono ?_⟩
 rintro r V4 l4 g2
 have g20:=g2
 obtain ⟨R8,R9,R_,Sa,Sb,Sc,rfl,Qy,Qz⟩:=g2
 have cC:Sz (1*k+0) (l_1):=Sz.mono ((gP (Sz.mono bV (by omega):Sz (1*k+0) _) (Sz.mono b_ (by omega):Sz (1*k+0) _) (Sz.mono bO (by omega):Sz (1*k+0) _))) (by omega)
 have xe:Sz (1*k+0) (-(aU)):=Sz.mono ((gQ (Sz.mono bV (by omega):Sz (1*k+0) _) (Sz.mono b_ (by omega):Sz (1*k+0) _) (Sz.mono bO (by omega):Sz (1*k+0) _))) (by omega)
 refine ⟨_,_,_,_,_,_,rfl,fun V5 l5=>(jV (g20.le (l5)) (ht0.le (l1.trans (l2.trans (l3.trans (l4.trans (l5)))))) (Sz.mono cC (by omega):Sz (1*k+0) _) (Sz.mono xe (by omega):Sz (1*k+0) _) (Sz.mono wF (by omega):Sz (1*k+0) _) (by omega)).mono ?_⟩
 rintro r V6 l6 g3
 have xg:=g3
 obtain ⟨Se,Sf,Sg,Si,Sj,Sk,rfl,QA,QB⟩:=g3
 have fA:Sz (2*k+1) ((l_1)*(sR)):=Sz.mono ((bR (Sz.mono cC (by omega):Sz (1*k+0) _) (Sz.mono xe (by omega):Sz (1*k+0) _) (Sz.mono wF (by omega):Sz (1*k+0) _))) (by omega)
 have xf:Sz (2*k+1) (((-(aU)))*(sR)):=Sz.mono ((bS (Sz.mono cC (by omega):Sz (1*k+0) _) (Sz.mono xe (by omega):Sz (1*k+0) _) (Sz.mono wF (by omega):Sz (1*k+0) _))) (by omega)
 refine ⟨_,_,_,_,_,_,rfl,fun V7 l7=>(vK (g10.le (l3.trans (l4.trans (l5.trans (l6.trans (l7)))))) (xg.le (l7)) (Sz.mono bw (by omega):Sz (10*k+9) _) (Sz.mono dK (by omega):Sz (10*k+9) _) (Sz.mono fA (by omega):Sz (10*k+9) _) (Sz.mono xf (by omega):Sz (10*k+9) _) (by omega)).mono ?_⟩
 rintro r V8 l8 g4
 have Lk:=g4
 obtain ⟨Sl,Sm,Sn,So,Sq,Sr,rfl,L7,L8⟩:=g4
 have oA:Sz (20*k+19) ((((aU)*(((-(cJ))*(((aU)*(aU))+((l_1)*(l_1)))⁻¹))))+(((l_1)*(sR)))):=Sz.mono ((gR (Sz.mono bw (by omega):Sz (10*k+9) _) (Sz.mono dK (by omega):Sz (10*k+9) _) (Sz.mono fA (by omega):Sz (10*k+9) _) (Sz.mono xf (by omega):Sz (10*k+9) _))) (by omega)
 have IA:Sz (20*k+19) ((((l_1)*(((-(cJ))*(((aU)*(aU))+((l_1)*(l_1)))⁻¹))))+((((-(aU)))*(sR)))):=Sz.mono ((gS (Sz.mono bw (by omega):Sz (10*k+9) _) (Sz.mono dK (by omega):Sz (10*k+9) _) (Sz.mono fA (by omega):Sz (10*k+9) _) (Sz.mono xf (by omega):Sz (10*k+9) _))) (by omega)
 exact ⟨_,_,_,_,_,_,rfl,fun V9 l9=>⟨_,_,_,_,_,_,rfl,(L7.le (l9)),(L8.le (l9))⟩⟩
theorem tX {aU l_1 cJ sR:Rat}{k:Nat}(bV:Sz k aU)(b_:Sz k l_1)(bO:Sz k cJ)(wF:Sz k sR):Sz (20*k+19) ((((aU)*(((-(cJ))*(((aU)*(aU))+((l_1)*(l_1)))⁻¹))))+(((l_1)*(sR)))):=by
 have bw:Sz (10*k+9) ((aU)*(((-(cJ))*(((aU)*(aU))+((l_1)*(l_1)))⁻¹))):=Sz.mono ((cN (Sz.mono bV (by omega):Sz (1*k+0) _) (Sz.mono b_ (by omega):Sz (1*k+0) _) (Sz.mono bO (by omega):Sz (1*k+0) _))) (by omega)
 have dK:Sz (10*k+9) ((l_1)*(((-(cJ))*(((aU)*(aU))+((l_1)*(l_1)))⁻¹))):=Sz.mono ((cO (Sz.mono bV (by omega):Sz (1*k+0) _) (Sz.mono b_ (by omega):Sz (1*k+0) _) (Sz.mono bO (by omega):Sz (1*k+0) _))) (by omega)
 have cC:Sz (1*k+0) (l_1):=Sz.mono ((gP (Sz.mono bV (by omega):Sz (1*k+0) _) (Sz.mono b_ (by omega):Sz (1*k+0) _) (Sz.mono bO (by omega):Sz (1*k+0) _))) (by omega)
 have xe:Sz (1*k+0) (-(aU)):=Sz.mono ((gQ (Sz.mono bV (by omega):Sz (1*k+0) _) (Sz.mono b_ (by omega):Sz (1*k+0) _) (Sz.mono bO (by omega):Sz (1*k+0) _))) (by omega)
 have fA:Sz (2*k+1) ((l_1)*(sR)):=Sz.mono ((bR (Sz.mono cC (by omega):Sz (1*k+0) _) (Sz.mono xe (by omega):Sz (1*k+0) _) (Sz.mono wF (by omega):Sz (1*k+0) _))) (by omega)
 have xf:Sz (2*k+1) (((-(aU)))*(sR)):=Sz.mono ((bS (Sz.mono cC (by omega):Sz (1*k+0) _) (Sz.mono xe (by omega):Sz (1*k+0) _) (Sz.mono wF (by omega):Sz (1*k+0) _))) (by omega)
 have oA:Sz (20*k+19) ((((aU)*(((-(cJ))*(((aU)*(aU))+((l_1)*(l_1)))⁻¹))))+(((l_1)*(sR)))):=Sz.mono ((gR (Sz.mono bw (by omega):Sz (10*k+9) _) (Sz.mono dK (by omega):Sz (10*k+9) _) (Sz.mono fA (by omega):Sz (10*k+9) _) (Sz.mono xf (by omega):Sz (10*k+9) _))) (by omega)
 have IA:Sz (20*k+19) ((((l_1)*(((-(cJ))*(((aU)*(aU))+((l_1)*(l_1)))⁻¹))))+((((-(aU)))*(sR)))):=Sz.mono ((gS (Sz.mono bw (by omega):Sz (10*k+9) _) (Sz.mono dK (by omega):Sz (10*k+9) _) (Sz.mono fA (by omega):Sz (10*k+9) _) (Sz.mono xf (by omega):Sz (10*k+9) _))) (by omega)
 exact Sz.mono oA (by omega)
theorem tY {aU l_1 cJ sR:Rat}{k:Nat}(bV:Sz k aU)(b_:Sz k l_1)(bO:Sz k cJ)(wF:Sz k sR):Sz (20*k+19) ((((l_1)*(((-(cJ))*(((aU)*(aU))+((l_1)*(l_1)))⁻¹))))+((((-(aU)))*(sR)))):=by
 have bw:Sz (10*k+9) ((aU)*(((-(cJ))*(((aU)*(aU))+((l_1)*(l_1)))⁻¹))):=Sz.mono ((cN (Sz.mono bV (by omega):Sz (1*k+0) _) (Sz.mono b_ (by omega):Sz (1*k+0) _) (Sz.mono bO (by omega):Sz (1*k+0) _))) (by omega)
 have dK:Sz (10*k+9) ((l_1)*(((-(cJ))*(((aU)*(aU))+((l_1)*(l_1)))⁻¹))):=Sz.mono ((cO (Sz.mono bV (by omega):Sz (1*k+0) _) (Sz.mono b_ (by omega):Sz (1*k+0) _) (Sz.mono bO (by omega):Sz (1*k+0) _))) (by omega)
 have cC:Sz (1*k+0) (l_1):=Sz.mono ((gP (Sz.mono bV (by omega):Sz (1*k+0) _) (Sz.mono b_ (by omega):Sz (1*k+0) _) (Sz.mono bO (by omega):Sz (1*k+0) _))) (by omega)
 have xe:Sz (1*k+0) (-(aU)):=Sz.mono ((gQ (Sz.mono bV (by omega):Sz (1*k+0) _) (Sz.mono b_ (by omega):Sz (1*k+0) _) (Sz.mono bO (by omega):Sz (1*k+0) _))) (by omega)
 have fA:Sz (2*k+1) ((l_1)*(sR)):=Sz.mono ((bR (Sz.mono cC (by omega):Sz (1*k+0) _) (Sz.mono xe (by omega):Sz (1*k+0) _) (Sz.mono wF (by omega):Sz (1*k+0) _))) (by omega)
 have xf:Sz (2*k+1) (((-(aU)))*(sR)):=Sz.mono ((bS (Sz.mono cC (by omega):Sz (1*k+0) _) (Sz.mono xe (by omega):Sz (1*k+0) _) (Sz.mono wF (by omega):Sz (1*k+0) _))) (by omega)
 have oA:Sz (20*k+19) ((((aU)*(((-(cJ))*(((aU)*(aU))+((l_1)*(l_1)))⁻¹))))+(((l_1)*(sR)))):=Sz.mono ((gR (Sz.mono bw (by omega):Sz (10*k+9) _) (Sz.mono dK (by omega):Sz (10*k+9) _) (Sz.mono fA (by omega):Sz (10*k+9) _) (Sz.mono xf (by omega):Sz (10*k+9) _))) (by omega)
 have IA:Sz (20*k+19) ((((l_1)*(((-(cJ))*(((aU)*(aU))+((l_1)*(l_1)))⁻¹))))+((((-(aU)))*(sR)))):=Sz.mono ((gS (Sz.mono bw (by omega):Sz (10*k+9) _) (Sz.mono dK (by omega):Sz (10*k+9) _) (Sz.mono fA (by omega):Sz (10*k+9) _) (Sz.mono xf (by omega):Sz (10*k+9) _))) (by omega)
 exact Sz.mono IA (by omega)
end Go.Proofs.Tryz
namespace Go.Proofs.Tryz
open Go.Eng
set_option maxRecDepth 100000
end Go.Proofs.Tryz
namespace Go.Proofs.Tryz
open Go.Eng Go.Big
theorem RA.shape {V:View}{v:Value}{q:Rat}(h:RA V v q):∃b p n c p' n' c',v=.agg #[.bool b,.slice p n c,.slice p' n' c']:=by
 obtain ⟨p,n,c,p',n',c',e,-⟩:=h;exact ⟨_,_,_,_,_,_,_,e⟩
def I1 (V:View)(v:Value)(x y:Rat):Prop:=∃b p n c p' n' c' d q m e q' m' e',v=.agg #[.bool b,.slice p n c,.slice p' n' c',.bool d,.slice q m e,.slice q' m' e'] /\
 RA V (.agg #[.bool b,.slice p n c,.slice p' n' c']) x/\RA V (.agg #[.bool d,.slice q m e,.slice q' m' e']) y
theorem I1.le {V V':View}{v:Value}{x y:Rat}(h:I1 V v x y)(l:V.Le V'):I1 V' v x y:=by
 obtain ⟨b,p,n,c,p',n',c',d,q,m,e,q',m',e',rfl,h1,h2⟩:=h
 exact ⟨_,_,_,_,_,_,_,_,_,_,_,_,_,_,rfl,h1.le l,h2.le l⟩
theorem Ae {V:View}{v:Value}{x y:Rat}(h:I1 V v x y){k:Nat}(s1:Sz k x)(s2:Sz k y)(hk:k<=1099511627776) :
  Acts prog 51 #[v] V fun r V'=>RPt V' r x y:=by
 obtain ⟨b,p,n,c,p',n',c',d,q,m,e,q',m',e',rfl,h1,h2⟩:=h
 refine pf b p n c p' n' c' d q m e q' m' e' V _ fun V1 l1=>(ux (h1.le l1) s1 hk).mono ?_
 rintro r V2 l2 g1
 have g10:=g1
 obtain ⟨u,v,w,rfl⟩:=g1.shape
 refine ⟨_,_,_,rfl,fun V3 l3=>(ux (h2.le (l1.trans (l2.trans l3))) s2 hk).mono ?_⟩
 rintro r V4 l4 g2
 have g20:=g2
 obtain ⟨u,v,w,rfl⟩:=g2.shape
 exact ⟨_,_,_,rfl,fun V5 l5=>⟨_,_,_,_,_,_,rfl,g10.le (l3.trans (l4.trans l5)),g20.le l5⟩⟩
theorem s_ {V:View}{l p:Value}{aU l_1 cJ en eo:Rat}(hl:ph V l aU l_1 cJ)(hp:RPt V p en eo){k:Nat}(s0:Sz k aU)(s1:Sz k l_1)(s2:Sz k cJ)(s3:Sz k en)(s4:Sz k eo)(hk:16*k+16<274877906944) :
  Acts prog 106 #[l,p] V fun r V'=>r=.int .i64 (aU*en+l_1*eo+cJ).num.sign:=by
 have hl0:=hl
 have hp0:=hp
 obtain ⟨a0,a1,a2,a3,a4,a5,a6,a7,a8,rfl,-,-,-⟩:=hl
 obtain ⟨p0,p1,p2,p3,p4,p5,rfl,-,-⟩:=hp
 refine sF a0 a1 a2 a3 a4 a5 a6 a7 a8 p0 p1 p2 p3 p4 p5 V _ fun V1 l1=>(jU (hl0.le l1) (hp0.le l1) s0 s1 s2 s3 s4 (by omega)).mono ?_
 rintro r V2 l2 g
 have g0:=g
 obtain ⟨u,v,w,rfl⟩:=g.shape
 refine ⟨_,_,_,rfl,fun V3 l3=>(eF (g0.le l3) (iY s0 s1 s2 s3 s4) (by omega)).mono ?_⟩
 rintro r V4 l4 rfl
 exact ⟨_,rfl,fun V5 l5=>rfl⟩
end Go.Proofs.Tryz
namespace Go.Proofs.Tryz
open Go.Eng
set_option maxRecDepth 100000
end Go.Proofs.Tryz
namespace Go.Proofs.Tryz
open Go.Eng Go.Big
end Go.Proofs.Tryz
namespace Go.Eng
open Go.Big
theorem RR.zero (V:View):RR V (.agg #[.int .i64 0,.int .i64 0,.pointer none]) 0:=.inl ⟨rfl,by unfold Wd;decide⟩
end Go.Eng
namespace Go.Proofs.Tryz
open Go.Eng Go.Big
structure Sp where
 lo:Rat
 hi:Rat
 a:Bool
 b:Bool
def Sp.can (s:Sp):Prop:=(s.a=true->s.lo=0)/\(s.b=true->s.hi=0)
def Sp.sz (k:Nat)(s:Sp):Prop:=Sz k s.lo/\Sz k s.hi
def Sp.zero:Sp:=⟨0,0,false,false⟩
def kU (k:Nat)(l:L3):Prop:=Sz k (l.1:Rat)/\Sz k (l.2.1:Rat)/\Sz k (l.2.2:Rat)
def xl (V:View)(v:Value)(s:Sp):Prop:=∃(x1 x2:Int)(p:OA)(y1 y2:Int)(q:OA),v=.agg #[.int .i64 x1,.int .i64 x2,.pointer p,.int .i64 y1,.int .i64 y2,.pointer q,.bool s.a,.bool s.b] /\
 RR V (.agg #[.int .i64 x1,.int .i64 x2,.pointer p]) s.lo/\RR V (.agg #[.int .i64 y1,.int .i64 y2,.pointer q]) s.hi
theorem xl.le {V V':View}{v:Value}{s:Sp}(h:xl V v s)(l:V.Le V'):xl V' v s:=by
 obtain ⟨x1,x2,p,y1,y2,q,e,h1,h2⟩:=h
 exact ⟨x1,x2,p,y1,y2,q,e,h1.le l,h2.le l⟩
def RLi (V:View)(v:Value)(l:L3):Prop:=ph V v (l.1:Rat) (l.2.1:Rat) (l.2.2:Rat)
theorem RLi.le {V V':View}{v:Value}{l:L3}(h:RLi V v l)(e:V.Le V'):RLi V' v l:=ph.le h e
def Dn (V:View)(v:Value)(l:L3)(s:Sp):Prop:=∃(x1 x2:Int)(p:OA)(y1 y2:Int)(q:OA)(z1 z2:Int)(r:OA)(u1 u2:Int)(t:OA)(w1 w2:Int)(o:OA),
 v=.agg #[.int .i64 x1,.int .i64 x2,.pointer p,.int .i64 y1,.int .i64 y2,.pointer q,.int .i64 z1,.int .i64 z2,.pointer r,.int .i64 u1,.int .i64 u2,.pointer t,.int .i64 w1,.int .i64 w2,.pointer o,.bool s.a,.bool s.b] /\
 RLi V (.agg #[.int .i64 x1,.int .i64 x2,.pointer p,.int .i64 y1,.int .i64 y2,.pointer q,.int .i64 z1,.int .i64 z2,.pointer r]) l /\
 xl V (.agg #[.int .i64 u1,.int .i64 u2,.pointer t,.int .i64 w1,.int .i64 w2,.pointer o,.bool s.a,.bool s.b]) s
theorem Dn.le {V V':View}{v:Value}{l:L3}{s:Sp}(h:Dn V v l s)(e:V.Le V'):Dn V' v l s:=by
 obtain ⟨x1,x2,p,y1,y2,q,z1,z2,r,u1,u2,t,w1,w2,o,rfl,h1,h2⟩:=h
 exact ⟨x1,x2,p,y1,y2,q,z1,z2,r,u1,u2,t,w1,w2,o,rfl,h1.le e,h2.le e⟩
def Ft (V:View)(v:Value)(b:Bool)(xs ys:List Nat):Prop:=∃p n c p' n' c',v=.agg #[.bool b,.slice p n c,.slice p' n' c']/\RD V p n c xs/\RD V p' n' c' ys
theorem Ft.le {V V':View}{v:Value}{b:Bool}{xs ys:List Nat}(h:Ft V v b xs ys)(l:V.Le V'):Ft V' v b xs ys:=by
 obtain ⟨p,n,c,p',n',c',e,h1,h2⟩:=h;exact ⟨p,n,c,p',n',c',e,h1.le l,h2.le l⟩
theorem Ft.nil {V:View}:Ft V (.agg #[.bool false,.slice none 0 0,.slice none 0 0]) false [] []:=⟨_,_,_,_,_,_,rfl,RD.nil,RD.nil⟩
def RE (V:View)(v:Value)(q:Rat)(no:Bool):Prop:=(no=true->Ft V v false [] [])/\(no=false->RA V v q)
theorem RE.le {V V':View}{v:Value}{q:Rat}{no:Bool}(h:RE V v q no)(l:V.Le V'):RE V' v q no:=⟨fun e=>(h.1 e).le l,fun e=>(h.2 e).le l⟩
theorem RE.shape {V:View}{v:Value}{q:Rat}{no:Bool}(h:RE V v q no):∃b p n c p' n' c',v=.agg #[.bool b,.slice p n c,.slice p' n' c']:=by
 cases no with
 | true=>obtain ⟨_,_,_,_,_,_,e,-⟩:=h.1 rfl;exact ⟨_,_,_,_,_,_,_,e⟩
 | false=>exact (h.2 rfl).shape
def K_ (V:View)(v:Value)(s:Sp):Prop:=∃b p n c p' n' c' d q m e q' m' e',v=.agg #[.bool b,.slice p n c,.slice p' n' c',.bool d,.slice q m e,.slice q' m' e',.bool s.a,.bool s.b] /\
 RE V (.agg #[.bool b,.slice p n c,.slice p' n' c']) s.lo s.a/\RE V (.agg #[.bool d,.slice q m e,.slice q' m' e']) s.hi s.b
theorem K_.le {V V':View}{v:Value}{s:Sp}(h:K_ V v s)(l:V.Le V'):K_ V' v s:=by
 obtain ⟨b,p,n,c,p',n',c',d,q,m,e,q',m',e',rfl,h1,h2⟩:=h
 exact ⟨_,_,_,_,_,_,_,_,_,_,_,_,_,_,rfl,h1.le l,h2.le l⟩
def ID (V:View)(v:Value)(l:L3)(s:Sp):Prop:=∃b1 p1 n1 c1 b2 p2 n2 c2 b3 p3 n3 c3 b p n c p' n' c' d q m e q' m' e',
 v=.agg #[.bool b1,.slice p1 n1 c1,.bool b2,.slice p2 n2 c2,.bool b3,.slice p3 n3 c3,.bool b,.slice p n c,.slice p' n' c',.bool d,.slice q m e,.slice q' m' e',.bool s.a,.bool s.b] /\
 RL V (.agg #[.bool b1,.slice p1 n1 c1,.bool b2,.slice p2 n2 c2,.bool b3,.slice p3 n3 c3]) l.1 l.2.1 l.2.2/\K_ V (.agg #[.bool b,.slice p n c,.slice p' n' c',.bool d,.slice q m e,.slice q' m' e',.bool s.a,.bool s.b]) s
theorem ID.le {V V':View}{v:Value}{l:L3}{s:Sp}(h:ID V v l s)(e:V.Le V'):ID V' v l s:=by
 obtain ⟨b1,p1,n1,c1,b2,p2,n2,c2,b3,p3,n3,c3,b,p,n,c,p',n',c',d,q,m,f,q',m',f',rfl,h1,h2⟩:=h
 exact ⟨_,_,_,_,_,_,_,_,_,_,_,_,_,_,_,_,_,_,_,_,_,_,_,_,_,_,rfl,h1.le e,h2.le e⟩
def I3 (V:View)(v:Value)(s:Sp):Prop:=∃b p n c p' n' c' d q m e q' m' e',v=.agg #[.bool b,.slice p n c,.slice p' n' c',.bool d,.slice q m e,.slice q' m' e',.bool s.a,.bool s.b] /\
 RQ V (.agg #[.bool b,.slice p n c,.slice p' n' c']) s.lo/\RQ V (.agg #[.bool d,.slice q m e,.slice q' m' e']) s.hi
theorem I3.le {V V':View}{v:Value}{s:Sp}(h:I3 V v s)(l:V.Le V'):I3 V' v s:=by
 obtain ⟨b,p,n,c,p',n',c',d,q,m,e,q',m',e',rfl,h1,h2⟩:=h
 exact ⟨_,_,_,_,_,_,_,_,_,_,_,_,_,_,rfl,h1.le l,h2.le l⟩
def RF (V:View)(v:Value)(l:L3)(s:Sp):Prop:=∃b1 p1 n1 c1 b2 p2 n2 c2 b3 p3 n3 c3 b p n c p' n' c' d q m e q' m' e',
 v=.agg #[.bool b1,.slice p1 n1 c1,.bool b2,.slice p2 n2 c2,.bool b3,.slice p3 n3 c3,.bool b,.slice p n c,.slice p' n' c',.bool d,.slice q m e,.slice q' m' e',.bool s.a,.bool s.b] /\
 RL V (.agg #[.bool b1,.slice p1 n1 c1,.bool b2,.slice p2 n2 c2,.bool b3,.slice p3 n3 c3]) l.1 l.2.1 l.2.2/\I3 V (.agg #[.bool b,.slice p n c,.slice p' n' c',.bool d,.slice q m e,.slice q' m' e',.bool s.a,.bool s.b]) s
theorem RF.le {V V':View}{v:Value}{l:L3}{s:Sp}(h:RF V v l s)(e:V.Le V'):RF V' v l s:=by
 obtain ⟨b1,p1,n1,c1,b2,p2,n2,c2,b3,p3,n3,c3,b,p,n,c,p',n',c',d,q,m,f,q',m',f',rfl,h1,h2⟩:=h
 exact ⟨_,_,_,_,_,_,_,_,_,_,_,_,_,_,_,_,_,_,_,_,_,_,_,_,_,_,rfl,h1.le e,h2.le e⟩
def aj (l:L3)(x y:Rat):Rat:=(l.1:Rat)*x+(l.2.1:Rat)*y+(l.2.2:Rat)
def fO (l:L3):Rat:=(l.1:Rat)*(l.1:Rat)+(l.2.1:Rat)*(l.2.1:Rat)
def EL (l:L3)(x y:Rat):Rat:=((l.2.1:Rat)*x-(l.1:Rat)*y)*(fO l)⁻¹
def fC (l:L3)(t:Rat):Rat:=(l.2.1:Rat)*t-(l.1:Rat)*(l.2.2:Rat)*(fO l)⁻¹
def fD (l:L3)(t:Rat):Rat:=-((l.1:Rat)*t)-(l.2.1:Rat)*(l.2.2:Rat)*(fO l)⁻¹
def revL (l:L3):L3:=(-l.1,-l.2.1,-l.2.2)
def Sp.neg (s:Sp):Sp:=⟨if s.b then 0 else -s.hi,if s.a then 0 else -s.lo,s.b,s.a⟩
def Sp.emp (s:Sp):Bool:=!s.a&&!s.b&&decide (fu s.lo s.hi≥0)
def Nz (l:L3):Prop:=¬(l.1=0/\l.2.1=0)
theorem sq_nonneg (x:Int):0<=x*x:=by
 rw [←Int.natAbs_mul_self];exact Int.natCast_nonneg _
theorem Ex (l:L3):fO l=((l.1*l.1+l.2.1*l.2.1:Int):Rat):=by unfold fO;simp
theorem Nz.norm {l:L3}(h:Nz l):fO l≠0:=by
 rw [Ex]
 have h1:=sq_nonneg l.1
 have h2:=sq_nonneg l.2.1
 have h3:l.1*l.1+l.2.1*l.2.1≠0:=by
  intro e
  have e1:l.1*l.1=0:=by omega
  have e2:l.2.1*l.2.1=0:=by omega
  exact h ⟨(Int.mul_eq_zero.1 e1).elim id id,(Int.mul_eq_zero.1 e2).elim id id⟩
 exact_mod_cast h3
theorem MO {V:View}{l t:Value}{L:L3}{x:Rat}(hl:RLi V l L)(ht:RR V t x){k:Nat}(sl:kU k L)(s1:Sz k x)(hk:20*k+19<274877906944) :
  Acts prog 210 #[l,t] V fun r V'=>RPt V' r (fC L x) (fD L x):=by
 refine (xI hl ht sl.1 sl.2.1 sl.2.2 s1 hk).mono ?_
 rintro r V2 l2 g
 have e1:fC L x=((L.1:Rat)*((-(L.2.2:Rat))*((L.1:Rat)*(L.1:Rat)+(L.2.1:Rat)*(L.2.1:Rat))⁻¹))+((L.2.1:Rat)*x):=by unfold fC fO;grind
 have e2:fD L x=((L.2.1:Rat)*((-(L.2.2:Rat))*((L.1:Rat)*(L.1:Rat)+(L.2.1:Rat)*(L.2.1:Rat))⁻¹))+((-(L.1:Rat))*x):=by unfold fD fO;grind
 rw [e1,e2];exact g
theorem Iv {L:L3}{x:Rat}{k:Nat}(sl:kU k L)(s1:Sz k x):Sz (20*k+19) (fC L x):=by
 have e1:fC L x=((L.1:Rat)*((-(L.2.2:Rat))*((L.1:Rat)*(L.1:Rat)+(L.2.1:Rat)*(L.2.1:Rat))⁻¹))+((L.2.1:Rat)*x):=by unfold fC fO;grind
 rw [e1];exact tX sl.1 sl.2.1 sl.2.2 s1
theorem Iw {L:L3}{x:Rat}{k:Nat}(sl:kU k L)(s1:Sz k x):Sz (20*k+19) (fD L x):=by
 have e2:fD L x=((L.2.1:Rat)*((-(L.2.2:Rat))*((L.1:Rat)*(L.1:Rat)+(L.2.1:Rat)*(L.2.1:Rat))⁻¹))+((-(L.1:Rat))*x):=by unfold fD fO;grind
 rw [e2];exact tY sl.1 sl.2.1 sl.2.2 s1
theorem H4 {V:View}{l p:Value}{L:L3}{x y:Rat}(hl:RLi V l L)(hp:RPt V p x y){k:Nat}(sl:kU k L)(s1:Sz k x)(s2:Sz k y)(hk:16*k+16<274877906944) :
  Acts prog 106 #[l,p] V fun r V'=>r=.int .i64 (aj L x y).num.sign:=s_ hl hp sl.1 sl.2.1 sl.2.2 s1 s2 hk
theorem k_Reverse {V:View}{l:Value}{L:L3}(hl:RLi V l L){k:Nat}(sl:kU k L)(hk:1*k+1<274877906944) :
  Acts prog 198 #[l] V fun r V'=>RLi V' r (revL L):=by
 refine (nG hl sl.1 sl.2.1 sl.2.2 hk).mono ?_
 rintro r V2 l2 g
 unfold RLi revL
 simpa using g
theorem kU.rev {k:Nat}{L:L3}(h:kU k L):kU k (revL L):=by
 unfold kU revL
 simp only [Rat.intCast_neg]
 exact ⟨h.1.neg,h.2.1.neg,h.2.2.neg⟩
structure LJ (V:View) (vs:List Value) (i:Int) (f a b c:Rat):Prop where
 h0:0<=i
 h3:i<=3
 row:∃(x1 x2:Int)(p:OA)(y1 y2:Int)(q:OA)(z1 z2:Int)(r:OA),vs=[.int .i64 x1,.int .i64 x2,.pointer p,.int .i64 y1,.int .i64 y2,.pointer q,.int .i64 z1,.int .i64 z2,.pointer r] /\
  RR V (.agg #[.int .i64 x1,.int .i64 x2,.pointer p]) (if 0<i then a*f else a)/\RR V (.agg #[.int .i64 y1,.int .i64 y2,.pointer q]) (if 1<i then b*f else b)/\RR V (.agg #[.int .i64 z1,.int .i64 z2,.pointer r]) (if 2<i then c*f else c)
theorem LJ.le {V V':View}{vs:List Value}{i:Int}{f a b c:Rat}(h:LJ V vs i f a b c)(l:V.Le V'):LJ V' vs i f a b c:=by
 obtain ⟨h0,h3,x1,x2,p,y1,y2,q,z1,z2,r,e,g1,g2,g3⟩:=h
 exact ⟨h0,h3,x1,x2,p,y1,y2,q,z1,z2,r,e,g1.le l,g2.le l,g3.le l⟩
def Iq (b:Bool)(xs ys:List Nat):Rat:=mkRat (aO b xs) (val ys)
def Ib (b:Bool)(xs ys:List Nat):Bool:=jM b xs&&decide (af (val ys)=ys)&&!decide (ys=[])&&decide (Nat.gcd (val xs) (val ys)=1)
def NX (b:Bool)(xs ys:List Nat):Bool:=!b&&decide (xs=[])&&decide (ys=[])
def HD (b:Bool)(xs ys:List Nat)(no:Bool):Rat:=if no then 0 else Iq b xs ys
def DT (b:Bool)(xs ys:List Nat)(no:Bool):Bool:=if no then NX b xs ys else Ib b xs ys
theorem BQ {q:Rat}:Ib (decide (q.num<0)) (af q.num.natAbs) (af q.den)=true/\Iq (decide (q.num<0)) (af q.num.natAbs) (af q.den)=q:=by
 constructor
 ·unfold Ib
  have h1:jM (decide (q.num<0)) (af q.num.natAbs)=true:=by
   unfold jM
   rw [ab]
   by_cases h:q.num<0
   ·have:af q.num.natAbs≠[]:=fun e=>by have:=bf.1 e;omega
    simp [h,this]
   ·simp [h]
  have h2:af q.den≠[]:=fun e=>q.den_nz (bf.1 e)
  rw [h1,ab,ab]
  simp [h2,q.reduced]
 ·unfold Iq
  rw [aA,ab,Rat.mkRat_self]
theorem Aa {V:View}{v:Value}{s:Sp}(h:xl V v s){k:Nat}(hs:s.sz k)(hk:2*k<1099511627776) :
  Acts prog 202 #[v] V fun r V'=>r=.bool s.emp:=by
 obtain ⟨x1,x2,p,y1,y2,q,rfl,h1,h2⟩:=h
 refine pG x1 x2 p y1 y2 q s.a s.b V _ ⟨fun ha=>⟨fun hb V1 l1=>(je (h1.le l1) (h2.le l1) hs.1 hs.2 (by omega)).mono ?_,fun hb V4 l4=>?_⟩,fun ha V5 l5=>?_⟩
 ·rintro r V2 l2 rfl
  exact ⟨_,rfl,fun V3 l3=>by rw [Bool.not_eq_true'] at ha hb;simp [Sp.emp,ha,hb]⟩
 ·rw [Bool.not_eq_false'] at hb;simp [Sp.emp,hb]
 ·rw [Bool.not_eq_false'] at ha;simp [Sp.emp,ha]
def La (V:View)(v:Value)(b1:Bool)(GA GD:List Nat)(b2:Bool)(GC GG:List Nat)(na nb:Bool):Prop:=∃p n c p' n' c' q m e q' m' e',v=.agg #[.bool b1,.slice p n c,.slice p' n' c',.bool b2,.slice q m e,.slice q' m' e',.bool na,.bool nb] /\
 Ft V (.agg #[.bool b1,.slice p n c,.slice p' n' c']) b1 GA GD/\Ft V (.agg #[.bool b2,.slice q m e,.slice q' m' e']) b2 GC GG
theorem La.le {V V':View}{v:Value}{b1:Bool}{GA GD:List Nat}{b2:Bool}{GC GG:List Nat}{na nb:Bool}(h:La V v b1 GA GD b2 GC GG na nb)(l:V.Le V'):La V' v b1 GA GD b2 GC GG na nb:=by
 obtain ⟨p,n,c,p',n',c',q,m,e,q',m',e',rfl,h1,h2⟩:=h
 exact ⟨_,_,_,_,_,_,_,_,_,_,_,_,rfl,h1.le l,h2.le l⟩
def KI (b1:Bool)(GA GD:List Nat)(b2:Bool)(GC GG:List Nat)(na nb:Bool):Sp:=⟨HD b1 GA GD na,HD b2 GC GG nb,na,nb⟩
def okW (b1:Bool)(GA GD:List Nat)(b2:Bool)(GC GG:List Nat)(na nb:Bool):Bool:=DT b1 GA GD na&&DT b2 GC GG nb&&!(KI b1 GA GD b2 GC GG na nb).emp
def PE (l:L3)(s:Sp):Prop:=okL l=true/\s.can/\s.emp=false
theorem RE.raw {V:View}{v:Value}{q:Rat}{no:Bool}(h:RE V v q no)(hc:no=true->q=0):∃b xs ys,Ft V v b xs ys/\DT b xs ys no=true/\HD b xs ys no=q/\(∀k,Sz k q->xs.length<=k/\ys.length<=k):=by
 cases no with
 | true=>
  exact ⟨false,[],[],h.1 rfl,rfl,by rw [hc rfl];rfl,fun k _=>⟨Nat.zero_le _,Nat.zero_le _⟩⟩
 | false=>
  obtain ⟨p,n,c,p',n',c',rfl,h1,h2⟩:=h.2 rfl
  exact ⟨_,_,_,⟨_,_,_,_,_,_,rfl,h1,h2⟩,BQ.1,BQ.2,fun k hk=>⟨ae hk.1,ae hk.2⟩⟩
theorem RLi.api {V:View}{r:Value}{l:L3}(h:RL V r ((l.1:Rat)).num ((l.2.1:Rat)).num ((l.2.2:Rat)).num):RL V r l.1 l.2.1 l.2.2:=by
 simpa [Rat.num_intCast] using h
theorem Sp.Ia {s:Sp}{k:Nat}(h:s.sz k):s.neg.sz k:=by
 unfold Sp.neg Sp.sz
 have z:Sz k (0:Rat):=by
  have:=h.1.2
  refine ⟨Nat.lt_of_le_of_lt (Nat.zero_le _) this,?_⟩
  exact Nat.lt_of_le_of_lt (Nat.pos_of_ne_zero s.lo.den_nz) this
 constructor
 ·dsimp only;split
  ·exact z
  ·exact h.2.neg
 ·dsimp only;split
  ·exact z
  ·exact h.1.neg
theorem DI {V:View}{v:Value}{s:Sp}(h:xl V v s){k:Nat}(hs:s.sz k)(hk:k<=1099511627776):Acts prog 199 #[v] V fun r V'=>xl V' r s.neg:=by
 obtain ⟨x1,x2,p,y1,y2,q,rfl,h1,h2⟩:=h
 have t:∀{V:View} {v:Value} {x:Rat} {no:Bool},RR V v (-x)->(!no)=true->RR V v (if no=true then 0 else -x):=fun h e=>by
  rw [Bool.not_eq_true'] at e;rw [e];exact h
 have f:∀{V:View} {x:Rat} {no:Bool},(!no)=false->RR V (.agg #[.int .i64 0,.int .i64 0,.pointer none]) (if no=true then 0 else -x):=fun e=>by
  rw [Bool.not_eq_false'] at e;rw [e];exact RR.zero _
 refine tK x1 x2 p y1 y2 q s.a s.b V _ ⟨fun ha V1 l1=>(eC (h2.le l1) hs.2 hk).mono ?_,fun ha=>⟨fun hb V7 l7=>(eC (h1.le l7) hs.1 hk).mono ?_,fun hb V10 l10=>?_⟩⟩
 ·rintro r V2 l2 g1
  have g10:=g1
  obtain ⟨_,_,_,rfl⟩:=g1.shape
  refine ⟨_,_,_,rfl,fun hb V3 l3=>(eC (h1.le (l1.trans (l2.trans l3))) hs.1 hk).mono ?_,fun hb V6 l6=>?_⟩
  ·rintro r V4 l4 g2
   have g20:=g2
   obtain ⟨_,_,_,rfl⟩:=g2.shape
   exact ⟨_,_,_,rfl,fun V5 l5=>⟨_,_,_,_,_,_,rfl,t (g10.le (l3.trans (l4.trans l5))) ha,t (g20.le l5) hb⟩⟩
  ·exact ⟨_,_,_,_,_,_,rfl,t (g10.le l6) ha,f hb⟩
 ·rintro r V8 l8 g2
  have g20:=g2
  obtain ⟨_,_,_,rfl⟩:=g2.shape
  exact ⟨_,_,_,rfl,fun V9 l9=>⟨_,_,_,_,_,_,rfl,f ha,t (g20.le l9) hb⟩⟩
 ·exact ⟨_,_,_,_,_,_,rfl,f ha,f hb⟩
def AD (x y:Rat):Rat:=if 0<fu y x then y else x
def AG (x y:Rat):Rat:=if fu y x<0 then y else x
theorem vN (x y:Rat):(x<y/\fu x y=-1)\/(x=y/\fu x y=0)\/(y<x/\fu x y=1):=by
 by_cases h1:x<y
 ·exact .inl ⟨h1,BD.1 h1⟩
 ·by_cases h2:x=y
  ·exact .inr (.inl ⟨h2,js.1 h2⟩)
  ·have h3:y<x:=by grind
   exact .inr (.inr ⟨h3,BC.1 h3⟩)
theorem Sp.mu {s:Sp}:s.emp=false↔(s.a=true\/s.b=true\/s.lo<s.hi):=by
 unfold Sp.emp
 rcases vN s.lo s.hi with ⟨h,e⟩|⟨h,e⟩|⟨h,e⟩<;>rw [e]<;>cases s.a<;>cases s.b<;>simp<;>grind
def Sp.meet (v w:Sp):Sp:=⟨if v.a then w.lo else if w.a then v.lo else AD v.lo w.lo,if v.b then w.hi else if w.b then v.hi else AG v.hi w.hi,if v.a then w.a else false,if v.b then w.b else false⟩
theorem Sp.yA {v w:Sp}(h1:v.can)(h2:w.can):(v.meet w).can:=by
 unfold Sp.meet
 constructor<;>dsimp only
 ·cases hv:v.a with
  | false=>intro h;cases h
  | true=>exact fun h=>h2.1 h
 ·cases hv:v.b with
  | false=>intro h;cases h
  | true=>exact fun h=>h2.2 h
def Sp.df (s:Sp):Rat:=if s.a then (if s.b then 0 else s.hi-((1:Int):Rat)) else if s.b then s.lo+((1:Int):Rat) else (s.lo+s.hi)*((2:Int):Rat)⁻¹
theorem Sp.BZ {s:Sp}(h:s.emp=false):(s.a=false->s.lo<s.df)/\(s.b=false->s.df<s.hi):=by
 rw [Sp.mu] at h
 unfold Sp.df
 cases ha:s.a<;>cases hb:s.b<;>simp [ha,hb] at h⊢<;> grind
def gU (m l:L3):Rat:=((m.1:Rat)*(l.2.1:Rat))+((m.2.1:Rat)*(-(l.1:Rat)))
def jR (m l:L3):Rat:=aj m (fC l 0) (fD l 0)
theorem sk (m l:L3)(t:Rat):aj m (fC l t) (fD l t)=jR m l+gU m l*t:=by
 unfold jR aj gU fC fD;grind
def eT (m l:L3):Rat:=-(jR m l*(gU m l)⁻¹)
def eJ (l:L3)(s:Sp)(m:L3):Sp:=
 if (gU m l).num.sign==0 then s else if (gU m l).num.sign==1 then s.meet ⟨eT m l,0,false,true⟩ else s.meet ⟨0,eT m l,true,false⟩
def eI (l:L3)(s:Sp)(m:L3):Bool:=
 if (gU m l).num.sign==0 then decide ((jR m l).num.sign>0) else !(eJ l s m).emp
theorem qe (q:Rat):(q=0/\q.num.sign=0)\/(0<q/\q.num.sign=1)\/(q<0/\q.num.sign=-1):=by
 have h1:=@yF q
 have h2:=@yG q
 have h3:=@Rat.num_eq_zero q
 rcases Int.lt_trichotomy q.num 0 with h|h|h
 ·exact .inr (.inr ⟨h1.1 h,Int.sign_eq_neg_one_of_neg h⟩)
 ·exact .inl ⟨h3.1 h,by rw [h];rfl⟩
 ·exact .inr (.inl ⟨h2.1 h,Int.sign_eq_one_of_pos h⟩)
theorem DP {l:L3}{s:Sp}{m:L3}(he:s.emp=false)(hb:eI l s m=true):(eJ l s m).emp=false:=by
 unfold eI at hb
 split at hb
 ·rename_i h
  unfold eJ
  rw [if_pos h];exact he
 ·simpa using hb
theorem DQ {l:L3}{s:Sp}{m:L3}(hc:s.can):(eJ l s m).can:=by
 unfold eJ
 split
 ·exact hc
 ·split
  ·exact Sp.yA hc ⟨(fun h=>nomatch h),fun _=>rfl⟩
  ·exact Sp.yA hc ⟨fun _=>rfl,(fun h=>nomatch h)⟩
theorem val_rev (m:L3)(x y:Rat):aj (revL m) x y=-aj m x y:=by
 unfold aj revL;simp only [Rat.intCast_neg];grind
def Fo (m l:L3):Bool:=decide (m=l)||decide (m=revL l)
def CO (m:L3)(t:Sp)(l:L3):Sp:=if m=l then t else t.neg
theorem Bt (l:L3)(t:Rat):fC (revL l) (-t)=fC l t:=by unfold fC fO revL;simp only [Rat.intCast_neg];grind
theorem Bu (l:L3)(t:Rat):fD (revL l) (-t)=fD l t:=by unfold fD fO revL;simp only [Rat.intCast_neg];grind
theorem kU.af {k:Nat}{l:L3}(h:kU k l)(hk:k<=1099511627776):(af l.1.natAbs).length<=1099511627776/\(af l.2.1.natAbs).length<=1099511627776/\(af l.2.2.natAbs).length<=1099511627776:=by
 have d1:=ae (show l.1.natAbs<2^k from h.1.1)
 have d2:=ae (show l.2.1.natAbs<2^k from h.2.1.1)
 have d3:=ae (show l.2.2.natAbs<2^k from h.2.2.1)
 exact ⟨by omega,by omega,by omega⟩
def K6 (V:View)(ad:Addr)(l:L3)(s:Sp):Prop:=∃xs:List Value,ID V (.agg xs.toArray) l s/\∀i x,xs[i]?=some x->V.at (ad.add i) x
theorem K6.le {V V':View}{ad:Addr}{l:L3}{s:Sp}(h:K6 V ad l s)(e:V.Le V'):K6 V' ad l s:=by
 obtain ⟨xs,h1,h2⟩:=h;exact ⟨xs,h1.le e,fun i x hx=>e.at (h2 i x hx)⟩
structure Hl (V:View) (p:OA) (n:Nat) (fs:List (L3×Sp)):Prop where
 len:n=fs.length
 at_:∀(i:Nat)(h:i<fs.length),∃ad,addrAdd p (i*14)=some ad/\K6 V ad fs[i].1 fs[i].2
theorem Hl.le {V V':View}{p:OA}{n:Nat}{fs:List (L3×Sp)}(h:Hl V p n fs)(e:V.Le V'):Hl V' p n fs:=⟨h.len,fun i hi=>by obtain ⟨ad,h1,h2⟩:=h.at_ i hi;exact ⟨ad,h1,h2.le e⟩⟩
def Lc (V:View)(ad:Addr)(s:Sp):Prop:=∃xs:List Value,I3 V (.agg xs.toArray) s/\∀i x,xs[i]?=some x->V.at (ad.add i) x
theorem Lc.le {V V':View}{ad:Addr}{s:Sp}(h:Lc V ad s)(e:V.Le V'):Lc V' ad s:=by
 obtain ⟨xs,h1,h2⟩:=h;exact ⟨xs,h1.le e,fun i x hx=>e.at (h2 i x hx)⟩
structure LI (V:View) (p:OA) (n:Nat) (ss:List Sp):Prop where
 len:n=ss.length
 at_:∀(i:Nat)(h:i<ss.length),∃ad,addrAdd p (i*8)=some ad/\Lc V ad ss[i]
theorem LI.le {V V':View}{p:OA}{n:Nat}{ss:List Sp}(h:LI V p n ss)(e:V.Le V'):LI V' p n ss:=⟨h.len,fun i hi=>by obtain ⟨ad,h1,h2⟩:=h.at_ i hi;exact ⟨ad,h1,h2.le e⟩⟩
def Sp.la (s:Sp)(t:Rat):Int:=if s.a then 1 else fu t s.lo
def Sp.lb (s:Sp)(t:Rat):Int:=if s.b then -1 else fu t s.hi
theorem PG.ex {V:View}{v:Value}{l:L3}{s:Sp}(h:Dn V v l s):∃(x1 x2:Int)(p:OA)(y1 y2:Int)(q:OA)(z1 z2:Int)(r:OA)(u1 u2:Int)(t:OA)(w1 w2:Int)(o:OA),
 v=.agg #[.int .i64 x1,.int .i64 x2,.pointer p,.int .i64 y1,.int .i64 y2,.pointer q,.int .i64 z1,.int .i64 z2,.pointer r,.int .i64 u1,.int .i64 u2,.pointer t,.int .i64 w1,.int .i64 w2,.pointer o,.bool s.a,.bool s.b]:=by
 obtain ⟨_,_,_,_,_,_,_,_,_,_,_,_,_,_,_,e,-⟩:=h;exact ⟨_,_,_,_,_,_,_,_,_,_,_,_,_,_,_,e⟩
theorem Ac {V:View}{v w:Value}{x y:Rat}(hx:RR V v x)(hy:RR V w y){k:Nat}(sx:Sz k x)(sy:Sz k y)(hk:2*k<1099511627776) :
  Acts prog 200 #[v,w] V fun r V'=>RR V' r (AD x y):=by
 have hx0:=hx
 have hy0:=hy
 obtain ⟨a,b,c,rfl⟩:=hx.shape
 obtain ⟨d,e,f,rfl⟩:=hy.shape
 refine zo a b c d e f V _ fun V1 l1=>(je (hy0.le l1) (hx0.le l1) sy sx (by omega)).mono ?_
 rintro r V2 l2 rfl
 unfold AD
 exact ⟨_,rfl,fun h V3 l3=>by rw [if_pos (of_decide_eq_true h)];exact hy0.le (l1.trans (l2.trans l3)),fun h V4 l4=>by rw [if_neg (of_decide_eq_false h)];exact hx0.le (l1.trans (l2.trans l4))⟩
theorem Ad {V:View}{v w:Value}{x y:Rat}(hx:RR V v x)(hy:RR V w y){k:Nat}(sx:Sz k x)(sy:Sz k y)(hk:2*k<1099511627776) :
  Acts prog 201 #[v,w] V fun r V'=>RR V' r (AG x y):=by
 have hx0:=hx
 have hy0:=hy
 obtain ⟨a,b,c,rfl⟩:=hx.shape
 obtain ⟨d,e,f,rfl⟩:=hy.shape
 refine zp a b c d e f V _ fun V1 l1=>(je (hy0.le l1) (hx0.le l1) sy sx (by omega)).mono ?_
 rintro r V2 l2 rfl
 unfold AG
 exact ⟨_,rfl,fun h V3 l3=>by rw [if_pos (of_decide_eq_true h)];exact hy0.le (l1.trans (l2.trans l3)),fun h V4 l4=>by rw [if_neg (of_decide_eq_false h)];exact hx0.le (l1.trans (l2.trans l4))⟩
theorem Sp.vZ {v w:Sp}{k:Nat}(h1:v.sz k)(h2:w.sz k):(v.meet w).sz k:=by
 unfold Sp.meet Sp.sz AD AG
 constructor<;>dsimp only
 ·split
  ·exact h2.1
  ·split
   ·exact h1.1
   ·split
    ·exact h2.1
    ·exact h1.1
 ·split
  ·exact h2.2
  ·split
   ·exact h1.2
   ·split
    ·exact h2.2
    ·exact h1.2
theorem nF {V:View}{v w:Value}{s t:Sp}(h:xl V v s)(h':xl V w t){k:Nat}(hs:s.sz k)(ht:t.sz k)(hk:2*k<1099511627776) :
  Acts prog 157 #[v,w] V fun r V'=>∃u,r=.tuple #[u,.bool (!(s.meet t).emp)]/\xl V' u (s.meet t):=by
 obtain ⟨x1,x2,p,y1,y2,q,rfl,h1,h2⟩:=h
 obtain ⟨u1,u2,o,w1,w2,j,rfl,g1,g2⟩:=h'
 have MU:s.a=true->(s.meet t).lo=t.lo/\(s.meet t).a=t.a:=fun e=>by simp [Sp.meet,e]
 have lo2:s.a=false->t.a=false->(s.meet t).lo=AD s.lo t.lo:=fun e e'=>by simp [Sp.meet,e,e']
 have lo3:s.a=false->t.a=true->(s.meet t).lo=s.lo:=fun e e'=>by simp [Sp.meet,e,e']
 have Pj:s.a=false->(s.meet t).a=s.a:=fun e=>by simp [Sp.meet,e]
 have hi1:s.b=true->(s.meet t).hi=t.hi/\(s.meet t).b=t.b:=fun e=>by simp [Sp.meet,e]
 have hi2:s.b=false->t.b=false->(s.meet t).hi=AG s.hi t.hi:=fun e e'=>by simp [Sp.meet,e,e']
 have hi3:s.b=false->t.b=true->(s.meet t).hi=s.hi:=fun e e'=>by simp [Sp.meet,e,e']
 have hi4:s.b=false->(s.meet t).b=s.b:=fun e=>by simp [Sp.meet,e]
 refine sD x1 x2 p y1 y2 q s.a s.b u1 u2 o w1 w2 j t.a t.b V _ ⟨fun z V1=>RR V1 (.agg #[.int .i64 z.1,.int .i64 z.2.1,.pointer z.2.2.1]) (s.meet t).lo/\RR V1 (.agg #[.int .i64 z.2.2.2.1,.int .i64 z.2.2.2.2.1,.pointer z.2.2.2.2.2.1]) s.hi/\z.2.2.2.2.2.2.1=(s.meet t).a/\z.2.2.2.2.2.2.2=s.b,⟨fun ha=>?_,fun ha=>⟨fun hb V1 l1=>(Ac (h1.le l1) (g1.le l1) hs.1 ht.1 hk).mono ?_,fun hb=>?_⟩⟩,?_⟩
 ·refine ⟨(u1,u2,o,y1,y2,q,t.a,s.b),by and_intros<;>rfl,?_,h2,(MU ha).2.symm,rfl⟩
  rw [(MU ha).1];exact g1
 ·rintro r V2 l2 g
  rw [Bool.not_eq_true'] at hb
  have g0:=g
  obtain ⟨a1,a2,a3,rfl⟩:=g.shape
  refine ⟨_,_,_,rfl,(a1,a2,a3,y1,y2,q,s.a,s.b),by and_intros<;>rfl,?_,h2.le (l1.trans l2),(Pj ha).symm,rfl⟩
  rw [lo2 ha hb];exact g0
 ·rw [Bool.not_eq_false'] at hb
  refine ⟨(x1,x2,p,y1,y2,q,s.a,s.b),by and_intros<;>rfl,?_,h2,(Pj ha).symm,rfl⟩
  rw [lo3 ha hb];exact h1
 ·rintro ⟨z1,z2,z3,z4,z5,z6,z7,z8⟩ V3 l3 ⟨k1,k2,k3,k4⟩
  dsimp only at k1 k2 k3 k4
  subst k3 k4
  refine ⟨rfl,fun z V1=>RR V1 (.agg #[.int .i64 z.1,.int .i64 z.2.1,.pointer z.2.2.1]) (s.meet t).lo/\RR V1 (.agg #[.int .i64 z.2.2.2.1,.int .i64 z.2.2.2.2.1,.pointer z.2.2.2.2.2.1]) (s.meet t).hi/\z.2.2.2.2.2.2.1=(s.meet t).a/\z.2.2.2.2.2.2.2=(s.meet t).b,⟨fun ha=>?_,fun ha=>⟨fun hb V4 l4=>(Ad (h2.le (l3.trans l4)) (g2.le (l3.trans l4)) hs.2 ht.2 hk).mono ?_,fun hb=>?_⟩⟩,?_⟩
  ·refine ⟨(z1,z2,z3,w1,w2,j,(s.meet t).a,t.b),by and_intros<;>rfl,k1,?_,rfl,(hi1 ha).2.symm⟩
   rw [(hi1 ha).1];exact g2.le l3
  ·rintro r V5 l5 g
   rw [Bool.not_eq_true'] at hb
   have g0:=g
   obtain ⟨a1,a2,a3,rfl⟩:=g.shape
   refine ⟨_,_,_,rfl,(z1,z2,z3,a1,a2,a3,(s.meet t).a,s.b),by and_intros<;>rfl,k1.le (l4.trans l5),?_,rfl,(hi4 ha).symm⟩
   rw [hi2 ha hb];exact g0
  ·rw [Bool.not_eq_false'] at hb
   refine ⟨(z1,z2,z3,z4,z5,z6,(s.meet t).a,s.b),by and_intros<;>rfl,k1,?_,rfl,(hi4 ha).symm⟩
   rw [hi3 ha hb];exact k2
  ·rintro ⟨y1,y2,y3,y4,y5,y6,y7,y8⟩ V6 l6 ⟨j1,j2,j3,j4⟩
   dsimp only at j1 j2 j3 j4
   subst j3 j4
   refine ⟨rfl,fun V7 l7=>(Aa ⟨_,_,_,_,_,_,rfl,j1.le l7,j2.le l7⟩ (Sp.vZ hs ht) hk).mono ?_⟩
   rintro r V8 l8 rfl
   exact ⟨_,rfl,fun V9 l9=>⟨_,rfl,_,_,_,_,_,_,rfl,j1.le (l7.trans (l8.trans l9)),j2.le (l7.trans (l8.trans l9))⟩⟩
theorem kO {L M:L3}{k:Nat}(sl:kU k L)(sm:kU k M):Sz (4*k+3) (gU M L):=cA sm.1 sm.2.1 sl.2.1 sl.1.neg
theorem Dx {L M:L3}:(((M.1:Rat)*((L.1:Rat)*(((-(L.2.2:Rat))*(((L.1:Rat)*(L.1:Rat))+((L.2.1:Rat)*(L.2.1:Rat)))⁻¹))))+((M.2.1:Rat)*((L.2.1:Rat)*(((-(L.2.2:Rat))*(((L.1:Rat)*(L.1:Rat))+((L.2.1:Rat)*(L.2.1:Rat)))⁻¹)))))+(M.2.2:Rat)=jR M L:=by
 unfold jR aj fC fD fO;grind
theorem kN {L M:L3}{k:Nat}(sl:kU k L)(sm:kU k M):Sz (50*k+49) (jR M L):=by
 rw [←Dx]
 exact Sz.mono (iY (k:=10*k+9) (sm.1.mono (by omega)) (sm.2.1.mono (by omega)) (sm.2.2.mono (by omega)) (cN sl.1 sl.2.1 sl.2.2) (cO sl.1 sl.2.1 sl.2.2)) (by omega)
theorem wI {L M:L3}{k:Nat}(sl:kU k L)(sm:kU k M):Sz (60*k+60) (eT M L):=Sz.mono ((kN sl sm).mul (jH (kO sl sm))).neg (by omega)
theorem IW (k:Nat)(hk:0<k):Sz k (0:Rat):=⟨by show (0:Int).natAbs<_;exact Nat.lt_of_lt_of_le (by decide) (Nat.one_le_two_pow),Nat.one_lt_two_pow (by omega)⟩
theorem xD {V:View}{l v m:Value}{L:L3}{s:Sp}{M:L3}(hl:RLi V l L)(hv:xl V v s)(hm:RLi V m M){k:Nat}(sl:kU k L)(hs:s.sz k)(sm:kU k M)(hk:200*k+200<274877906944) :
  Acts prog 167 #[l,v,m] V fun r V'=>∃w,r=.tuple #[w,.bool (eI L s M)]/\xl V' w (eJ L s M):=by
 have hl0:=hl
 have hv0:=hv
 have hm0:=hm
 obtain ⟨_,_,_,_,_,_,_,_,_,rfl,-,-,-⟩:=hl
 obtain ⟨_,_,_,_,_,_,rfl,-,-⟩:=hv
 obtain ⟨_,_,_,_,_,_,_,_,_,rfl,-,-,-⟩:=hm
 have hs':s.sz (60*k+60):=⟨hs.1.mono (by omega),hs.2.mono (by omega)⟩
 have z:=IW (60*k+60) (by omega)
 refine tN _ _ _ _ _ _ _ _ _ _ _ _ _ _ _ _ _ _ _ _ _ _ _ _ _ _ V _ fun V1 l1=>(fF (hm0.le l1) sm.1 sm.2.1 sm.2.2 (by omega)).mono ?_
 rintro r V2 l2 g1
 have g10:=g1
 obtain ⟨_,_,_,_,_,_,rfl,-,-⟩:=g1
 refine ⟨_,_,_,_,_,_,rfl,fun V3 l3=>(jh (hl0.le (l1.trans (l2.trans l3))) sl.1 sl.2.1 sl.2.2 (by omega)).mono ?_⟩
 rintro r V4 l4 g2
 have g20:=g2
 obtain ⟨_,_,_,_,_,_,rfl,-,-⟩:=g2
 refine ⟨_,_,_,_,_,_,rfl,fun V5 l5=>(ji (g10.le (l3.trans (l4.trans l5))) (g20.le l5) sm.1 sm.2.1 sl.2.1 sl.1.neg (by omega)).mono ?_⟩
 rintro r V6 l6 g3
 have xg:RR V6 r (gU M L):=g3
 obtain ⟨_,_,_,rfl⟩:=g3.shape
 have L6:V.Le V6:=l1.trans (l2.trans (l3.trans (l4.trans (l5.trans l6))))
 refine ⟨_,_,_,rfl,fun V7 l7=>(kW (hl0.le (L6.trans l7)) sl.1 sl.2.1 sl.2.2 (by omega)).mono ?_⟩
 rintro r V8 l8 g4
 have Lk:=g4
 obtain ⟨_,_,_,_,_,_,rfl,-,-⟩:=g4
 refine ⟨_,_,_,_,_,_,rfl,fun V9 l9=>(jU (k:=10*k+9) (hm0.le (L6.trans (l7.trans (l8.trans l9)))) (Lk.le l9) (sm.1.mono (by omega)) (sm.2.1.mono (by omega)) (sm.2.2.mono (by omega)) (cN sl.1 sl.2.1 sl.2.2) (cO sl.1 sl.2.1 sl.2.2) (by omega)).mono ?_⟩
 rintro r V10 l10 g5
 rw [Dx] at g5
 have Ll:=g5
 obtain ⟨_,_,_,rfl⟩:=g5.shape
 have tZ:V6.Le V10:=l7.trans (l8.trans (l9.trans l10))
 refine ⟨_,_,_,rfl,fun V11 l11=>(eF (xg.le (tZ.trans l11)) (kO sl sm) (by omega)).mono ?_⟩
 rintro r V12 l12 rfl
 have Dl:V10.Le V12:=l11.trans l12
 refine ⟨_,rfl,fun hz V13 l13=>(eF (Ll.le (Dl.trans l13)) (kN sl sm) (by omega)).mono ?_,fun hz=>⟨fun h1 me eU=>(vH (Ll.le (Dl.trans eU)) (xg.le (tZ.trans (Dl.trans eU))) (kN sl sm) (kO sl sm) (by omega)).mono ?_,fun h1 xo kb=>(vH (Ll.le (Dl.trans kb)) (xg.le (tZ.trans (Dl.trans kb))) (kN sl sm) (kO sl sm) (by omega)).mono ?_⟩⟩
 ·rintro r V14 eY rfl
  have eB:eI L s M=decide ((jR M L).num.sign>0):=by unfold eI;rw [if_pos hz]
  have eS:eJ L s M=s:=by unfold eJ;rw [if_pos hz]
  rw [eB,eS]
  exact ⟨_,rfl,fun V15 eZ=>⟨_,rfl,hv0.le (L6.trans (tZ.trans (Dl.trans (l13.trans (eY.trans eZ)))))⟩⟩
 ·have eS:eJ L s M=s.meet ⟨eT M L,0,false,true⟩:=by unfold eJ;rw [if_neg (by rw [hz];exact Bool.false_ne_true),if_pos h1]
  have eB:eI L s M=!(s.meet ⟨eT M L,0,false,true⟩).emp:=by rw [←eS];unfold eI;rw [if_neg (by rw [hz];exact Bool.false_ne_true)]
  rw [eB,eS]
  rintro r pS dX g6
  have Ma:=g6
  obtain ⟨_,_,_,rfl⟩:=g6.shape
  refine ⟨_,_,_,rfl,fun sQ fB=>(eC (Ma.le fB) ((kN sl sm).mul (jH (kO sl sm))) (by omega)).mono ?_⟩
  rintro r ua fH g7
  have Mb:RR ua r (eT M L):=g7
  obtain ⟨_,_,_,rfl⟩:=g7.shape
  refine ⟨_,_,_,rfl,fun Dc lG=>(nF (t:=⟨eT M L,0,false,true⟩) (hv0.le (L6.trans (tZ.trans (Dl.trans (eU.trans (dX.trans (fB.trans (fH.trans lG)))))))) ⟨_,_,_,_,_,_,rfl,Mb.le lG,RR.zero _⟩ hs' ⟨wI sl sm,z⟩ (by omega)).mono ?_⟩
  rintro r ub hU ⟨w,rfl,g8⟩
  have Mc:=g8
  obtain ⟨_,_,_,_,_,_,rfl,-,-⟩:=g8
  exact ⟨_,_,_,_,_,_,_,_,_,rfl,fun xn mF=>⟨_,rfl,Mc.le mF⟩⟩
 ·have eS:eJ L s M=s.meet ⟨0,eT M L,true,false⟩:=by unfold eJ;rw [if_neg (by rw [hz];exact Bool.false_ne_true),if_neg (by rw [h1];exact Bool.false_ne_true)]
  have eB:eI L s M=!(s.meet ⟨0,eT M L,true,false⟩).emp:=by rw [←eS];unfold eI;rw [if_neg (by rw [hz];exact Bool.false_ne_true)]
  rw [eB,eS]
  rintro r pS dX g6
  have Ma:=g6
  obtain ⟨_,_,_,rfl⟩:=g6.shape
  refine ⟨_,_,_,rfl,fun sQ fB=>(eC (Ma.le fB) ((kN sl sm).mul (jH (kO sl sm))) (by omega)).mono ?_⟩
  rintro r ua fH g7
  have Mb:RR ua r (eT M L):=g7
  obtain ⟨_,_,_,rfl⟩:=g7.shape
  refine ⟨_,_,_,rfl,fun Dc lG=>(nF (t:=⟨0,eT M L,true,false⟩) (hv0.le (L6.trans (tZ.trans (Dl.trans (kb.trans (dX.trans (fB.trans (fH.trans lG)))))))) ⟨_,_,_,_,_,_,rfl,RR.zero _,Mb.le lG⟩ hs' ⟨z,wI sl sm⟩ (by omega)).mono ?_⟩
  rintro r ub hU ⟨w,rfl,g8⟩
  have Mc:=g8
  obtain ⟨_,_,_,_,_,_,rfl,-,-⟩:=g8
  exact ⟨_,_,_,_,_,_,_,_,_,rfl,fun xn mF=>⟨_,rfl,Mc.le mF⟩⟩
structure zU (V:View) (p:OA) (n:Nat) (fs:List (L3×Sp)):Prop where
 len:n=fs.length
 at_:∀(i:Nat)(h:i<fs.length),∃ad,addrAdd p (i*17)=some ad/\∃xs:List Value,Dn V (.agg xs.toArray) fs[i].1 fs[i].2/\∀j x,xs[j]?=some x->V.at (ad.add j) x
theorem zU.le {V V':View}{p:OA}{n:Nat}{fs:List (L3×Sp)}(h:zU V p n fs)(e:V.Le V'):zU V' p n fs:=⟨h.len,fun i hi=>by obtain ⟨ad,h1,xs,h2,h3⟩:=h.at_ i hi;exact ⟨ad,h1,xs,h2.le e,fun j x hx=>e.at (h3 j x hx)⟩⟩
theorem zU.nil {V:View}:zU V none 0 []:=⟨rfl,fun i hi=>by simp at hi⟩
theorem zU.one {V:View}{bk:Nat}{xs:List Value}{ty:TypeId}{l:L3}{s:Sp}(hb:V.a_ bk (.cells xs.toArray ty (0,0)))(hf:Dn V (.agg xs.toArray) l s):zU V (some ⟨bk,0,none⟩) 1 [(l,s)]:=by
 refine ⟨rfl,fun i hi=>?_⟩
 obtain rfl:i=0:=by simpa using hi
 refine ⟨⟨bk,0,none⟩,by simp [addrAdd,add_zero'],_,hf,fun j x hx=>?_⟩
 rw [add_zero']
 exact blk_at hb hx
end Go.Proofs.Tryz
