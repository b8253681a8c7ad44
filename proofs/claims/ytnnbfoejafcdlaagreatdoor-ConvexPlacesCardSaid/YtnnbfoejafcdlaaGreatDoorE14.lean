import Derived.Test.YtnnbfoejafcdlaaGreatDoorE13
import Derived.Test.YtnnbfoejafcdlaaGreatDoorE7
import Derived.Test.YtnnbfoejafcdlaaGreatDoorE9
import Derived.Test.YtnnbfoejafcdlaaGreatDoorE12
import Derived.Test.YtnnbfoejafcdlaaGreatDoorE5
set_option linter.unusedVariables false
open Go.IntKind (i64 u64 u32)
namespace Go.bM
open Go.fB
theorem RR.zero (V:View):RR V (.agg #[.int .i64 0,.int .i64 0,.pointer none]) 0:=.inl ⟨rfl,by unfold Wd;decide⟩
end Go.bM
namespace Go.Proofs.Tryz
open Go.bM Go.fB
structure Sp where
 lo:Rat
 hi:Rat
 a:Bool
 b:Bool
def Sp.can (s:Sp):Prop:=(s.a=true->s.lo=0)/\(s.b=true->s.hi=0)
def Sp.sz (k:Nat)(s:Sp):Prop:=Sz k s.lo/\Sz k s.hi
def Sp.zero:Sp:=⟨0,0,false,false⟩
def jV (k:Nat)(l:L3):Prop:=Sz k (l.1:Rat)/\Sz k (l.2.1:Rat)/\Sz k (l.2.2:Rat)
def Gq (V:View)(v:Value)(s:Sp):Prop:=∃(x1 x2:Int)(p:OA)(y1 y2:Int)(q:OA),v=.agg #[.int .i64 x1,.int .i64 x2,.pointer p,.int .i64 y1,.int .i64 y2,.pointer q,.bool s.a,.bool s.b] /\
 RR V (.agg #[.int .i64 x1,.int .i64 x2,.pointer p]) s.lo/\RR V (.agg #[.int .i64 y1,.int .i64 y2,.pointer q]) s.hi
theorem Gq.le {V V':View}{v:Value}{s:Sp}(h:Gq V v s)(l:V.Le V'):Gq V' v s:=by
 obtain ⟨x1,x2,p,y1,y2,q,e,h1,h2⟩:=h
 exact ⟨x1,x2,p,y1,y2,q,e,h1.le l,h2.le l⟩
def ue (V:View)(v:Value)(l:L3):Prop:=tK V v (l.1:Rat) (l.2.1:Rat) (l.2.2:Rat)
theorem ue.le {V V':View}{v:Value}{l:L3}(h:ue V v l)(e:V.Le V'):ue V' v l:=tK.le h e
def N9 (V:View)(v:Value)(l:L3)(s:Sp):Prop:=∃(x1 x2:Int)(p:OA)(y1 y2:Int)(q:OA)(z1 z2:Int)(r:OA)(u1 u2:Int)(t:OA)(w1 w2:Int)(o:OA),
 v=.agg #[.int .i64 x1,.int .i64 x2,.pointer p,.int .i64 y1,.int .i64 y2,.pointer q,.int .i64 z1,.int .i64 z2,.pointer r,.int .i64 u1,.int .i64 u2,.pointer t,.int .i64 w1,.int .i64 w2,.pointer o,.bool s.a,.bool s.b] /\
 ue V (.agg #[.int .i64 x1,.int .i64 x2,.pointer p,.int .i64 y1,.int .i64 y2,.pointer q,.int .i64 z1,.int .i64 z2,.pointer r]) l /\
 Gq V (.agg #[.int .i64 u1,.int .i64 u2,.pointer t,.int .i64 w1,.int .i64 w2,.pointer o,.bool s.a,.bool s.b]) s
theorem N9.le {V V':View}{v:Value}{l:L3}{s:Sp}(h:N9 V v l s)(e:V.Le V'):N9 V' v l s:=by
 obtain ⟨x1,x2,p,y1,y2,q,z1,z2,r,u1,u2,t,w1,w2,o,rfl,h1,h2⟩:=h
 exact ⟨x1,x2,p,y1,y2,q,z1,z2,r,u1,u2,t,w1,w2,o,rfl,h1.le e,h2.le e⟩
def Lg (V:View)(v:Value)(b:Bool)(xs ys:List Nat):Prop:=∃p n c p' n' c',v=.agg #[.bool b,.slice p n c,.slice p' n' c']/\RD V p n c xs/\RD V p' n' c' ys
theorem Lg.le {V V':View}{v:Value}{b:Bool}{xs ys:List Nat}(h:Lg V v b xs ys)(l:V.Le V'):Lg V' v b xs ys:=by
 obtain ⟨p,n,c,p',n',c',e,h1,h2⟩:=h;exact ⟨p,n,c,p',n',c',e,h1.le l,h2.le l⟩
theorem Lg.nil {V:View}:Lg V (.agg #[.bool false,.slice none 0 0,.slice none 0 0]) false [] []:=⟨_,_,_,_,_,_,rfl,RD.nil,RD.nil⟩
def RE (V:View)(v:Value)(q:Rat)(no:Bool):Prop:=(no=true->Lg V v false [] [])/\(no=false->RA V v q)
theorem RE.le {V V':View}{v:Value}{q:Rat}{no:Bool}(h:RE V v q no)(l:V.Le V'):RE V' v q no:=⟨fun e=>(h.1 e).le l,fun e=>(h.2 e).le l⟩
theorem RE.shape {V:View}{v:Value}{q:Rat}{no:Bool}(h:RE V v q no):∃b p n c p' n' c',v=.agg #[.bool b,.slice p n c,.slice p' n' c']:=by
 cases no with
 | true=>obtain ⟨_,_,_,_,_,_,e,-⟩:=h.1 rfl;exact ⟨_,_,_,_,_,_,_,e⟩
 | false=>exact (h.2 rfl).shape
def SE (V:View)(v:Value)(s:Sp):Prop:=∃b p n c p' n' c' d q m e q' m' e',v=.agg #[.bool b,.slice p n c,.slice p' n' c',.bool d,.slice q m e,.slice q' m' e',.bool s.a,.bool s.b] /\
 RE V (.agg #[.bool b,.slice p n c,.slice p' n' c']) s.lo s.a/\RE V (.agg #[.bool d,.slice q m e,.slice q' m' e']) s.hi s.b
theorem SE.le {V V':View}{v:Value}{s:Sp}(h:SE V v s)(l:V.Le V'):SE V' v s:=by
 obtain ⟨b,p,n,c,p',n',c',d,q,m,e,q',m',e',rfl,h1,h2⟩:=h
 exact ⟨_,_,_,_,_,_,_,_,_,_,_,_,_,_,rfl,h1.le l,h2.le l⟩
def PF (V:View)(v:Value)(l:L3)(s:Sp):Prop:=∃b1 p1 n1 c1 b2 p2 n2 c2 b3 p3 n3 c3 b p n c p' n' c' d q m e q' m' e',
 v=.agg #[.bool b1,.slice p1 n1 c1,.bool b2,.slice p2 n2 c2,.bool b3,.slice p3 n3 c3,.bool b,.slice p n c,.slice p' n' c',.bool d,.slice q m e,.slice q' m' e',.bool s.a,.bool s.b] /\
 RL V (.agg #[.bool b1,.slice p1 n1 c1,.bool b2,.slice p2 n2 c2,.bool b3,.slice p3 n3 c3]) l.1 l.2.1 l.2.2/\SE V (.agg #[.bool b,.slice p n c,.slice p' n' c',.bool d,.slice q m e,.slice q' m' e',.bool s.a,.bool s.b]) s
theorem PF.le {V V':View}{v:Value}{l:L3}{s:Sp}(h:PF V v l s)(e:V.Le V'):PF V' v l s:=by
 obtain ⟨b1,p1,n1,c1,b2,p2,n2,c2,b3,p3,n3,c3,b,p,n,c,p',n',c',d,q,m,f,q',m',f',rfl,h1,h2⟩:=h
 exact ⟨_,_,_,_,_,_,_,_,_,_,_,_,_,_,_,_,_,_,_,_,_,_,_,_,_,_,rfl,h1.le e,h2.le e⟩
def ED (V:View)(v:Value)(s:Sp):Prop:=∃b p n c p' n' c' d q m e q' m' e',v=.agg #[.bool b,.slice p n c,.slice p' n' c',.bool d,.slice q m e,.slice q' m' e',.bool s.a,.bool s.b] /\
 RQ V (.agg #[.bool b,.slice p n c,.slice p' n' c']) s.lo/\RQ V (.agg #[.bool d,.slice q m e,.slice q' m' e']) s.hi
theorem ED.le {V V':View}{v:Value}{s:Sp}(h:ED V v s)(l:V.Le V'):ED V' v s:=by
 obtain ⟨b,p,n,c,p',n',c',d,q,m,e,q',m',e',rfl,h1,h2⟩:=h
 exact ⟨_,_,_,_,_,_,_,_,_,_,_,_,_,_,rfl,h1.le l,h2.le l⟩
def RF (V:View)(v:Value)(l:L3)(s:Sp):Prop:=∃b1 p1 n1 c1 b2 p2 n2 c2 b3 p3 n3 c3 b p n c p' n' c' d q m e q' m' e',
 v=.agg #[.bool b1,.slice p1 n1 c1,.bool b2,.slice p2 n2 c2,.bool b3,.slice p3 n3 c3,.bool b,.slice p n c,.slice p' n' c',.bool d,.slice q m e,.slice q' m' e',.bool s.a,.bool s.b] /\
 RL V (.agg #[.bool b1,.slice p1 n1 c1,.bool b2,.slice p2 n2 c2,.bool b3,.slice p3 n3 c3]) l.1 l.2.1 l.2.2/\ED V (.agg #[.bool b,.slice p n c,.slice p' n' c',.bool d,.slice q m e,.slice q' m' e',.bool s.a,.bool s.b]) s
theorem RF.le {V V':View}{v:Value}{l:L3}{s:Sp}(h:RF V v l s)(e:V.Le V'):RF V' v l s:=by
 obtain ⟨b1,p1,n1,c1,b2,p2,n2,c2,b3,p3,n3,c3,b,p,n,c,p',n',c',d,q,m,f,q',m',f',rfl,h1,h2⟩:=h
 exact ⟨_,_,_,_,_,_,_,_,_,_,_,_,_,_,_,_,_,_,_,_,_,_,_,_,_,_,rfl,h1.le e,h2.le e⟩
def ar (l:L3)(x y:Rat):Rat:=(l.1:Rat)*x+(l.2.1:Rat)*y+(l.2.2:Rat)
def fv (l:L3):Rat:=(l.1:Rat)*(l.1:Rat)+(l.2.1:Rat)*(l.2.1:Rat)
def Bp (l:L3)(x y:Rat):Rat:=((l.2.1:Rat)*x-(l.1:Rat)*y)*(fv l)⁻¹
def gX (l:L3)(t:Rat):Rat:=(l.2.1:Rat)*t-(l.1:Rat)*(l.2.2:Rat)*(fv l)⁻¹
def h_ (l:L3)(t:Rat):Rat:=-((l.1:Rat)*t)-(l.2.1:Rat)*(l.2.2:Rat)*(fv l)⁻¹
def fR (l:L3):L3:=(-l.1,-l.2.1,-l.2.2)
def Sp.neg (s:Sp):Sp:=⟨if s.b then 0 else -s.hi,if s.a then 0 else -s.lo,s.b,s.a⟩
def Sp.emp (s:Sp):Bool:=!s.a&&!s.b&&decide (eR s.lo s.hi≥0)
def Nz (l:L3):Prop:=¬(l.1=0/\l.2.1=0)
theorem sq_nonneg (x:Int):0<=x*x:=by
 rw [←Int.natAbs_mul_self];exact Int.natCast_nonneg _
theorem Kc (l:L3):fv l=((l.1*l.1+l.2.1*l.2.1:Int):Rat):=by unfold fv;simp
theorem Nz.norm {l:L3}(h:Nz l):fv l≠0:=by
 rw [Kc]
 have h1:=sq_nonneg l.1
 have h2:=sq_nonneg l.2.1
 have h3:l.1*l.1+l.2.1*l.2.1≠0:=by
  intro e
  have e1:l.1*l.1=0:=by omega
  have e2:l.2.1*l.2.1=0:=by omega
  exact h ⟨(Int.mul_eq_zero.1 e1).elim id id,(Int.mul_eq_zero.1 e2).elim id id⟩
 exact_mod_cast h3
theorem Kf {q:Rat}(h:q≠0):q.num≠0:=fun e=>h (Rat.num_eq_zero.1 e)
theorem U5 {V:View}{l t:Value}{L:L3}{x:Rat}(hl:ue V l L)(ht:RR V t x){k:Nat}(sl:jV k L)(s1:Sz k x)(hk:20*k+19<274877906944) :
  ab prog 132 #[l,t] V fun r V'=>nE V' r (gX L x) (h_ L x):=by
 refine (Cy hl ht sl.1 sl.2.1 sl.2.2 s1 hk).mono ?_
 rintro r V2 l2 g
 have e1:gX L x=((L.1:Rat)*((-(L.2.2:Rat))*((L.1:Rat)*(L.1:Rat)+(L.2.1:Rat)*(L.2.1:Rat))⁻¹))+((L.2.1:Rat)*x):=by unfold gX fv;grind
 have e2:h_ L x=((L.2.1:Rat)*((-(L.2.2:Rat))*((L.1:Rat)*(L.1:Rat)+(L.2.1:Rat)*(L.2.1:Rat))⁻¹))+((-(L.1:Rat))*x):=by unfold h_ fv;grind
 rw [e1,e2];exact g
theorem FT {L:L3}{x:Rat}{k:Nat}(sl:jV k L)(s1:Sz k x):Sz (20*k+19) (gX L x):=by
 have e1:gX L x=((L.1:Rat)*((-(L.2.2:Rat))*((L.1:Rat)*(L.1:Rat)+(L.2.1:Rat)*(L.2.1:Rat))⁻¹))+((L.2.1:Rat)*x):=by unfold gX fv;grind
 rw [e1];exact yR sl.1 sl.2.1 sl.2.2 s1
theorem FU {L:L3}{x:Rat}{k:Nat}(sl:jV k L)(s1:Sz k x):Sz (20*k+19) (h_ L x):=by
 have e2:h_ L x=((L.2.1:Rat)*((-(L.2.2:Rat))*((L.1:Rat)*(L.1:Rat)+(L.2.1:Rat)*(L.2.1:Rat))⁻¹))+((-(L.1:Rat))*x):=by unfold h_ fv;grind
 rw [e2];exact yS sl.1 sl.2.1 sl.2.2 s1
theorem pV (q:Rat):q.num.sign=0↔q=0:=by rw [Int.sign_eq_zero_iff_zero,Rat.num_eq_zero]
theorem Fl {V:View}{l p:Value}{L:L3}{x y:Rat}(hl:ue V l L)(hp:nE V p x y){k:Nat}(sl:jV k L)(s1:Sz k x)(s2:Sz k y)(hk:16*k+16<274877906944) :
  ab prog 131 #[l,p] V fun r V'=>r=.int .i64 (ar L x y).num.sign:=xw hl hp sl.1 sl.2.1 sl.2.2 s1 s2 hk
theorem jV.rev {k:Nat}{L:L3}(h:jV k L):jV k (fR L):=by
 unfold jV fR
 simp only [Rat.intCast_neg]
 exact ⟨h.1.neg,h.2.1.neg,h.2.2.neg⟩
theorem FL {L:L3}(h:Nz L):((((((L.2.1:Int):Rat)))*((((L.2.1:Int):Rat))))+(((-(((L.1:Int):Rat))))*((-(((L.1:Int):Rat)))))).num≠0:=by
 have:(((((L.2.1:Int):Rat)))*((((L.2.1:Int):Rat))))+(((-(((L.1:Int):Rat))))*((-(((L.1:Int):Rat)))))=fv L:=by unfold fv;grind
 rw [this]
 exact Kf h.norm
theorem MB {V:View}{l p:Value}{L:L3}{x y:Rat}(hl:RL V l L.1 L.2.1 L.2.2)(hp:RP V p x y)(hz:Nz L){k:Nat}(sl:jV k L)(s1:Sz k x)(s2:Sz k y)(hk:8*k+7<274877906944) :
  ab prog 154 #[l,p] V fun r V'=>RQ V' r (Bp L x y):=by
 refine (xF hl hp (FL hz) sl.1 sl.2.1 sl.2.2 s1 s2 hk).mono ?_
 rintro r V2 l2 g
 have e:Bp L x y=((((x)*((((L.2.1:Int):Rat))))+((y)*((-(((L.1:Int):Rat))))))*((((((L.2.1:Int):Rat)))*((((L.2.1:Int):Rat))))+(((-(((L.1:Int):Rat))))*((-(((L.1:Int):Rat))))))⁻¹):=by
  unfold Bp fv;grind
 rw [e];exact g
theorem VZ {V:View}{l t:Value}{L:L3}{x:Rat}(hl:RL V l L.1 L.2.1 L.2.2)(ht:RQ V t x)(hz:Nz L){k:Nat}(sl:jV k L)(s1:Sz k x)(hk:18*k+16<274877906944) :
  ab prog 119 #[l,t] V fun r V'=>RP V' r (gX L x) (h_ L x):=by
 refine (EX hl ht (FL hz) sl.1 sl.2.1 sl.2.2 s1 hk).mono ?_
 rintro r V2 l2 g
 have e1:gX L x=(((-((((L.2.2:Int):Rat))*((((((L.2.1:Int):Rat)))*((((L.2.1:Int):Rat))))+(((-(((L.1:Int):Rat))))*((-(((L.1:Int):Rat))))))⁻¹))*(((L.1:Int):Rat)))+(x)*(((L.2.1:Int):Rat))):=by unfold gX fv;grind
 have e2:h_ L x=(((-((((L.2.2:Int):Rat))*((((((L.2.1:Int):Rat)))*((((L.2.1:Int):Rat))))+(((-(((L.1:Int):Rat))))*((-(((L.1:Int):Rat))))))⁻¹))*(((L.2.1:Int):Rat)))+(x)*(-(((L.1:Int):Rat)))):=by unfold h_ fv;grind
 rw [e1,e2];exact g
theorem Bx {V:View}{l p:Value}{L:L3}{x y:Rat}(hl:RL V l L.1 L.2.1 L.2.2)(hp:RP V p x y){k:Nat}(sl:jV k L)(s1:Sz k x)(s2:Sz k y)(hk:16*k+16<274877906944) :
  ab prog 76 #[l,p] V fun r V'=>r=.int .i64 (ar L x y).num.sign:=AK hl hp sl.1 sl.2.1 sl.2.2 s1 s2 hk
structure Tu (V:View) (vs:List Value) (i:Int) (f a b c:Rat):Prop where
 h0:0<=i
 h3:i<=3
 row:∃(x1 x2:Int)(p:OA)(y1 y2:Int)(q:OA)(z1 z2:Int)(r:OA),vs=[.int .i64 x1,.int .i64 x2,.pointer p,.int .i64 y1,.int .i64 y2,.pointer q,.int .i64 z1,.int .i64 z2,.pointer r] /\
  RR V (.agg #[.int .i64 x1,.int .i64 x2,.pointer p]) (if 0<i then a*f else a)/\RR V (.agg #[.int .i64 y1,.int .i64 y2,.pointer q]) (if 1<i then b*f else b)/\RR V (.agg #[.int .i64 z1,.int .i64 z2,.pointer r]) (if 2<i then c*f else c)
theorem Tu.le {V V':View}{vs:List Value}{i:Int}{f a b c:Rat}(h:Tu V vs i f a b c)(l:V.Le V'):Tu V' vs i f a b c:=by
 obtain ⟨h0,h3,x1,x2,p,y1,y2,q,z1,z2,r,e,g1,g2,g3⟩:=h
 exact ⟨h0,h3,x1,x2,p,y1,y2,q,z1,z2,r,e,g1.le l,g2.le l,g3.le l⟩
def FV (px py qx qy:Rat):L3:=Rk (-(qy-py)) (qx-px) (-(-(qy-py)*px+(qx-px)*py))
theorem MW {px py qx qy:Rat}:(px=qx/\py=qy)↔(-(qy-py)=0/\qx-px=0):=⟨fun ⟨h1,h2⟩=>⟨by grind,by grind⟩,fun ⟨h1,h2⟩=>⟨by grind,by grind⟩⟩
def Io (b:Bool)(xs ys:List Nat):Rat:=mkRat (aY b xs) (val ys)
def O3 (b:Bool)(xs ys:List Nat):Bool:=lK b xs&&decide (ag (val ys)=ys)&&!decide (ys=[])&&decide (Nat.gcd (val xs) (val ys)=1)
def WK (b:Bool)(xs ys:List Nat):Bool:=!b&&decide (xs=[])&&decide (ys=[])
def Ot (b:Bool)(xs ys:List Nat)(no:Bool):Rat:=if no then 0 else Io b xs ys
def Jm (b:Bool)(xs ys:List Nat)(no:Bool):Bool:=if no then WK b xs ys else O3 b xs ys
theorem G2 {q:Rat}:O3 (decide (q.num<0)) (ag q.num.natAbs) (ag q.den)=true/\Io (decide (q.num<0)) (ag q.num.natAbs) (ag q.den)=q:=by
 constructor
 ·unfold O3
  have h1:lK (decide (q.num<0)) (ag q.num.natAbs)=true:=by
   unfold lK
   rw [ae]
   by_cases h:q.num<0
   ·have:ag q.num.natAbs≠[]:=fun e=>by have:=bD.1 e;omega
    simp [h,this]
   ·simp [h]
  have h2:ag q.den≠[]:=fun e=>q.den_nz (bD.1 e)
  rw [h1,ae,ae]
  simp [h2,q.reduced]
 ·unfold Io
  rw [aG,ae,Rat.mkRat_self]
theorem EM {V:View}{v:Value}{s:Sp}(h:Gq V v s){k:Nat}(hs:s.sz k)(hk:2*k<1099511627776) :
  ab prog 223 #[v] V fun r V'=>r=.bool s.emp:=by
 obtain ⟨x1,x2,p,y1,y2,q,rfl,h1,h2⟩:=h
 refine tg x1 x2 p y1 y2 q s.a s.b V _ ⟨fun ha=>⟨fun hb V1 l1=>(kI (h1.le l1) (h2.le l1) hs.1 hs.2 (by omega)).mono ?_,fun hb V4 l4=>?_⟩,fun ha V5 l5=>?_⟩
 ·rintro r V2 l2 rfl
  exact ⟨_,rfl,fun V3 l3=>by rw [Bool.not_eq_true'] at ha hb;simp [Sp.emp,ha,hb]⟩
 ·rw [Bool.not_eq_false'] at hb;simp [Sp.emp,hb]
 ·rw [Bool.not_eq_false'] at ha;simp [Sp.emp,ha]
def SF (V:View)(v:Value)(b1:Bool)(M3 M5:List Nat)(b2:Bool)(M4 M6:List Nat)(na nb:Bool):Prop:=∃p n c p' n' c' q m e q' m' e',v=.agg #[.bool b1,.slice p n c,.slice p' n' c',.bool b2,.slice q m e,.slice q' m' e',.bool na,.bool nb] /\
 Lg V (.agg #[.bool b1,.slice p n c,.slice p' n' c']) b1 M3 M5/\Lg V (.agg #[.bool b2,.slice q m e,.slice q' m' e']) b2 M4 M6
theorem SF.le {V V':View}{v:Value}{b1:Bool}{M3 M5:List Nat}{b2:Bool}{M4 M6:List Nat}{na nb:Bool}(h:SF V v b1 M3 M5 b2 M4 M6 na nb)(l:V.Le V'):SF V' v b1 M3 M5 b2 M4 M6 na nb:=by
 obtain ⟨p,n,c,p',n',c',q,m,e,q',m',e',rfl,h1,h2⟩:=h
 exact ⟨_,_,_,_,_,_,_,_,_,_,_,_,rfl,h1.le l,h2.le l⟩
def Sa (b1:Bool)(M3 M5:List Nat)(b2:Bool)(M4 M6:List Nat)(na nb:Bool):Sp:=⟨Ot b1 M3 M5 na,Ot b2 M4 M6 nb,na,nb⟩
def okW (b1:Bool)(M3 M5:List Nat)(b2:Bool)(M4 M6:List Nat)(na nb:Bool):Bool:=Jm b1 M3 M5 na&&Jm b2 M4 M6 nb&&!(Sa b1 M3 M5 b2 M4 M6 na nb).emp
def YQ (l:L3)(s:Sp):Prop:=cS l=true/\s.can/\s.emp=false
theorem RE.raw {V:View}{v:Value}{q:Rat}{no:Bool}(h:RE V v q no)(hc:no=true->q=0):∃b xs ys,Lg V v b xs ys/\Jm b xs ys no=true/\Ot b xs ys no=q/\(∀k,Sz k q->xs.length<=k/\ys.length<=k):=by
 cases no with
 | true=>
  exact ⟨false,[],[],h.1 rfl,rfl,by rw [hc rfl];rfl,fun k _=>⟨Nat.zero_le _,Nat.zero_le _⟩⟩
 | false=>
  obtain ⟨p,n,c,p',n',c',rfl,h1,h2⟩:=h.2 rfl
  exact ⟨_,_,_,⟨_,_,_,_,_,_,rfl,h1,h2⟩,G2.1,G2.2,fun k hk=>⟨af hk.1,af hk.2⟩⟩
theorem ue.Zu {V:View}{r:Value}{l:L3}(h:RL V r ((l.1:Rat)).num ((l.2.1:Rat)).num ((l.2.2:Rat)).num):RL V r l.1 l.2.1 l.2.2:=by
 simpa [Rat.num_intCast] using h
theorem Bj {l:L3}(h:cS l=true):Nz l:=by
 unfold cS at h
 intro e
 simp [e.1,e.2] at h
def Df (x y:Rat):Rat:=if 0<eR y x then y else x
def Di (x y:Rat):Rat:=if eR y x<0 then y else x
theorem mT (x y:Rat):(x<y/\eR x y=-1)\/(x=y/\eR x y=0)\/(y<x/\eR x y=1):=by
 by_cases h1:x<y
 ·exact .inl ⟨h1,AU.1 h1⟩
 ·by_cases h2:x=y
  ·exact .inr (.inl ⟨h2,ib.1 h2⟩)
  ·have h3:y<x:=by grind
   exact .inr (.inr ⟨h3,tQ.1 h3⟩)
theorem Sp.kX {s:Sp}:s.emp=false↔(s.a=true\/s.b=true\/s.lo<s.hi):=by
 unfold Sp.emp
 rcases mT s.lo s.hi with ⟨h,e⟩|⟨h,e⟩|⟨h,e⟩<;>rw [e]<;>cases s.a<;>cases s.b<;>simp<;>grind
def Sp.meet (v w:Sp):Sp:=⟨if v.a then w.lo else if w.a then v.lo else Df v.lo w.lo,if v.b then w.hi else if w.b then v.hi else Di v.hi w.hi,if v.a then w.a else false,if v.b then w.b else false⟩
theorem Sp.Dg {v w:Sp}(h1:v.can)(h2:w.can):(v.meet w).can:=by
 unfold Sp.meet
 constructor<;>dsimp only
 ·cases hv:v.a with
  | false=>intro h;cases h
  | true=>exact fun h=>h2.1 h
 ·cases hv:v.b with
  | false=>intro h;cases h
  | true=>exact fun h=>h2.2 h
def Sp.cL (s:Sp):Rat:=if s.a then (if s.b then 0 else s.hi-((1:Int):Rat)) else if s.b then s.lo+((1:Int):Rat) else (s.lo+s.hi)*((2:Int):Rat)⁻¹
theorem Sp.Ha {s:Sp}(h:s.emp=false):(s.a=false->s.lo<s.cL)/\(s.b=false->s.cL<s.hi):=by
 rw [Sp.kX] at h
 unfold Sp.cL
 cases ha:s.a<;>cases hb:s.b<;>simp [ha,hb] at h⊢<;> grind
def d_ (m l:L3):Rat:=((m.1:Rat)*(l.2.1:Rat))+((m.2.1:Rat)*(-(l.1:Rat)))
def j7 (m l:L3):Rat:=ar m (gX l 0) (h_ l 0)
theorem wk (m l:L3)(t:Rat):ar m (gX l t) (h_ l t)=j7 m l+d_ m l*t:=by
 unfold j7 ar d_ gX h_;grind
def dZ (m l:L3):Rat:=-(j7 m l*(d_ m l)⁻¹)
def dv (l:L3)(s:Sp)(m:L3):Sp:=
 if (d_ m l).num.sign==0 then s else if (d_ m l).num.sign==1 then s.meet ⟨dZ m l,0,false,true⟩ else s.meet ⟨0,dZ m l,true,false⟩
def dU (l:L3)(s:Sp)(m:L3):Bool:=
 if (d_ m l).num.sign==0 then decide ((j7 m l).num.sign>0) else !(dv l s m).emp
theorem lC (q:Rat):(q=0/\q.num.sign=0)\/(0<q/\q.num.sign=1)\/(q<0/\q.num.sign=-1):=by
 have h1:=@Dm q
 have h2:=@Dn q
 have h3:=@Rat.num_eq_zero q
 rcases Int.lt_trichotomy q.num 0 with h|h|h
 ·exact .inr (.inr ⟨h1.1 h,Int.sign_eq_neg_one_of_neg h⟩)
 ·exact .inl ⟨h3.1 h,by rw [h];rfl⟩
 ·exact .inr (.inl ⟨h2.1 h,Int.sign_eq_one_of_pos h⟩)
theorem Jg {l:L3}{s:Sp}{m:L3}(he:s.emp=false)(hb:dU l s m=true):(dv l s m).emp=false:=by
 unfold dU at hb
 split at hb
 ·rename_i h
  unfold dv
  rw [if_pos h];exact he
 ·simpa using hb
theorem Jh {l:L3}{s:Sp}{m:L3}(hc:s.can):(dv l s m).can:=by
 unfold dv
 split
 ·exact hc
 ·split
  ·exact Sp.Dg hc ⟨(fun h=>nomatch h),fun _=>rfl⟩
  ·exact Sp.Dg hc ⟨fun _=>rfl,(fun h=>nomatch h)⟩
theorem val_rev (m:L3)(x y:Rat):ar (fR m) x y=-ar m x y:=by
 unfold ar fR;simp only [Rat.intCast_neg];grind
def aU (l m:L3):Rat:=((l.1:Rat)*(m.2.1:Rat))-((l.2.1:Rat)*(m.1:Rat))
def GX (l m:L3):Rat:=(((l.2.1:Rat)*(m.2.2:Rat))-((l.2.2:Rat)*(m.2.1:Rat)))*(aU l m)⁻¹
def GY (l m:L3):Rat:=(((l.2.2:Rat)*(m.1:Rat))-((l.1:Rat)*(m.2.2:Rat)))*(aU l m)⁻¹
theorem jV.ag {k:Nat}{l:L3}(h:jV k l)(hk:k<=1099511627776):(ag l.1.natAbs).length<=1099511627776/\(ag l.2.1.natAbs).length<=1099511627776/\(ag l.2.2.natAbs).length<=1099511627776:=by
 have d1:=af (show l.1.natAbs<2^k from h.1.1)
 have d2:=af (show l.2.1.natAbs<2^k from h.2.1.1)
 have d3:=af (show l.2.2.natAbs<2^k from h.2.2.1)
 exact ⟨by omega,by omega,by omega⟩
def SA (V:View)(ad:Addr)(l:L3)(s:Sp):Prop:=∃xs:List Value,PF V (.agg xs.toArray) l s/\∀i x,xs[i]?=some x->V.at (ad.add i) x
theorem SA.le {V V':View}{ad:Addr}{l:L3}{s:Sp}(h:SA V ad l s)(e:V.Le V'):SA V' ad l s:=by
 obtain ⟨xs,h1,h2⟩:=h;exact ⟨xs,h1.le e,fun i x hx=>e.at (h2 i x hx)⟩
structure N8 (V:View) (p:OA) (n:Nat) (fs:List (L3×Sp)):Prop where
 len:n=fs.length
 at_:∀(i:Nat)(h:i<fs.length),∃ad,ah p (i*14)=some ad/\SA V ad fs[i].1 fs[i].2
theorem N8.le {V V':View}{p:OA}{n:Nat}{fs:List (L3×Sp)}(h:N8 V p n fs)(e:V.Le V'):N8 V' p n fs:=⟨h.len,fun i hi=>by obtain ⟨ad,h1,h2⟩:=h.at_ i hi;exact ⟨ad,h1,h2.le e⟩⟩
theorem mi {p:OA}{j:Nat}{ad:Addr}(h:ah p j=some ad):p.isSome=true:=by
 cases p with
 | none=>cases h
 | some a=>rfl
def SG (V:View)(ad:Addr)(s:Sp):Prop:=∃xs:List Value,ED V (.agg xs.toArray) s/\∀i x,xs[i]?=some x->V.at (ad.add i) x
theorem SG.le {V V':View}{ad:Addr}{s:Sp}(h:SG V ad s)(e:V.Le V'):SG V' ad s:=by
 obtain ⟨xs,h1,h2⟩:=h;exact ⟨xs,h1.le e,fun i x hx=>e.at (h2 i x hx)⟩
structure Tt (V:View) (p:OA) (n:Nat) (ss:List Sp):Prop where
 len:n=ss.length
 at_:∀(i:Nat)(h:i<ss.length),∃ad,ah p (i*8)=some ad/\SG V ad ss[i]
theorem Tt.le {V V':View}{p:OA}{n:Nat}{ss:List Sp}(h:Tt V p n ss)(e:V.Le V'):Tt V' p n ss:=⟨h.len,fun i hi=>by obtain ⟨ad,h1,h2⟩:=h.at_ i hi;exact ⟨ad,h1,h2.le e⟩⟩
def Sp.la (s:Sp)(t:Rat):Int:=if s.a then 1 else eR t s.lo
def Sp.lb (s:Sp)(t:Rat):Int:=if s.b then -1 else eR t s.hi
theorem EU {V:View}{v:Value}{q:Rat}(h:RQ V v q):ab prog 57 #[v] V fun r V'=>RQ V' r (-q):=by
 obtain ⟨p,n,c,p',n',c',rfl,h1,h2⟩:=h
 exact kc q h1 h2
theorem KY {px py qx qy:Rat}:((mE px py qx qy).1.num / (gV (mE px py qx qy).1.num (mE px py qx qy).2.1.num (mE px py qx qy).2.2.num:Int),(mE px py qx qy).2.1.num / (gV (mE px py qx qy).1.num (mE px py qx qy).2.1.num (mE px py qx qy).2.2.num:Int),(mE px py qx qy).2.2.num / (gV (mE px py qx qy).1.num (mE px py qx qy).2.1.num (mE px py qx qy).2.2.num:Int))=FV px py qx qy:=by
 unfold mE FV Rk Be
 have e:∀x:Rat,(-x).den=x.den:=fun x=>rfl
 rw [e (-(qy-py)*px+(qx-px)*py)]
 rfl
theorem KZ {px py qx qy:Rat}:((mE px py qx qy).1.num=0/\(mE px py qx qy).2.1.num=0)↔(px=qx/\py=qy):=by
 unfold mE
 dsimp only
 generalize hf:(-(qy-py)).den*(qx-px).den*(-(-(qy-py)*px+(qx-px)*py)).den=f
 have hf0:f≠0:=by rw [←hf];exact Nat.mul_ne_zero (Nat.mul_ne_zero (Rat.den_nz _) (Rat.den_nz _)) (Rat.den_nz _)
 have hf1:((f:Int):Rat)≠0:=by exact_mod_cast hf0
 rw [Rat.num_eq_zero,Rat.num_eq_zero,Rat.mul_eq_zero,Rat.mul_eq_zero,or_iff_left hf1,or_iff_left hf1]
 exact MW.symm
theorem Il {V:View}{u w:Value}{px py qx qy:Rat}(hp:RP V u px py)(hq:RP V w qx qy){k:Nat}(s1:Sz k px)(s2:Sz k py)(s3:Sz k qx)(s4:Sz k qy)(hk1:1<=k)(hk:64*k+64<274877906944) :
  ab prog 11 #[u,w] V fun r V'=>(px=qx/\py=qy->∃l,r=.tuple #[l,.bool false]/\RL V' l 0 0 0)/\(¬(px=qx/\py=qy)->∃l,r=.tuple #[l,.bool true]/\RL V' l (FV px py qx qy).1 (FV px py qx qy).2.1 (FV px py qx qy).2.2):=by
 refine (lH hp hq s1 s2 s3 s4 hk1 hk).mono ?_
 rintro r V2 l2 ⟨m1,m2⟩
 have e:=KY (px:=px) (py:=py) (qx:=qx) (qy:=qy)
 rw [KZ] at m1 m2
 refine ⟨m1,fun h=>?_⟩
 obtain ⟨l,hl,g⟩:=m2 h
 rw [←e]
 exact ⟨l,hl,g⟩
theorem YR.ex {V:View}{v:Value}{l:L3}{s:Sp}(h:N9 V v l s):∃(x1 x2:Int)(p:OA)(y1 y2:Int)(q:OA)(z1 z2:Int)(r:OA)(u1 u2:Int)(t:OA)(w1 w2:Int)(o:OA),
 v=.agg #[.int .i64 x1,.int .i64 x2,.pointer p,.int .i64 y1,.int .i64 y2,.pointer q,.int .i64 z1,.int .i64 z2,.pointer r,.int .i64 u1,.int .i64 u2,.pointer t,.int .i64 w1,.int .i64 w2,.pointer o,.bool s.a,.bool s.b]:=by
 obtain ⟨_,_,_,_,_,_,_,_,_,_,_,_,_,_,_,e,-⟩:=h;exact ⟨_,_,_,_,_,_,_,_,_,_,_,_,_,_,_,e⟩
theorem EN {V:View}{v w:Value}{x y:Rat}(hx:RR V v x)(hy:RR V w y){k:Nat}(sx:Sz k x)(sy:Sz k y)(hk:2*k<1099511627776) :
  ab prog 222 #[v,w] V fun r V'=>RR V' r (Df x y):=by
 have hx0:=hx
 have hy0:=hy
 obtain ⟨a,b,c,rfl⟩:=hx.shape
 obtain ⟨d,e,f,rfl⟩:=hy.shape
 refine D1 a b c d e f V _ fun V1 l1=>(kI (hy0.le l1) (hx0.le l1) sy sx (by omega)).mono ?_
 rintro r V2 l2 rfl
 unfold Df
 exact ⟨_,rfl,fun h V3 l3=>by rw [if_pos (of_decide_eq_true h)];exact hy0.le (l1.trans (l2.trans l3)),fun h V4 l4=>by rw [if_neg (of_decide_eq_false h)];exact hx0.le (l1.trans (l2.trans l4))⟩
theorem EO {V:View}{v w:Value}{x y:Rat}(hx:RR V v x)(hy:RR V w y){k:Nat}(sx:Sz k x)(sy:Sz k y)(hk:2*k<1099511627776) :
  ab prog 145 #[v,w] V fun r V'=>RR V' r (Di x y):=by
 have hx0:=hx
 have hy0:=hy
 obtain ⟨a,b,c,rfl⟩:=hx.shape
 obtain ⟨d,e,f,rfl⟩:=hy.shape
 refine D2 a b c d e f V _ fun V1 l1=>(kI (hy0.le l1) (hx0.le l1) sy sx (by omega)).mono ?_
 rintro r V2 l2 rfl
 unfold Di
 exact ⟨_,rfl,fun h V3 l3=>by rw [if_pos (of_decide_eq_true h)];exact hy0.le (l1.trans (l2.trans l3)),fun h V4 l4=>by rw [if_neg (of_decide_eq_false h)];exact hx0.le (l1.trans (l2.trans l4))⟩
theorem Sp.Bg {v w:Sp}{k:Nat}(h1:v.sz k)(h2:w.sz k):(v.meet w).sz k:=by
 unfold Sp.meet Sp.sz Df Di
 constructor<;>dsimp only
 ·split
  ·exact h2.1
  ·split
   ·exact h1.1
   ·split
    ·exact h2.1
    ·exact h1.1
 ·split
  ·exact h2.2
  ·split
   ·exact h1.2
   ·split
    ·exact h2.2
    ·exact h1.2
theorem zu {V:View}{v w:Value}{s t:Sp}(h:Gq V v s)(h':Gq V w t){k:Nat}(hs:s.sz k)(ht:t.sz k)(hk:2*k<1099511627776) :
  ab prog 195 #[v,w] V fun r V'=>∃u,r=.tuple #[u,.bool (!(s.meet t).emp)]/\Gq V' u (s.meet t):=by
 obtain ⟨x1,x2,p,y1,y2,q,rfl,h1,h2⟩:=h
 obtain ⟨u1,u2,o,w1,w2,j,rfl,g1,g2⟩:=h'
 have Vl:s.a=true->(s.meet t).lo=t.lo/\(s.meet t).a=t.a:=fun e=>by simp [Sp.meet,e]
 have lo2:s.a=false->t.a=false->(s.meet t).lo=Df s.lo t.lo:=fun e e'=>by simp [Sp.meet,e,e']
 have lo3:s.a=false->t.a=true->(s.meet t).lo=s.lo:=fun e e'=>by simp [Sp.meet,e,e']
 have Yn:s.a=false->(s.meet t).a=s.a:=fun e=>by simp [Sp.meet,e]
 have hi1:s.b=true->(s.meet t).hi=t.hi/\(s.meet t).b=t.b:=fun e=>by simp [Sp.meet,e]
 have hi2:s.b=false->t.b=false->(s.meet t).hi=Di s.hi t.hi:=fun e e'=>by simp [Sp.meet,e,e']
 have hi3:s.b=false->t.b=true->(s.meet t).hi=s.hi:=fun e e'=>by simp [Sp.meet,e,e']
 have hi4:s.b=false->(s.meet t).b=s.b:=fun e=>by simp [Sp.meet,e]
 refine wC x1 x2 p y1 y2 q s.a s.b u1 u2 o w1 w2 j t.a t.b V _ ⟨fun z V1=>RR V1 (.agg #[.int .i64 z.1,.int .i64 z.2.1,.pointer z.2.2.1]) (s.meet t).lo/\RR V1 (.agg #[.int .i64 z.2.2.2.1,.int .i64 z.2.2.2.2.1,.pointer z.2.2.2.2.2.1]) s.hi/\z.2.2.2.2.2.2.1=(s.meet t).a/\z.2.2.2.2.2.2.2=s.b,⟨fun ha=>?_,fun ha=>⟨fun hb V1 l1=>(EN (h1.le l1) (g1.le l1) hs.1 ht.1 hk).mono ?_,fun hb=>?_⟩⟩,?_⟩
 ·refine ⟨(u1,u2,o,y1,y2,q,t.a,s.b),by and_intros<;>rfl,?_,h2,(Vl ha).2.symm,rfl⟩
  rw [(Vl ha).1];exact g1
 ·rintro r V2 l2 g
  rw [Bool.not_eq_true'] at hb
  have g0:=g
  obtain ⟨a1,a2,a3,rfl⟩:=g.shape
  refine ⟨_,_,_,rfl,(a1,a2,a3,y1,y2,q,s.a,s.b),by and_intros<;>rfl,?_,h2.le (l1.trans l2),(Yn ha).symm,rfl⟩
  rw [lo2 ha hb];exact g0
 ·rw [Bool.not_eq_false'] at hb
  refine ⟨(x1,x2,p,y1,y2,q,s.a,s.b),by and_intros<;>rfl,?_,h2,(Yn ha).symm,rfl⟩
  rw [lo3 ha hb];exact h1
 ·rintro ⟨z1,z2,z3,z4,z5,z6,z7,z8⟩ V3 l3 ⟨k1,k2,k3,k4⟩
  dsimp only at k1 k2 k3 k4
  subst k3 k4
  refine ⟨rfl,fun z V1=>RR V1 (.agg #[.int .i64 z.1,.int .i64 z.2.1,.pointer z.2.2.1]) (s.meet t).lo/\RR V1 (.agg #[.int .i64 z.2.2.2.1,.int .i64 z.2.2.2.2.1,.pointer z.2.2.2.2.2.1]) (s.meet t).hi/\z.2.2.2.2.2.2.1=(s.meet t).a/\z.2.2.2.2.2.2.2=(s.meet t).b,⟨fun ha=>?_,fun ha=>⟨fun hb V4 l4=>(EO (h2.le (l3.trans l4)) (g2.le (l3.trans l4)) hs.2 ht.2 hk).mono ?_,fun hb=>?_⟩⟩,?_⟩
  ·refine ⟨(z1,z2,z3,w1,w2,j,(s.meet t).a,t.b),by and_intros<;>rfl,k1,?_,rfl,(hi1 ha).2.symm⟩
   rw [(hi1 ha).1];exact g2.le l3
  ·rintro r V5 l5 g
   rw [Bool.not_eq_true'] at hb
   have g0:=g
   obtain ⟨a1,a2,a3,rfl⟩:=g.shape
   refine ⟨_,_,_,rfl,(z1,z2,z3,a1,a2,a3,(s.meet t).a,s.b),by and_intros<;>rfl,k1.le (l4.trans l5),?_,rfl,(hi4 ha).symm⟩
   rw [hi2 ha hb];exact g0
  ·rw [Bool.not_eq_false'] at hb
   refine ⟨(z1,z2,z3,z4,z5,z6,(s.meet t).a,s.b),by and_intros<;>rfl,k1,?_,rfl,(hi4 ha).symm⟩
   rw [hi3 ha hb];exact k2
  ·rintro ⟨y1,y2,y3,y4,y5,y6,y7,y8⟩ V6 l6 ⟨j1,j2,j3,j4⟩
   dsimp only at j1 j2 j3 j4
   subst j3 j4
   refine ⟨rfl,fun V7 l7=>(EM ⟨_,_,_,_,_,_,rfl,j1.le l7,j2.le l7⟩ (Sp.Bg hs ht) hk).mono ?_⟩
   rintro r V8 l8 rfl
   exact ⟨_,rfl,fun V9 l9=>⟨_,rfl,_,_,_,_,_,_,rfl,j1.le (l7.trans (l8.trans l9)),j2.le (l7.trans (l8.trans l9))⟩⟩
theorem ni {L M:L3}{k:Nat}(sl:jV k L)(sm:jV k M):Sz (4*k+3) (d_ M L):=dq sm.1 sm.2.1 sl.2.1 sl.1.neg
theorem I1 {L M:L3}:(((M.1:Rat)*((L.1:Rat)*(((-(L.2.2:Rat))*(((L.1:Rat)*(L.1:Rat))+((L.2.1:Rat)*(L.2.1:Rat)))⁻¹))))+((M.2.1:Rat)*((L.2.1:Rat)*(((-(L.2.2:Rat))*(((L.1:Rat)*(L.1:Rat))+((L.2.1:Rat)*(L.2.1:Rat)))⁻¹)))))+(M.2.2:Rat)=j7 M L:=by
 unfold j7 ar gX h_ fv;grind
theorem nh {L M:L3}{k:Nat}(sl:jV k L)(sm:jV k M):Sz (50*k+49) (j7 M L):=by
 rw [←I1]
 exact Sz.mono (kC (k:=10*k+9) (sm.1.mono (by omega)) (sm.2.1.mono (by omega)) (sm.2.2.mono (by omega)) (dL sl.1 sl.2.1 sl.2.2) (dM sl.1 sl.2.1 sl.2.2)) (by omega)
theorem tZ {L M:L3}{k:Nat}(sl:jV k L)(sm:jV k M):Sz (60*k+60) (dZ M L):=Sz.mono ((nh sl sm).mul (dh (ni sl sm))).neg (by omega)
theorem MV (k:Nat)(hk:0<k):Sz k (0:Rat):=⟨by show (0:Int).natAbs<_;exact Nat.lt_of_lt_of_le (by decide) (Nat.one_le_two_pow),Nat.one_lt_two_pow (by omega)⟩
theorem Cu {V:View}{l v m:Value}{L:L3}{s:Sp}{M:L3}(hl:ue V l L)(hv:Gq V v s)(hm:ue V m M){k:Nat}(sl:jV k L)(hs:s.sz k)(sm:jV k M)(hk:200*k+200<274877906944) :
  ab prog 160 #[l,v,m] V fun r V'=>∃w,r=.tuple #[w,.bool (dU L s M)]/\Gq V' w (dv L s M):=by
 have hl0:=hl
 have hv0:=hv
 have hm0:=hm
 obtain ⟨_,_,_,_,_,_,_,_,_,rfl,-,-,-⟩:=hl
 obtain ⟨_,_,_,_,_,_,rfl,-,-⟩:=hv
 obtain ⟨_,_,_,_,_,_,_,_,_,rfl,-,-,-⟩:=hm
 have hs':s.sz (60*k+60):=⟨hs.1.mono (by omega),hs.2.mono (by omega)⟩
 have z:=MV (60*k+60) (by omega)
 refine yl _ _ _ _ _ _ _ _ _ _ _ _ _ _ _ _ _ _ _ _ _ _ _ _ _ _ V _ fun V1 l1=>(dH (hm0.le l1) sm.1 sm.2.1 sm.2.2 (by omega)).mono ?_
 rintro r V2 l2 g1
 have g10:=g1
 obtain ⟨_,_,_,_,_,_,rfl,-,-⟩:=g1
 refine ⟨_,_,_,_,_,_,rfl,fun V3 l3=>(kL (hl0.le (l1.trans (l2.trans l3))) sl.1 sl.2.1 sl.2.2 (by omega)).mono ?_⟩
 rintro r V4 l4 g2
 have g20:=g2
 obtain ⟨_,_,_,_,_,_,rfl,-,-⟩:=g2
 refine ⟨_,_,_,_,_,_,rfl,fun V5 l5=>(kM (g10.le (l3.trans (l4.trans l5))) (g20.le l5) sm.1 sm.2.1 sl.2.1 sl.1.neg (by omega)).mono ?_⟩
 rintro r V6 l6 g3
 have kE:RR V6 r (d_ M L):=g3
 obtain ⟨_,_,_,rfl⟩:=g3.shape
 have L6:V.Le V6:=l1.trans (l2.trans (l3.trans (l4.trans (l5.trans l6))))
 refine ⟨_,_,_,rfl,fun V7 l7=>(nG (hl0.le (L6.trans l7)) sl.1 sl.2.1 sl.2.2 (by omega)).mono ?_⟩
 rintro r V8 l8 g4
 have E7:=g4
 obtain ⟨_,_,_,_,_,_,rfl,-,-⟩:=g4
 refine ⟨_,_,_,_,_,_,rfl,fun V9 l9=>(lX (k:=10*k+9) (hm0.le (L6.trans (l7.trans (l8.trans l9)))) (E7.le l9) (sm.1.mono (by omega)) (sm.2.1.mono (by omega)) (sm.2.2.mono (by omega)) (dL sl.1 sl.2.1 sl.2.2) (dM sl.1 sl.2.1 sl.2.2) (by omega)).mono ?_⟩
 rintro r jk l10 g5
 rw [I1] at g5
 have Js:=g5
 obtain ⟨_,_,_,rfl⟩:=g5.shape
 have yT:V6.Le jk:=l7.trans (l8.trans (l9.trans l10))
 refine ⟨_,_,_,rfl,fun jh bK=>(eQ (kE.le (yT.trans bK)) (ni sl sm) (by omega)).mono ?_⟩
 rintro r lS cg rfl
 have Ho:jk.Le lS:=bK.trans cg
 refine ⟨_,rfl,fun hz oR cK=>(eQ (Js.le (Ho.trans cK)) (nh sl sm) (by omega)).mono ?_,fun hz=>⟨fun h1 lT dw=>(oW (Js.le (Ho.trans dw)) (kE.le (yT.trans (Ho.trans dw))) (nh sl sm) (ni sl sm) (by omega)).mono ?_,fun h1 xl fX=>(oW (Js.le (Ho.trans fX)) (kE.le (yT.trans (Ho.trans fX))) (nh sl sm) (ni sl sm) (by omega)).mono ?_⟩⟩
 ·rintro r mP dN rfl
  have eB:dU L s M=decide ((j7 M L).num.sign>0):=by unfold dU;rw [if_pos hz]
  have eS:dv L s M=s:=by unfold dv;rw [if_pos hz]
  rw [eB,eS]
  exact ⟨_,rfl,fun lE dF=>⟨_,rfl,hv0.le (L6.trans (yT.trans (Ho.trans (cK.trans (dN.trans dF)))))⟩⟩
 ·have eS:dv L s M=s.meet ⟨dZ M L,0,false,true⟩:=by unfold dv;rw [if_neg (by rw [hz];exact Bool.false_ne_true),if_pos h1]
  have eB:dU L s M=!(s.meet ⟨dZ M L,0,false,true⟩).emp:=by rw [←eS];unfold dU;rw [if_neg (by rw [hz];exact Bool.false_ne_true)]
  rw [eB,eS]
  rintro r nk dj g6
  have Ox:=g6
  obtain ⟨_,_,_,rfl⟩:=g6.shape
  refine ⟨_,_,_,rfl,fun qn dB=>(oV (Ox.le dB) ((nh sl sm).mul (dh (ni sl sm))) (by omega)).mono ?_⟩
  rintro r tM dI g7
  have Jt:RR tM r (dZ M L):=g7
  obtain ⟨_,_,_,rfl⟩:=g7.shape
  refine ⟨_,_,_,rfl,fun yW fF=>(zu (t:=⟨dZ M L,0,false,true⟩) (hv0.le (L6.trans (yT.trans (Ho.trans (dw.trans (dj.trans (dB.trans (dI.trans fF)))))))) ⟨_,_,_,_,_,_,rfl,Jt.le fF,RR.zero _⟩ hs' ⟨tZ sl sm,z⟩ (by omega)).mono ?_⟩
  rintro r ug fr ⟨w,rfl,g8⟩
  have Qx:=g8
  obtain ⟨_,_,_,_,_,_,rfl,-,-⟩:=g8
  exact ⟨_,_,_,_,_,_,_,_,_,rfl,fun tN il=>⟨_,rfl,Qx.le il⟩⟩
 ·have eS:dv L s M=s.meet ⟨0,dZ M L,true,false⟩:=by unfold dv;rw [if_neg (by rw [hz];exact Bool.false_ne_true),if_neg (by rw [h1];exact Bool.false_ne_true)]
  have eB:dU L s M=!(s.meet ⟨0,dZ M L,true,false⟩).emp:=by rw [←eS];unfold dU;rw [if_neg (by rw [hz];exact Bool.false_ne_true)]
  rw [eB,eS]
  rintro r nk dj g6
  have Ox:=g6
  obtain ⟨_,_,_,rfl⟩:=g6.shape
  refine ⟨_,_,_,rfl,fun qn dB=>(oV (Ox.le dB) ((nh sl sm).mul (dh (ni sl sm))) (by omega)).mono ?_⟩
  rintro r tM dI g7
  have Jt:RR tM r (dZ M L):=g7
  obtain ⟨_,_,_,rfl⟩:=g7.shape
  refine ⟨_,_,_,rfl,fun yW fF=>(zu (t:=⟨0,dZ M L,true,false⟩) (hv0.le (L6.trans (yT.trans (Ho.trans (fX.trans (dj.trans (dB.trans (dI.trans fF)))))))) ⟨_,_,_,_,_,_,rfl,RR.zero _,Jt.le fF⟩ hs' ⟨z,tZ sl sm⟩ (by omega)).mono ?_⟩
  rintro r ug fr ⟨w,rfl,g8⟩
  have Qx:=g8
  obtain ⟨_,_,_,_,_,_,rfl,-,-⟩:=g8
  exact ⟨_,_,_,_,_,_,_,_,_,rfl,fun tN il=>⟨_,rfl,Qx.le il⟩⟩
structure EB (V:View) (p:OA) (n:Nat) (fs:List (L3×Sp)):Prop where
 len:n=fs.length
 at_:∀(i:Nat)(h:i<fs.length),∃ad,ah p (i*17)=some ad/\∃xs:List Value,N9 V (.agg xs.toArray) fs[i].1 fs[i].2/\∀j x,xs[j]?=some x->V.at (ad.add j) x
theorem EB.le {V V':View}{p:OA}{n:Nat}{fs:List (L3×Sp)}(h:EB V p n fs)(e:V.Le V'):EB V' p n fs:=⟨h.len,fun i hi=>by obtain ⟨ad,h1,xs,h2,h3⟩:=h.at_ i hi;exact ⟨ad,h1,xs,h2.le e,fun j x hx=>e.at (h3 j x hx)⟩⟩
theorem EB.nil {V:View}:EB V none 0 []:=⟨rfl,fun i hi=>by simp at hi⟩
theorem EB.one {V:View}{bk:Nat}{xs:List Value}{ty:TypeId}{l:L3}{s:Sp}(hb:V.bI bk (.cells xs.toArray ty (0,0)))(hf:N9 V (.agg xs.toArray) l s):EB V (some ⟨bk,0,none⟩) 1 [(l,s)]:=by
 refine ⟨rfl,fun i hi=>?_⟩
 obtain rfl:i=0:=by simpa using hi
 refine ⟨⟨bk,0,none⟩,by simp [ah,add_zero'],_,hf,fun j x hx=>?_⟩
 rw [add_zero']
 exact fZ hb hx
theorem LL {L M:L3}:((L.1:Rat)=(M.1:Rat)/\(L.2.1:Rat)=(M.2.1:Rat)/\(L.2.2:Rat)=(M.2.2:Rat))↔L=M:=by
 constructor
 ·rintro ⟨h1,h2,h3⟩
  exact Prod.ext (Rat.intCast_inj.1 h1) (Prod.ext (Rat.intCast_inj.1 h2) (Rat.intCast_inj.1 h3))
 ·rintro rfl
  exact ⟨rfl,rfl,rfl⟩
theorem Md {V:View}{v w:Value}{L M:L3}(hl:ue V v L)(hm:ue V w M){k:Nat}(sl:jV k L)(sm:jV k M)(hk:k+k<1099511627776) :
  ab prog 134 #[v,w] V fun r V'=>r=.bool (decide (L=M)):=by
 refine (Cx hl hm sl.1 sl.2.1 sl.2.2 sm.1 sm.2.1 sm.2.2 hk).mono ?_
 rintro r V' l rfl
 rw [decide_eq_decide.2 LL]
def Ts (u:Value):Prop:=∃(x1 x2:Int)(p:OA)(y1 y2:Int)(q:OA),u=.agg #[.int .i64 x1,.int .i64 x2,.pointer p,.int .i64 y1,.int .i64 y2,.pointer q]
theorem pY {L M:L3}{k:Nat}(sl:jV k L)(sm:jV k M):Sz (4*k+3) (aU L M):=kD sl.1 sl.2.1 sm.1 sm.2.1
theorem Sb {L M:L3}{k:Nat}(sl:jV k L)(sm:jV k M):Sz (10*k+10) (GX L M)/\Sz (10*k+10) (GY L M):=
 ⟨Sz.mono (((sl.2.1.mul sm.2.2).sub (sl.2.2.mul sm.2.1)).mul (dh (pY sl sm))) (by omega),Sz.mono (((sl.2.2.mul sm.1).sub (sl.1.mul sm.2.2)).mul (dh (pY sl sm))) (by omega)⟩
theorem HA {V:View}{l m:Value}{L M:L3}(hl:ue V l L)(hm:ue V m M){k:Nat}(sl:jV k L)(sm:jV k M)(hk:20*k+20<274877906944) :
  ab prog 138 #[l,m] V fun r V'=>∃w,r=.tuple #[w,.bool (decide (aU L M≠0))]/\Ts w/\(aU L M≠0->nE V' w (GX L M) (GY L M)):=by
 have hl0:=hl
 have hm0:=hm
 obtain ⟨_,_,_,_,_,_,_,_,_,rfl,a1,a2,a3⟩:=hl
 obtain ⟨_,_,_,_,_,_,_,_,_,rfl,b1,b2,b3⟩:=hm
 have sd:=pY sl sm
 refine wF _ _ _ _ _ _ _ _ _ _ _ _ _ _ _ _ _ _ V _ fun V1 l1=>(dH (hl0.le l1) sl.1 sl.2.1 sl.2.2 (by omega)).mono ?_
 rintro r V2 l2 g1
 have g10:=g1
 obtain ⟨_,_,_,_,_,_,rfl,-,-⟩:=g1
 refine ⟨_,_,_,_,_,_,rfl,fun V3 l3=>(dH (hm0.le (l1.trans (l2.trans l3))) sm.1 sm.2.1 sm.2.2 (by omega)).mono ?_⟩
 rintro r V4 l4 g2
 have g20:=g2
 obtain ⟨_,_,_,_,_,_,rfl,-,-⟩:=g2
 refine ⟨_,_,_,_,_,_,rfl,fun V5 l5=>(fJ (g10.le (l3.trans (l4.trans l5))) (g20.le l5) sl.1 sl.2.1 sm.1 sm.2.1 (by omega)).mono ?_⟩
 rintro r V6 l6 g3
 have kE:RR V6 r (aU L M):=g3
 obtain ⟨_,_,_,rfl⟩:=g3.shape
 have L6:V.Le V6:=l1.trans (l2.trans (l3.trans (l4.trans (l5.trans l6))))
 refine ⟨_,_,_,rfl,fun V7 l7=>(uy (kE.le l7)).mono ?_⟩
 rintro r V8 l8 rfl
 have L8:=l7.trans l8
 refine ⟨_,rfl,fun h V9 l9=>?_,fun h jk l10=>(e_ (a2.le (L6.trans (L8.trans l10))) (b3.le (L6.trans (L8.trans l10))) sl.2.1 sm.2.2 (by omega)).mono ?_⟩
 ·have h:=of_decide_eq_true h
  have e:decide (aU L M≠0)=false:=by simp [h]
  rw [e]
  exact ⟨_,rfl,⟨_,_,_,_,_,_,rfl⟩,fun h'=>absurd h h'⟩
 ·have h:=of_decide_eq_false h
  have e:decide (aU L M≠0)=true:=by simp [h]
  rw [e]
  have Tn:=L6.trans (L8.trans l10)
  rintro r jh bK q1
  have Mx:=q1
  obtain ⟨_,_,_,rfl⟩:=q1.shape
  refine ⟨_,_,_,rfl,fun lS cg=>(e_ (a3.le (Tn.trans (bK.trans cg))) (b2.le (Tn.trans (bK.trans cg))) sl.2.2 sm.2.1 (by omega)).mono ?_⟩
  rintro r oR cK q2
  have q20:=q2
  obtain ⟨_,_,_,rfl⟩:=q2.shape
  refine ⟨_,_,_,rfl,fun mP dN=>(oX (Mx.le (cg.trans (cK.trans dN))) (q20.le dN) (sl.2.1.mul sm.2.2) (sl.2.2.mul sm.2.1) (by omega)).mono ?_⟩
  rintro r lE dF q3
  have q30:=q3
  obtain ⟨_,_,_,rfl⟩:=q3.shape
  have To:jk.Le lE:=bK.trans (cg.trans (cK.trans (dN.trans dF)))
  refine ⟨_,_,_,rfl,fun lT dw=>(oW (q30.le dw) (kE.le (L8.trans (l10.trans (To.trans dw)))) ((sl.2.1.mul sm.2.2).sub (sl.2.2.mul sm.2.1)) sd (by omega)).mono ?_⟩
  rintro r nk dj q4
  have q40:RR nk r (GX L M):=q4
  obtain ⟨_,_,_,rfl⟩:=q4.shape
  have SB:V.Le nk:=Tn.trans (To.trans (dw.trans dj))
  refine ⟨_,_,_,rfl,fun qn dB=>(e_ (a3.le (SB.trans dB)) (b1.le (SB.trans dB)) sl.2.2 sm.1 (by omega)).mono ?_⟩
  rintro r tM dI p1
  have G6:=p1
  obtain ⟨_,_,_,rfl⟩:=p1.shape
  refine ⟨_,_,_,rfl,fun yW fF=>(e_ (a1.le (SB.trans (dB.trans (dI.trans fF)))) (b3.le (SB.trans (dB.trans (dI.trans fF)))) sl.1 sm.2.2 (by omega)).mono ?_⟩
  rintro r ug fr p2
  have p20:=p2
  obtain ⟨_,_,_,rfl⟩:=p2.shape
  refine ⟨_,_,_,rfl,fun tN il=>(oX (G6.le (fF.trans (fr.trans il))) (p20.le il) (sl.2.2.mul sm.1) (sl.1.mul sm.2.2) (by omega)).mono ?_⟩
  rintro r xl fX p3
  have p30:=p3
  obtain ⟨_,_,_,rfl⟩:=p3.shape
  have WM:nk.Le xl:=dB.trans (dI.trans (fF.trans (fr.trans (il.trans fX))))
  refine ⟨_,_,_,rfl,fun IF mX=>(oW (p30.le mX) (kE.le (L8.trans (l10.trans (To.trans (dw.trans (dj.trans (WM.trans mX))))))) ((sl.2.2.mul sm.1).sub (sl.1.mul sm.2.2)) sd (by omega)).mono ?_⟩
  rintro r Ht kh p4
  have p40:RR Ht r (GY L M):=p4
  obtain ⟨_,_,_,rfl⟩:=p4.shape
  exact ⟨_,_,_,rfl,fun IV lQ=>⟨_,rfl,⟨_,_,_,_,_,_,rfl⟩,fun _=>⟨_,_,_,_,_,_,rfl,q40.le (WM.trans (mX.trans (kh.trans lQ))),p40.le lQ⟩⟩⟩
theorem S5 (V:View):RQ V (.agg #[.bool false,.slice none 0 0,.slice none 0 0]) 0:=by have:=RQ.zero (V:=V);simpa using this
theorem AO {V:View}:ab prog 152 #[] V fun r V'=>ED V' r ⟨0,0,true,true⟩:=
 yL V _ fun V1 l1=>⟨_,_,_,_,_,_,_,_,_,_,_,_,_,_,rfl,S5 _,S5 _⟩
theorem DN {V:View}{v:Value}{s:Sp}(h:ED V v s):∃b p n c p' n' c' d q m e q' m' e',v=.agg #[.bool b,.slice p n c,.slice p' n' c',.bool d,.slice q m e,.slice q' m' e',.bool s.a,.bool s.b]:=by
 obtain ⟨_,_,_,_,_,_,_,_,_,_,_,_,_,_,e,-⟩:=h;exact ⟨_,_,_,_,_,_,_,_,_,_,_,_,_,_,e⟩
theorem zH {V:View}{p:OA}{n c:Nat}{ds:List Nat}(h:RD V p n c ds)(hm:ds.length<=1099511627776) :
  ab prog 105 #[.slice p n c] V fun r V'=>∃p1 n1 c1,r=.slice p1 n1 c1/\RN V' p1 n1 c1 (val ds):=by
 have hl:=h.len
 refine Gk p n c V _ ⟨aD ds,h.sl,by simp [hl],by omega,by omega,by simp,by simp [hl],?_,?_⟩
 ·intro v hv
  simp only [aD,List.mem_map] at hv
  obtain ⟨d,-,rfl⟩:=hv
  rfl
 ·intro bk J sp c' h1 h2 V1 l1 b hb
  simp only [Nat.zero_add,Nat.zero_mul,List.take_zero,List.nil_append] at hb h1 ⊢
  refine (dg (copied h.eM hl h1 hb) (by omega)).mono ?_
  rintro r V2 l2 ⟨k,rfl,g⟩
  rw [aO h.eM] at g
  exact ⟨_,_,_,rfl,fun J' V3 l3=>⟨_,_,_,rfl,g.le l3⟩⟩
theorem HH {V:View}(b:Bool){p:OA}{n c:Nat}{ds:List Nat}(h:RD V p n c ds)(hm:ds.length<=1099511627776) :
  ab prog 107 #[.agg #[.bool b,.slice p n c]] V fun r V'=>RI V' r (aY b ds):=by
 refine Gj b p n c V _ fun V1 l1=>(zH (h.le l1) hm).mono ?_
 rintro r V2 l2 ⟨p1,n1,c1,rfl,g⟩
 refine ⟨_,_,_,rfl,fun V3 l3=>(dX b (g.le l3)).mono ?_⟩
 rintro r V4 l4 ⟨p2,n2,c2,rfl,g2⟩
 exact ⟨_,_,_,_,rfl,fun V5 l5=>⟨_,_,_,rfl,g2.le l5⟩⟩
theorem JI {b:Bool}{ds:List Nat}(h:bV ds):(ag (aY b ds).natAbs).length<=ds.length:=by
 rw [ef];exact bh h
theorem HI {V:View}{v:Value}{b:Bool}{xs ys:List Nat}(h:Lg V v b xs ys)(m1:xs.length<=274877906944)(m2:ys.length<=274877906944) :
  ab prog 43 #[v] V fun r V'=>RQ V' r (Io b xs ys):=by
 obtain ⟨p,n,c,q,m,e,rfl,hx,hy⟩:=h
 have d1:=JI (b:=b) hx.eM
 have d2:=bh hy.eM
 refine Gl b p n c q m e V _ fun V1 l1=>(zH (hy.le l1) (by omega)).mono ?_
 rintro r V2 l2 ⟨p1,n1,c1,rfl,g⟩
 have gl:=g.len
 refine ⟨_,_,_,rfl,fun h0 V3 l3=>?_,fun h0 V4 l4=>(HH b (hx.le (l1.trans (l2.trans l4))) (by omega)).mono ?_⟩
 ·have h0:((n1:Nat):Int)=0:=by simpa using h0
  have:ag (val ys)=[]:=List.length_eq_zero_iff.1 (by omega)
  have:val ys=0:=bD.1 this
  unfold Io
  rw [this,Rat.mkRat_zero]
  have:=RQ.zero (V:=V3)
  simpa using this
 ·have hd:val ys≠0:=fun e=>by
   rw [e] at gl
   have h0:¬((n1:Nat):Int)=0:=by simpa using h0
   exact h0 (by rw [gl];rfl)
  rintro r V5 l5 ⟨p2,n2,c2,rfl,g2⟩
  refine ⟨_,_,_,_,rfl,fun V6 l6=>(iN _ (g2.le l6) (g.le (l4.trans (l5.trans l6))) (by omega) (by omega) hd).mono ?_⟩
  rintro r V7 l7 k
  have k0:=k
  obtain ⟨_,_,_,_,_,_,rfl⟩:=k.shape
  exact ⟨_,_,_,_,_,_,_,rfl,fun V8 l8=>k0.le l8⟩
def SD (V:View)(v:Value)(b1:Bool)(xs:List Nat)(b2:Bool)(ys:List Nat)(b3:Bool)(zs:List Nat):Prop:=∃p n c q m e s i j,v=.agg #[.bool b1,.slice p n c,.bool b2,.slice q m e,.bool b3,.slice s i j]/\RD V p n c xs/\RD V q m e ys/\RD V s i j zs
theorem SD.le {V V':View}{v:Value}{b1:Bool}{xs:List Nat}{b2:Bool}{ys:List Nat}{b3:Bool}{zs:List Nat}(h:SD V v b1 xs b2 ys b3 zs)(l:V.Le V'):SD V' v b1 xs b2 ys b3 zs:=by
 obtain ⟨p,n,c,q,m,e,s,i,j,rfl,h1,h2,h3⟩:=h
 exact ⟨_,_,_,_,_,_,_,_,_,rfl,h1.le l,h2.le l,h3.le l⟩
def Ym (b1:Bool)(xs:List Nat)(b2:Bool)(ys:List Nat)(b3:Bool)(zs:List Nat):L3:=(aY b1 xs,aY b2 ys,aY b3 zs)
structure FW where
 b1:Bool
 xs:List Nat
 b2:Bool
 ys:List Nat
 b3:Bool
 zs:List Nat
 c1:Bool
 us:List Nat
 vs:List Nat
 c2:Bool
 ws:List Nat
 ts:List Nat
 na:Bool
 nb:Bool
def FW.ln (f:FW):L3:=Ym f.b1 f.xs f.b2 f.ys f.b3 f.zs
def FW.sp (f:FW):Sp:=Sa f.c1 f.us f.vs f.c2 f.ws f.ts f.na f.nb
def FW.ok (f:FW):Bool:=vO f.b1 f.xs f.b2 f.ys f.b3 f.zs&&okW f.c1 f.us f.vs f.c2 f.ws f.ts f.na f.nb
structure FW.short (f:FW):Prop where
 x:f.xs.length<=1000000
 y:f.ys.length<=1000000
 z:f.zs.length<=1000000
 u:f.us.length<=1000000
 v:f.vs.length<=1000000
 w:f.ws.length<=1000000
 t:f.ts.length<=1000000
def SC (V:View)(v:Value)(f:FW):Prop:=∃p1 n1 d1 p2 n2 d2 p3 n3 d3 p n c p' n' c' q m e q' m' e',
 v=.agg #[.bool f.b1,.slice p1 n1 d1,.bool f.b2,.slice p2 n2 d2,.bool f.b3,.slice p3 n3 d3,.bool f.c1,.slice p n c,.slice p' n' c',.bool f.c2,.slice q m e,.slice q' m' e',.bool f.na,.bool f.nb] /\
 SD V (.agg #[.bool f.b1,.slice p1 n1 d1,.bool f.b2,.slice p2 n2 d2,.bool f.b3,.slice p3 n3 d3]) f.b1 f.xs f.b2 f.ys f.b3 f.zs /\
 SF V (.agg #[.bool f.c1,.slice p n c,.slice p' n' c',.bool f.c2,.slice q m e,.slice q' m' e',.bool f.na,.bool f.nb]) f.c1 f.us f.vs f.c2 f.ws f.ts f.na f.nb
theorem SC.le {V V':View}{v:Value}{f:FW}(h:SC V v f)(l:V.Le V'):SC V' v f:=by
 obtain ⟨p1,n1,d1,p2,n2,d2,p3,n3,d3,p,n,c,p',n',c',q,m,e,q',m',e',rfl,h1,h2⟩:=h
 exact ⟨_,_,_,_,_,_,_,_,_,_,_,_,_,_,_,_,_,_,_,_,_,rfl,h1.le l,h2.le l⟩
theorem jG {V:View}(z w:Int){p q:OA}{n c m e:Nat}(ha:RD V p n c (ag z.natAbs))(hb:RD V q m e (ag w.natAbs))(hm:(ag z.natAbs).length<=1099511627776)(hn:(ag w.natAbs).length<=1099511627776) :
  ab prog 157 #[.agg #[.bool (decide (z<0)),.slice p n c],.agg #[.bool (decide (w<0)),.slice q m e]] V fun r V'=>r=.int .i64 (z-w).sign:=by
 refine wM _ p n c _ q m e V _ fun V1 l1=>(gP w (hb.le l1)).mono ?_
 rintro r V2 l2 ⟨p1,n1,c1,rfl,g1⟩
 refine ⟨_,_,_,_,rfl,fun V3 l3=>(qC z (-w) (ha.le (l1.trans (l2.trans l3))) (g1.le l3) hm (by rw [Int.natAbs_neg];exact hn)).mono ?_⟩
 rintro r V4 l4 ⟨p2,n2,c2,rfl,g2⟩
 refine ⟨_,_,_,_,rfl,fun V5 l5=>(uF _ (g2.le l5)).mono ?_⟩
 rintro r V6 l6 rfl
 exact ⟨_,rfl,fun V7 l7=>by rw [Int.sub_eq_add_neg]⟩
def HO (l m:L3):Int:=if (l.1-m.1).sign≠0 then (l.1-m.1).sign else if (l.2.1-m.2.1).sign≠0 then (l.2.1-m.2.1).sign else (l.2.2-m.2.2).sign
theorem Gz {l m:L3}:HO l m=0↔l=m:=by
 have e:∀{a b:Int},(a-b).sign=0↔a=b:=fun {a b}=>by rw [Int.sign_eq_zero_iff_zero];omega
 unfold HO
 constructor
 ·intro h
  by_cases h1:(l.1-m.1).sign=0
  ·rw [if_neg (by simpa using h1)] at h
   by_cases h2:(l.2.1-m.2.1).sign=0
   ·rw [if_neg (by simpa using h2)] at h
    exact Prod.ext (e.1 h1) (Prod.ext (e.1 h2) (e.1 h))
   ·rw [if_pos h2] at h;exact absurd h h2
  ·rw [if_pos h1] at h;exact absurd h h1
 ·rintro rfl
  simp
theorem CB {V:View}{v w:Value}{l m:L3}(hl:RL V v l.1 l.2.1 l.2.2)(hm:RL V w m.1 m.2.1 m.2.2){k:Nat}(sl:jV k l)(sm:jV k m)(hk:k<=1099511627776) :
  ab prog 88 #[v,w] V fun r V'=>r=.int .i64 (HO l m):=by
 obtain ⟨d1,d2,d3⟩:=sl.ag hk
 obtain ⟨e1,e2,e3⟩:=sm.ag hk
 obtain ⟨_,_,_,_,_,_,_,_,_,rfl,a1,a2,a3⟩:=hl
 obtain ⟨_,_,_,_,_,_,_,_,_,rfl,b1,b2,b3⟩:=hm
 refine BW _ _ _ _ _ _ _ _ _ _ _ _ _ _ _ _ _ _ _ _ _ _ _ _ V _ fun V1 l1=>(jG _ _ (a1.le l1) (b1.le l1) d1 e1).mono ?_
 rintro r V2 l2 rfl
 unfold HO
 refine ⟨_,rfl,fun h V3 l3=>?_,fun h V4 l4=>(jG _ _ (a2.le (l1.trans (l2.trans l4))) (b2.le (l1.trans (l2.trans l4))) d2 e2).mono ?_⟩
 ·rw [bne_iff_ne] at h
  rw [if_pos h]
 ·rw [bne_eq_false_iff_eq] at h
  rw [if_neg (by rw [h];decide)]
  rintro r V5 l5 rfl
  refine ⟨_,rfl,fun h V6 l6=>?_,fun h V7 l7=>(jG _ _ (a3.le (l1.trans (l2.trans (l4.trans (l5.trans l7))))) (b3.le (l1.trans (l2.trans (l4.trans (l5.trans l7))))) d3 e3).mono ?_⟩
  ·rw [bne_iff_ne] at h
   rw [if_pos h]
  ·rw [bne_eq_false_iff_eq] at h
   rw [if_neg (by rw [h];decide)]
   rintro r V8 l8 rfl
   exact ⟨_,rfl,fun V9 l9=>rfl⟩
theorem Jc {l m:L3}:(HO l m==(0:Int))=decide (l=m):=by
 by_cases h:l=m
 ·rw [decide_eq_true h,beq_iff_eq];exact Gz.2 h
 ·rw [decide_eq_false h,beq_eq_false_iff_ne];exact fun e=>h (Gz.1 e)
def M9 (u:Value):Prop:=u=.agg #[.bool false,.slice none 0 0,.slice none 0 0,.bool false,.slice none 0 0,.slice none 0 0]
theorem Pc {V:View}{v w:Value}{l m:L3}(hl:RL V v l.1 l.2.1 l.2.2)(hm:RL V w m.1 m.2.1 m.2.2){k:Nat}(sl:jV k l)(sm:jV k m)(hk:20*k+20<274877906944) :
  ab prog 91 #[v,w] V fun r V'=>∃u,r=.tuple #[u,.bool (decide (aU l m≠0))]/\(aU l m=0->M9 u)/\(aU l m≠0->RP V' u (GX l m) (GY l m)):=by
 have e0:((l.1:Int):Rat)*((m.2.1:Int):Rat)-((m.1:Int):Rat)*((l.2.1:Int):Rat)=aU l m:=by unfold aU;grind
 have e1:((l.2.1:Int):Rat)*((m.2.2:Int):Rat)-((m.2.1:Int):Rat)*((l.2.2:Int):Rat)=((l.2.1:Rat)*(m.2.2:Rat))-((l.2.2:Rat)*(m.2.1:Rat)):=by grind
 have e2:((m.1:Int):Rat)*((l.2.2:Int):Rat)-((l.1:Int):Rat)*((m.2.2:Int):Rat)=((l.2.2:Rat)*(m.1:Rat))-((l.1:Rat)*(m.2.2:Rat)):=by grind
 obtain ⟨sl1,sl2,NN⟩:=sl
 obtain ⟨NO,NP,NQ⟩:=sm
 obtain ⟨_,_,_,_,_,_,_,_,_,rfl,a1,a2,a3⟩:=hl
 obtain ⟨_,_,_,_,_,_,_,_,_,rfl,b1,b2,b3⟩:=hm
 refine yF _ _ _ _ _ _ _ _ _ _ _ _ _ _ _ _ _ _ _ _ _ _ _ _ V _ fun V1 l1=>(bf (a1.le l1) sl1 (by omega)).mono ?_
 rintro r V2 l2 Xv
 have Ub:=Xv
 obtain ⟨_,_,_,_,_,_,rfl⟩:=Xv.shape
 refine ⟨_,_,_,_,_,_,_,rfl,fun V3 l3=>(bf (b2.le (l1.trans (l2.trans (l3)))) NP (by omega)).mono ?_⟩
 rintro r V4 l4 Xw
 have Uc:=Xw
 obtain ⟨_,_,_,_,_,_,rfl⟩:=Xw.shape
 refine ⟨_,_,_,_,_,_,_,rfl,fun V5 l5=>(aN (Ub.le (l3.trans (l4.trans (l5)))) (Uc.le l5) sl1 NP (by omega)).mono ?_⟩
 rintro r V6 l6 Xx
 have Ud:=Xx
 obtain ⟨_,_,_,_,_,_,rfl⟩:=Xx.shape
 refine ⟨_,_,_,_,_,_,_,rfl,fun V7 l7=>(bf (b1.le (l1.trans (l2.trans (l3.trans (l4.trans (l5.trans (l6.trans (l7)))))))) NO (by omega)).mono ?_⟩
 rintro r V8 l8 Xy
 have Ue:=Xy
 obtain ⟨_,_,_,_,_,_,rfl⟩:=Xy.shape
 refine ⟨_,_,_,_,_,_,_,rfl,fun V9 l9=>(bf (a2.le (l1.trans (l2.trans (l3.trans (l4.trans (l5.trans (l6.trans (l7.trans (l8.trans (l9)))))))))) sl2 (by omega)).mono ?_⟩
 rintro r jk l10 Xz
 have Uf:=Xz
 obtain ⟨_,_,_,_,_,_,rfl⟩:=Xz.shape
 refine ⟨_,_,_,_,_,_,_,rfl,fun jh bK=>(aN (Ue.le (l9.trans (l10.trans (bK)))) (Uf.le bK) NO sl2 (by omega)).mono ?_⟩
 rintro r lS cg XA
 have Ug:=XA
 obtain ⟨_,_,_,_,_,_,rfl⟩:=XA.shape
 refine ⟨_,_,_,_,_,_,_,rfl,fun oR cK=>(gx (Ud.le (l7.trans (l8.trans (l9.trans (l10.trans (bK.trans (cg.trans (cK)))))))) (Ug.le cK) (sl1.mul NP) (NO.mul sl2) (by omega)).mono ?_⟩
 rintro r mP dN Uh
 rw [e0] at Uh
 have CU:=Uh
 obtain ⟨_,_,_,_,_,_,rfl,Ui,-⟩:=Uh
 have sD:Sz (4*k+3) (((l.1:Int):Rat)*((m.2.1:Int):Rat)-((m.1:Int):Rat)*((l.2.1:Int):Rat)):=Sz.mono ((sl1.mul NP).sub (NO.mul sl2)) (by omega)
 rw [e0] at sD
 refine ⟨_,_,_,_,_,_,_,rfl,fun lE dF=>(tP _ (Ui.le dF)).mono ?_⟩
 rintro r lT dw rfl
 refine ⟨_,rfl,fun hz nk dj=>?_,fun hz=>?_⟩
 ·rw [beq_iff_eq,pV] at hz
  rw [hz]
  exact ⟨_,rfl,fun _=>rfl,fun h=>absurd rfl h⟩
 ·rw [beq_eq_false_iff_ne,ne_eq,pV] at hz
  rw [decide_eq_true hz]
  have hz':¬(aU l m).num=0:=fun h=>hz (Rat.num_eq_zero.1 h)
  intro nk dj
  have M0:V.Le nk:=(l1.trans (l2.trans (l3.trans (l4.trans (l5.trans (l6.trans (l7.trans (l8.trans (l9.trans (l10.trans (bK.trans (cg.trans (cK.trans (dN.trans (dF.trans (dw.trans (dj)))))))))))))))))
  replace CU:=CU.le (dF.trans (dw.trans (dj)))
  refine (bf (a2.le M0) sl2 (by omega)).mono ?_
  rintro r qn dB XD
  have Uk:=XD
  obtain ⟨_,_,_,_,_,_,rfl⟩:=XD.shape
  refine ⟨_,_,_,_,_,_,_,rfl,fun tM dI=>(bf (b3.le (M0.trans (dB.trans (dI)))) NQ (by omega)).mono ?_⟩
  rintro r yW fF XE
  have Ul:=XE
  obtain ⟨_,_,_,_,_,_,rfl⟩:=XE.shape
  refine ⟨_,_,_,_,_,_,_,rfl,fun ug fr=>(aN (Uk.le (dI.trans (fF.trans (fr)))) (Ul.le fr) sl2 NQ (by omega)).mono ?_⟩
  rintro r tN il XF
  have Um:=XF
  obtain ⟨_,_,_,_,_,_,rfl⟩:=XF.shape
  refine ⟨_,_,_,_,_,_,_,rfl,fun xl fX=>(bf (b2.le (M0.trans (dB.trans (dI.trans (fF.trans (fr.trans (il.trans (fX)))))))) NP (by omega)).mono ?_⟩
  rintro r IF mX XG
  have Un:=XG
  obtain ⟨_,_,_,_,_,_,rfl⟩:=XG.shape
  refine ⟨_,_,_,_,_,_,_,rfl,fun Ht kh=>(bf (a3.le (M0.trans (dB.trans (dI.trans (fF.trans (fr.trans (il.trans (fX.trans (mX.trans (kh)))))))))) NN (by omega)).mono ?_⟩
  rintro r IV lQ XH
  have Uo:=XH
  obtain ⟨_,_,_,_,_,_,rfl⟩:=XH.shape
  refine ⟨_,_,_,_,_,_,_,rfl,fun Nc lf=>(aN (Un.le (kh.trans (lQ.trans (lf)))) (Uo.le lf) NP NN (by omega)).mono ?_⟩
  rintro r Nf vx XI
  have Up:=XI
  obtain ⟨_,_,_,_,_,_,rfl⟩:=XI.shape
  refine ⟨_,_,_,_,_,_,_,rfl,fun PH zZ=>(gx (Um.le (fX.trans (mX.trans (kh.trans (lQ.trans (lf.trans (vx.trans (zZ)))))))) (Up.le zZ) (sl2.mul NQ) (NP.mul NN) (by omega)).mono ?_⟩
  rintro r Lt Bc Uq
  rw [e1] at Uq
  have OB:=Uq
  obtain ⟨_,_,_,_,_,_,rfl⟩:=Uq.shape
  have sX:Sz (4*k+3) (((l.2.1:Rat)*(m.2.2:Rat))-((l.2.2:Rat)*(m.2.1:Rat))):=by rw [←e1];exact Sz.mono ((sl2.mul NQ).sub (NP.mul NN)) (by omega)
  have M1:V.Le Lt:=(M0.trans (dB.trans (dI.trans (fF.trans (fr.trans (il.trans (fX.trans (mX.trans (kh.trans (lQ.trans (lf.trans (vx.trans (zZ.trans (Bc))))))))))))))
  replace CU:=CU.le (dB.trans (dI.trans (fF.trans (fr.trans (il.trans (fX.trans (mX.trans (kh.trans (lQ.trans (lf.trans (vx.trans (zZ.trans (Bc)))))))))))))
  refine ⟨_,_,_,_,_,_,_,rfl,fun SI Fo=>(bf (b1.le (M1.trans Fo)) NO (by omega)).mono ?_⟩
  rintro r SJ Fs XJ
  have Ur:=XJ
  obtain ⟨_,_,_,_,_,_,rfl⟩:=XJ.shape
  refine ⟨_,_,_,_,_,_,_,rfl,fun P4 xR=>(bf (a3.le (M1.trans (Fo.trans (Fs.trans (xR))))) NN (by omega)).mono ?_⟩
  rintro r Tx IM XK
  have Us:=XK
  obtain ⟨_,_,_,_,_,_,rfl⟩:=XK.shape
  refine ⟨_,_,_,_,_,_,_,rfl,fun WN Ft=>(aN (Ur.le (xR.trans (IM.trans (Ft)))) (Us.le Ft) NO NN (by omega)).mono ?_⟩
  rintro r YV Ny XL
  have Ut:=XL
  obtain ⟨_,_,_,_,_,_,rfl⟩:=XL.shape
  refine ⟨_,_,_,_,_,_,_,rfl,fun V37 NA=>(bf (a1.le (M1.trans (Fo.trans (Fs.trans (xR.trans (IM.trans (Ft.trans (Ny.trans (NA))))))))) sl1 (by omega)).mono ?_⟩
  rintro r V38 Mf XM
  have Uu:=XM
  obtain ⟨_,_,_,_,_,_,rfl⟩:=XM.shape
  refine ⟨_,_,_,_,_,_,_,rfl,fun V39 Mg=>(bf (b3.le (M1.trans (Fo.trans (Fs.trans (xR.trans (IM.trans (Ft.trans (Ny.trans (NA.trans (Mf.trans (Mg))))))))))) NQ (by omega)).mono ?_⟩
  rintro r V40 SX XN
  have Uv:=XN
  obtain ⟨_,_,_,_,_,_,rfl⟩:=XN.shape
  refine ⟨_,_,_,_,_,_,_,rfl,fun V41 Q9=>(aN (Uu.le (Mg.trans (SX.trans (Q9)))) (Uv.le Q9) sl1 NQ (by omega)).mono ?_⟩
  rintro r V42 Vh XO
  have Uw:=XO
  obtain ⟨_,_,_,_,_,_,rfl⟩:=XO.shape
  refine ⟨_,_,_,_,_,_,_,rfl,fun V43 SY=>(gx (Ut.le (NA.trans (Mf.trans (Mg.trans (SX.trans (Q9.trans (Vh.trans (SY)))))))) (Uw.le SY) (NO.mul NN) (sl1.mul NQ) (by omega)).mono ?_⟩
  rintro r V44 Yh Ux
  rw [e2] at Ux
  have Uy:=Ux
  obtain ⟨_,_,_,_,_,_,rfl⟩:=Ux.shape
  have sY:Sz (4*k+3) (((l.2.2:Rat)*(m.1:Rat))-((l.1:Rat)*(m.2.2:Rat))):=by rw [←e2];exact Sz.mono ((NO.mul NN).sub (sl1.mul NQ)) (by omega)
  replace CU:=CU.le (Fo.trans (Fs.trans (xR.trans (IM.trans (Ft.trans (Ny.trans (NA.trans (Mf.trans (Mg.trans (SX.trans (Q9.trans (Vh.trans (SY.trans (Yh))))))))))))))
  replace OB:=OB.le (Fo.trans (Fs.trans (xR.trans (IM.trans (Ft.trans (Ny.trans (NA.trans (Mf.trans (Mg.trans (SX.trans (Q9.trans (Vh.trans (SY.trans (Yh))))))))))))))
  refine ⟨_,_,_,_,_,_,_,rfl,fun V45 NB=>(gj (OB.le NB) (CU.le NB) hz' sX sD (by omega)).mono ?_⟩
  rintro r Ty l46 gr
  have Oz:=gr
  obtain ⟨_,_,_,_,_,_,rfl⟩:=gr.shape
  refine ⟨_,_,_,_,_,_,_,rfl,fun WO Ra=>(gj (Uy.le (NB.trans (l46.trans (Ra)))) (CU.le (NB.trans (l46.trans (Ra)))) hz' sY sD (by omega)).mono ?_⟩
  rintro r Tz Mh gs
  have gs0:=gs
  obtain ⟨_,_,_,_,_,_,rfl⟩:=gs.shape
  exact ⟨_,_,_,_,_,_,_,rfl,fun WQ Yi=>⟨_,rfl,fun h=>absurd h hz,fun _=>⟨_,_,_,_,_,_,_,_,_,_,_,_,rfl,Oz.le (Ra.trans (Mh.trans (Yi))),gs0.le Yi⟩⟩⟩
def Oo:L3:=(0,0,0)
def yV (V:View)(v:Value)(c:L3):Prop:=tK V v c.1 c.2.1 c.2.2/\Bd c
theorem yV.le {V V':View}{v:Value}{c:L3}(h:yV V v c)(l:V.Le V'):yV V' v c:=⟨h.1.le l,h.2⟩
theorem yV.shape {V:View}{v:Value}{c:L3}(h:yV V v c):∃(x y:Int)(p:OA)(xb yb:Int)(pb:OA)(xc yc:Int)(pc:OA),v=.agg #[.int .i64 x,.int .i64 y,.pointer p,.int .i64 xb,.int .i64 yb,.pointer pb,.int .i64 xc,.int .i64 yc,.pointer pc]:=by
 obtain ⟨⟨x1,x2,p,y1,y2,q,z1,z2,r,e,-⟩,-⟩:=h;exact ⟨_,_,_,_,_,_,_,_,_,e⟩
end Go.Proofs.Tryz
namespace Go.Proofs.Tryz
open Go.fB
section
variable {α:Type} {c:α->α->Int} {d:α}
structure PQ (c:α->α->Int) (d:α) (l0 l:List α) (a0 b0 a b:Nat):Prop where
 S7:rG d l0 l a0 b0
 ha:a0<=a
 xQ:a<=b
 hb:b<=b0
 lo:xk c d l a0 a
 hi:xk c d l b b0
 s1:Sep c d l a0 a b0
 s2:Sep c d l a0 b b0
 pre:0<a->∀k,a<=k->k<b->¬c (l.getD k d) (l.getD (a-1) d)<0
variable {l0 l m:List α} {a0 b0 a b mid:Nat}
theorem PQ.start {l:List α}(h:a<=b)(hp:0<a->∀k,a<=k->k<b->¬c (l.getD k d) (l.getD (a-1) d)<0):PQ c d l l a b a b:=
 ⟨.refl _ _ _,Nat.le_refl _,h,Nat.le_refl _,.short (by omega),.short (by omega),fun p q h1 h2=>by omega,fun p q h1 h2 h3 h4=>by omega,hp⟩
theorem PQ.change (h:PQ c d l0 l a0 b0 a b)(hs:rG d l m a b):PQ c d l0 m a0 b0 a b:=
 ⟨h.S7.trans (hs.wide h.ha h.hb),h.ha,h.xQ,h.hb,hs.rH h.lo (.inl (Nat.le_refl _)),hs.rH h.hi (.inr (Nat.le_refl _)),hs.sep h.s1 (.inr (.inl ⟨Nat.le_refl _,h.hb⟩)),hs.sep h.s2 (.inl ⟨h.ha,Nat.le_refl _⟩),fun h0 k h1 h2=>by
  obtain ⟨k',h3,h4,e⟩:=hs.mem k h1 h2
  rw [e,hs.out (a-1) (by omega)]
  exact h.pre h0 k' h3 h4⟩
theorem PQ.fin (h:PQ c d l0 l a0 b0 a b)(hs:rG d l m a b)(ha:xk c d m a b):rG d l0 m a0 b0/\xk c d m a0 b0:=by
 have h':=h.change hs
 refine ⟨h'.S7,h'.lo.join (ha.join h'.hi fun p q h1 h2 h3 h4=>h'.s2 p q (by have:=h.ha;omega) h2 h3 h4) h'.s1⟩
theorem PQ.left (ho:Ord c)(h:PQ c d l0 l a0 b0 a b)(hm:a<=mid)(hm':mid<b)(h1:∀k,a<=k->k<mid->c (l.getD k d) (l.getD mid d)<0)(h2:∀k,mid<k->k<b->¬c (l.getD k d) (l.getD mid d)<0)
  (hs:rG d l m a mid)(ha:xk c d m a mid):PQ c d l0 m a0 b0 (mid+1) b:=by
 have e0:=h.ha
 have e1:=h.hb
 have em:m.getD mid d=l.getD mid d:=hs.out mid (by omega)
 have below:∀k,a<=k->k<mid->¬c (m.getD mid d) (m.getD k d)<0:=fun k g1 g2=>by
  obtain ⟨k',g3,g4,e⟩:=hs.mem k g1 g2
  rw [em,e];exact ho.PI _ _ (h1 k' g3 g4)
 have t1:=hs.sep h.s1 (.inr (.inl ⟨Nat.le_refl _,by omega⟩))
 have t2:=hs.sep h.s2 (.inl ⟨e0,by omega⟩)
 have up:∀q,mid<q->q<b->¬c (m.getD q d) (m.getD mid d)<0:=fun q g1 g2=>by rw [em,hs.out q (by omega)];exact h2 q g1 g2
 refine ⟨h.S7.trans (hs.wide e0 (by omega)),by omega,by omega,e1,(hs.rH h.lo (.inl (Nat.le_refl _))).join (m:=a) (fun p q g1 g2 g3=>?_) fun p q g1 g2 g3 g4=>t1 p q g1 g2 g3 (by omega),hs.rH h.hi (.inr (by omega)),fun p q g1 g2 g3 g4=>?_,t2,fun _ k g1 g2=>up k (by omega) g2⟩
 ·by_cases e:q=mid
  ·subst e;exact below p g1 g2
  ·exact ha p q g1 g2 (by omega)
 ·by_cases hq:b<=q
  ·exact t2 p q g1 (by omega) hq g4
  ·by_cases hp:p<a
   ·exact t1 p q g1 hp (by omega) g4
   ·have u:=up q (by omega) (by omega)
    by_cases e:p=mid
    ·subst e;exact u
    ·exact ho.tr _ _ _ u (below p (by omega) (by omega))
theorem PQ.right (ho:Ord c)(h:PQ c d l0 l a0 b0 a b)(hm:a<=mid)(hm':mid<b)(h1:∀k,a<=k->k<mid->c (l.getD k d) (l.getD mid d)<0)(h2:∀k,mid<k->k<b->¬c (l.getD k d) (l.getD mid d)<0)
  (hs:rG d l m (mid+1) b)(ha:xk c d m (mid+1) b):PQ c d l0 m a0 b0 a mid:=by
 have e0:=h.ha
 have e1:=h.hb
 have em:m.getD mid d=l.getD mid d:=hs.out mid (by omega)
 have up:∀q,mid<q->q<b->¬c (m.getD q d) (m.getD mid d)<0:=fun q g1 g2=>by
  obtain ⟨k',g3,g4,e⟩:=hs.mem q (by omega) g2
  rw [em,e];exact h2 k' (by omega) g4
 have below:∀k,a<=k->k<mid->¬c (m.getD mid d) (m.getD k d)<0:=fun k g1 g2=>by
  rw [em,hs.out k (by omega)];exact ho.PI _ _ (h1 k g1 g2)
 have t1:=hs.sep h.s1 (.inr (.inl ⟨by omega,e1⟩))
 have t2:=hs.sep h.s2 (.inl ⟨by omega,Nat.le_refl _⟩)
 have t3:=hs.rH h.hi (.inr (Nat.le_refl _))
 refine ⟨h.S7.trans (hs.wide (by omega) e1),e0,hm,by omega,hs.rH h.lo (.inl (by omega)),fun p q g1 g2 g3=>?_,t1,fun p q g1 g2 g3 g4=>?_,fun h0 k g1 g2=>?_⟩
 ·by_cases hq:q<b
  ·by_cases e:p=mid
   ·subst e;exact up q g2 hq
   ·exact ha p q (by omega) g2 hq
  ·by_cases hp:p<b
   ·exact t2 p q (by omega) hp (by omega) g3
   ·exact t3 p q (by omega) g2 g3
 ·by_cases hq:b<=q
  ·exact t2 p q g1 (by omega) hq g4
  ·by_cases hp:p<a
   ·exact t1 p q g1 hp (by omega) g4
   ·have u:=below p (by omega) g2
    by_cases e:q=mid
    ·subst e;exact u
    ·exact ho.tr _ _ _ (up q (by omega) (by omega)) u
 ·rw [hs.out k (by omega),hs.out (a-1) (by omega)];exact h.pre h0 k g1 (by omega)
structure HQ (c:α->α->Int) (d:α) (l:List α) (f i n:Nat):Prop where
 hp:Hp c d l f 0 i none
 rH:xk c d l (f+i) (f+n)
 sep:Sep c d l f (f+i) (f+n)
theorem HQ.start {f n:Nat}(h:Hp c d l f 0 n none):HQ c d l f n n:=⟨h,.short (by omega),fun p q h1 h2 h3 h4=>by omega⟩
theorem HQ.step (ho:Ord c){f k n:Nat}(h:HQ c d l f (k+1) n)(hk:k+1<=n)(hl:f+n<=l.length)(hs:rG d (sw d l f (f+k)) m f (f+k))(hm:Hp c d m f 0 k none):HQ c d m f k n:=by
 have ha:=fun x=>ot (d:=d) (l:=l) (i:=f) (j:=f+k) (k:=x) (by omega) (by omega)
 have out:∀q,f+k<q->m.getD q d=l.getD q d:=fun q hq=>by rw [hs.out q (by omega),ha,if_neg (by omega),if_neg (by omega)]
 have top:m.getD (f+k) d=l.getD f d:=by rw [hs.out (f+k) (by omega),ha,if_pos rfl]
 refine ⟨hm,fun p q g1 g2 g3=>?_,fun p q g1 g2 g3 g4=>?_⟩
 ·rw [out q (by omega)]
  by_cases e:p=f+k
  ·rw [e,top];exact h.sep f q (Nat.le_refl _) (by omega) (by omega) g3
  ·rw [out p (by omega)];exact h.rH p q (by omega) g2 g3
 ·have hp:∃j,j<k+1/\m.getD p d=l.getD (f+j) d:=by
   obtain ⟨p',e1,e2,e⟩:=hs.mem p g1 g2
   rw [e,ha,if_neg (by omega)]
   split
   ·exact ⟨k,by omega,rfl⟩
   ·exact ⟨p'-f,by omega,by rw [show f+(p'-f)=p' by omega]⟩
  obtain ⟨j,hj,e⟩:=hp
  rw [e]
  by_cases eq:q=f+k
  ·rw [eq,top];exact h.hp.top ho j hj
  ·rw [out q (by omega)];exact h.sep (f+j) q (by omega) (by omega) (by omega) g4
theorem HQ.fin {f n:Nat}(h:HQ c d l f 0 n):xk c d l f (f+n):=by have:=h.rH;simpa using this
structure PT (P:α->Prop) (d:α) (l:List α) (a b i j:Nat):Prop where
 hi:a<i
 LY:i<=j+1
 hj:j<b
 lo:∀k,a<k->k<i->P (l.getD k d)
 up:∀k,j<k->k<b->¬P (l.getD k d)
variable {P:α->Prop} {i j:Nat}
theorem PT.start (h:a+1<b):PT P d l a b (a+1) (b-1):=⟨by omega,by omega,by omega,fun k h1 h2=>by omega,fun k h1 h2=>by omega⟩
theorem PT.swap (h:PT P d l a b i j)(LY:i<=j)(hl:b<=l.length)(h1:¬P (l.getD i d))(h2:P (l.getD j d)):PT P d (sw d l i j) a b (i+1) (j-1)/\(sw d l i j).getD a d=l.getD a d/\rG d l (sw d l i j) a b:=by
 have e0:=h.hi
 have e1:=h.hj
 have ne:i≠j:=fun e=>h1 (e▸h2)
 have ha:=fun x=>ot (d:=d) (l:=l) (i:=i) (j:=j) (k:=x) (by omega) (by omega)
 refine ⟨⟨by omega,by omega,by omega,fun k g1 g2=>?_,fun k g1 g2=>?_⟩,by rw [ha,if_neg (by omega),if_neg (by omega)],rG.sw (by omega) (by omega) (by omega) e1 hl⟩
 ·rw [ha,if_neg (by omega)]
  by_cases e:k=i
  ·rw [if_pos e];exact h2
  ·rw [if_neg e];exact h.lo k g1 (by omega)
 ·rw [ha]
  by_cases e:k=j
  ·rw [if_pos e];exact h1
  ·rw [if_neg e,if_neg (by omega)];exact h.up k (by omega) g2
theorem PT.fin (ho:Ord c)(h:PT (fun x=>c x (l.getD a d)<0) d l a b i j)(LY:¬i<=j)(hl:b<=l.length):rG d l (sw d l j a) a b/\a<=j/\j<b /\
  (∀k,a<=k->k<j->c ((sw d l j a).getD k d) ((sw d l j a).getD j d)<0)/\(∀k,j<k->k<b->¬c ((sw d l j a).getD k d) ((sw d l j a).getD j d)<0):=by
 have e0:=h.hi
 have e1:=h.LY
 have e2:=h.hj
 have ha:=fun x=>ot (d:=d) (l:=l) (i:=j) (j:=a) (k:=x) (by omega) (by omega)
 have ej:(sw d l j a).getD j d=l.getD a d:=by
  rw [ha]
  by_cases e:j=a
  ·rw [if_pos e,e]
  ·rw [if_neg e,if_pos rfl]
 refine ⟨rG.sw (by omega) e2 (Nat.le_refl _) (by omega) hl,by omega,e2,fun k g1 g2=>?_,fun k g1 g2=>?_⟩
 ·rw [ej,ha]
  by_cases e:k=a
  ·rw [if_pos e];exact h.lo j (by omega) (by omega)
  ·rw [if_neg e,if_neg (by omega)];exact h.lo k (by omega) (by omega)
 ·rw [ej,ha,if_neg (by omega),if_neg (by omega)];exact h.up k g1 g2
end
end Go.Proofs.Tryz
namespace Go.Proofs.Tryz
open Go.bM Go.fB
structure Na (V:View) (n:Nat) (vs:List Value) (l:List L3):Prop where
 row:Row 9 yV V vs l
 len:n=l.length
 Qs:l.length<50
theorem Na.le {V V':View}{n:Nat}{vs:List Value}{l:List L3}(h:Na V n vs l)(e:V.Le V'):Na V' n vs l:=⟨h.row.le fun _ _ g=>yV.le g e,h.len,h.Qs⟩
theorem Na.get {V:View}{n:Nat}{vs:List Value}{l:List L3}(h:Na V n vs l){k:Nat}(hk:k<l.length):∃(x y:Int)(p:OA)(xb yb:Int)(pb:OA)(xc yc:Int)(pc:OA),
  ((0+k*9)+9<=vs.length/\(vs.drop (0+k*9)).take 9=[.int .i64 x,.int .i64 y,.pointer p,.int .i64 xb,.int .i64 yb,.pointer pb,.int .i64 xc,.int .i64 yc,.pointer pc])/\yV V (.agg #[.int .i64 x,.int .i64 y,.pointer p,.int .i64 xb,.int .i64 yb,.pointer pb,.int .i64 xc,.int .i64 yc,.pointer pc]) (l.getD k Oo):=by
 obtain ⟨xs,-,h2,h3,h4⟩:=h.row.get (d:=Oo) hk (by decide)
 have h20:=h2
 obtain ⟨x,y,p,xb,yb,pb,xc,yc,pc,e⟩:=h2.shape
 have e:=congrArg Array.toList (Value.agg.inj e)
 dsimp only at e
 subst e
 rw [Nat.zero_add]
 exact ⟨x,y,p,xb,yb,pb,xc,yc,pc,⟨h3,h4⟩,h20⟩
theorem Na.swap {V:View}{n:Nat}{vs:List Value}{l:List L3}(h:Na V n vs l){i j:Nat}(hi:i<l.length)(hj:j<l.length){x y:Int}{p:OA}{xb yb:Int}{pb:OA}{xc yc:Int}{pc:OA}{x' y':Int}{p':OA}{Pz PA:Int}{pb':OA}{Sy WJ:Int}{pc':OA}
  (h1:yV V (.agg #[.int .i64 x,.int .i64 y,.pointer p,.int .i64 xb,.int .i64 yb,.pointer pb,.int .i64 xc,.int .i64 yc,.pointer pc]) (l.getD i Oo))(h2:yV V (.agg #[.int .i64 x',.int .i64 y',.pointer p',.int .i64 Pz,.int .i64 PA,.pointer pb',.int .i64 Sy,.int .i64 WJ,.pointer pc']) (l.getD j Oo)) :
  (0+i*9)+9<=vs.length/\(0+j*9)+9<=(cJ vs (0+i*9) [.int .i64 x',.int .i64 y',.pointer p',.int .i64 Pz,.int .i64 PA,.pointer pb',.int .i64 Sy,.int .i64 WJ,.pointer pc']).length /\
  Na V n (cJ (cJ vs (0+i*9) [.int .i64 x',.int .i64 y',.pointer p',.int .i64 Pz,.int .i64 PA,.pointer pb',.int .i64 Sy,.int .i64 WJ,.pointer pc']) (0+j*9) [.int .i64 x,.int .i64 y,.pointer p,.int .i64 xb,.int .i64 yb,.pointer pb,.int .i64 xc,.int .i64 yc,.pointer pc]) (sw Oo l i j):=by
 obtain ⟨-,-,-,g1,-⟩:=h.row.get (d:=Oo) hi (by decide)
 obtain ⟨-,-,-,g2,-⟩:=h.row.get (d:=Oo) hj (by decide)
 rw [Nat.zero_add,Nat.zero_add]
 refine ⟨g1,by rw [mw (by exact g1)];exact g2,h.row.swap hi hj (by decide) rfl rfl h1 h2,by rw [pX];exact h.len,by rw [pX];exact h.Qs⟩
structure GR {α:Type} (sz:Nat) (R:View->Value->α->Prop) (V:View) (n c:Nat) (vs:List Value) (l:List α):Prop where
 len:n=l.length
 le:n<=c
 cap:c*sz<=vs.length
 row:Row sz R V vs l
theorem GR.nil {α:Type}{sz:Nat}{R:View->Value->α->Prop}{V:View}:GR sz R V 0 0 [] []:=⟨rfl,Nat.le_refl _,by simp,Row.nil⟩
theorem GR.mono {α:Type}{sz:Nat}{R:View->Value->α->Prop}{V V':View}{n c:Nat}{vs:List Value}{l:List α}(h:GR sz R V n c vs l)(m:∀v a,R V v a->R V' v a):GR sz R V' n c vs l:=⟨h.len,h.le,h.cap,h.row.le m⟩
theorem GR.snoc {α:Type}{sz:Nat}{R:View->Value->α->Prop}{V:View}{n c:Nat}{vs:List Value}{l:List α}(h:GR sz R V n c vs l){xs:List Value}{a:α}(hx:xs.length=sz)(ha:R V (.agg xs.toArray) a)(h0:0<sz){sp:List Value}{c':Nat}(h1:n+1<=c')(h2:c'*sz<=(n+1)*sz+sp.length) :
  GR sz R V (n+1) c' (vs.take (n*sz)++xs++sp) (l++[a]):=by
 have hn:=h.len
 have hc:=h.cap
 have hl:n*sz<=c*sz:=Nat.mul_le_mul_right _ h.le
 refine ⟨by rw [List.length_append,hn];rfl,h1,?_,?_⟩
 ·have ht:(vs.take (n*sz)).length=n*sz:=by rw [List.length_take];omega
  rw [List.length_append,List.length_append,ht,hx]
  rw [Nat.succ_mul] at h2
  exact h2
 ·have:=h.row.snoc (sp:=sp) hx ha h0
  rw [←hn] at this
  exact this
def lO (l:L3):L3:=if l.1<0\/l.1=0/\l.2.1<0 then fR l else l
def Tr.S2:Tr->List L3
 | .leaf _=>[]
 | .node l a b=>l::(a.S2++b.S2)
theorem Bf {p:L3->Prop}:∀{t:Tr},t.Ld p->∀x∈t.S2,p x
 | .leaf _,_,x,h=>by cases h
 | .node l a b,⟨h1,h2,h3⟩,x,h=>by
  rcases List.mem_cons.1 h with rfl|h
  ·exact h1
  ·rcases List.mem_append.1 h with h|h
   ·exact Bf h2 x h
   ·exact Bf h3 x h
theorem Bd.rev {l:L3}(h:Bd l):Bd (fR l):=by
 obtain ⟨h1,h2,h3⟩:=h
 unfold Bd fR
 simp only [Int.natAbs_neg]
 exact ⟨h1,h2,h3⟩
theorem Bd.can {l:L3}(h:Bd l):Bd (lO l):=by
 unfold lO;split
 ·exact h.rev
 ·exact h
theorem Bd.kF {l:L3}(h:Bd l):jV 1000 l:=⟨h.sz.1,h.sz.2.1,h.sz.2.2⟩
end Go.Proofs.Tryz
namespace Go.Proofs.Tryz.aq
open Go.bM Go.fB
def nv (l:L3)(v:V2):Rat:=(l.1:Rat)*v.1+(l.2.1:Rat)*v.2
def ax (l:L3):V2:=((l.2.1:Rat),-(l.1:Rat))
theorem G3 (l:L3)(v:V2):nv l v=cr (ax l) v:=by unfold nv cr ax;grind
def Pl (l:L3)(p v:V2):Int:=if (ar l p.1 p.2).num.sign=0 then (nv l v).num.sign else (ar l p.1 p.2).num.sign
def DU:Tr->V2->V2->Bool×Bool
 | .leaf i,_,_=>(i,true)
 | .node l a b,p,v=>if Pl l p v=1 then DU a p v else if Pl l p v=-1 then DU b p v else (false,false)
def km:Tr->V2->List L3
 | .leaf _,_=>[]
 | .node l a b,p=>(if ar l p.1 p.2=0 then [l] else [])++((if ar l p.1 p.2≥0 then km a p else [])++(if ar l p.1 p.2<=0 then km b p else []))
theorem vH:∀{t:Tr} {p:V2} {l:L3},l∈km t p->ar l p.1 p.2=0/\l∈t.S2
 | .leaf _,_,_,h=>by cases h
 | .node m a b,p,l,h=>by
  unfold km at h
  simp only [List.mem_append] at h
  rcases h with h|h|h
  ·split at h
   ·rename_i e;rcases List.mem_singleton.1 h with rfl;exact ⟨e,List.mem_cons_self ..⟩
   ·cases h
  ·split at h
   ·have:=vH h;exact ⟨this.1,List.mem_cons_of_mem _ (List.mem_append_left _ this.2)⟩
   ·cases h
  ·split at h
   ·have:=vH h;exact ⟨this.1,List.mem_cons_of_mem _ (List.mem_append_right _ this.2)⟩
   ·cases h
theorem vY {q:Rat}:q.num.sign=-1↔q<0:=by
 rw [Int.sign_eq_neg_one_iff_neg,←Int.not_le,←Rat.not_le,Rat.num_nonneg]
theorem BD {q:Rat}:q.num.sign=1↔q>0:=by
 have h:=@vY (-q)
 rw [Rat.neg_num,Int.sign_neg] at h
 constructor
 ·intro e;have:=h.1 (by rw [e]);grind
 ·intro e;have:=h.2 (by grind);omega
theorem fe {q:Rat}:q.num.sign=0↔q=0:=by rw [Int.sign_eq_zero_iff_zero,Rat.num_eq_zero]
theorem wj:∀{t:Tr} {p v x:V2},(∀l∈km t p,nv l v≠0)->(∀l∈km t p,(nv l v>0->nv l x>0)/\(nv l v<0->nv l x<0)) ->
  DU t p x=DU t p v/\(DU t p v).2=true
 | .leaf _,_,_,_,_,_=>⟨rfl,rfl⟩
 | .node l a b,p,v,x,h0,h1=>by
  have ha:ar l p.1 p.2≥0->DU a p x=DU a p v/\(DU a p v).2=true:=fun e=>by
   have sub:∀m∈km a p,m∈km (.node l a b) p:=fun m hm=>by
    unfold km
    rw [if_pos e]
    exact List.mem_append_right _ (List.mem_append_left _ hm)
   exact wj (fun m hm=>h0 m (sub m hm)) (fun m hm=>h1 m (sub m hm))
  have hb:ar l p.1 p.2<=0->DU b p x=DU b p v/\(DU b p v).2=true:=fun e=>by
   have sub:∀m∈km b p,m∈km (.node l a b) p:=fun m hm=>by
    unfold km
    rw [if_pos e]
    exact List.mem_append_right _ (List.mem_append_right _ hm)
   exact wj (fun m hm=>h0 m (sub m hm)) (fun m hm=>h1 m (sub m hm))
  have hl:ar l p.1 p.2=0->l∈km (.node l a b) p:=fun e=>by
   unfold km
   rw [if_pos e]
   exact List.mem_append_left _ (List.mem_singleton.2 rfl)
  have key:Pl l p x=Pl l p v/\(Pl l p v=1/\ar l p.1 p.2≥0\/Pl l p v=-1/\ar l p.1 p.2<=0):=by
   unfold Pl
   by_cases e:ar l p.1 p.2=0
   ·have hm:=hl e
    rw [if_pos (fe.2 e),if_pos (fe.2 e)]
    obtain ⟨q1,q2⟩:=h1 l hm
    have q0:=h0 l hm
    by_cases q:nv l v>0
    ·rw [BD.2 q,BD.2 (q1 q)];exact ⟨rfl,.inl ⟨rfl,by grind⟩⟩
    ·have q':nv l v<0:=by grind
     rw [vY.2 q',vY.2 (q2 q')];exact ⟨rfl,.inr ⟨rfl,by grind⟩⟩
   ·have e':¬(ar l p.1 p.2).num.sign=0:=fun h=>e (fe.1 h)
    rw [if_neg e',if_neg e']
    refine ⟨rfl,?_⟩
    by_cases q:ar l p.1 p.2>0
    ·exact .inl ⟨BD.2 q,by grind⟩
    ·exact .inr ⟨vY.2 (by grind),by grind⟩
  obtain ⟨k1,k2⟩:=key
  simp only [DU,k1]
  rcases k2 with ⟨e,g⟩|⟨e,g⟩
  ·rw [e,if_pos rfl,if_pos rfl];exact ha g
  ·rw [e,if_neg (by decide),if_pos rfl,if_neg (by decide),if_pos rfl];exact hb g
def PE (D:List V2)(M:List L3):Prop:=∀l∈M,∃r∈D,∃c:Rat,c>0/\r=(c*(ax l).1,c*(ax l).2)
theorem E1 {l:L3}{r:V2}{c:Rat}(c0:c>0)(e:r=(c*(ax l).1,c*(ax l).2))(v:V2):cr r v=c*nv l v:=by
 rw [G3,e];unfold cr;grind
theorem GZ {c x:Rat}(c0:c>0):(c*x>0↔x>0)/\(c*x<0↔x<0)/\(c*x=0↔x=0):=by
 have p:x>0->c*x>0:=fun h=>mp c0 h
 have n:x<0->c*x<0:=fun h=>by have:=mp c0 (show -x>0 by grind);grind
 have z:x=0->c*x=0:=fun h=>by rw [h];grind
 refine ⟨⟨fun h=>?_,p⟩,⟨fun h=>?_,n⟩,⟨fun h=>?_,z⟩⟩
 ·by_cases q:x>0
  ·exact q
  ·by_cases q':x<0
   ·have:=n q';grind
   ·have:=z (by grind);grind
 ·by_cases q:x<0
  ·exact q
  ·by_cases q':x>0
   ·have:=p q';grind
   ·have:=z (by grind);grind
 ·rcases Rat.mul_eq_zero.1 h with h|h
  ·grind
  ·exact h
theorem PE.gen {D:List V2}{M:List L3}(h:PE D M){v:V2}(hv:∀r∈D,cr r v≠0):∀l∈M,nv l v≠0:=by
 intro l hl e
 obtain ⟨r,hr,c,c0,e'⟩:=h l hl
 exact hv r hr (by rw [E1 c0 e',e];grind)
theorem PE.same {D:List V2}{M:List L3}(h:PE D M){v x:V2}(hv:∀r∈D,(cr r v>0->cr r x>0)/\(cr r v<0->cr r x<0)) :
  ∀l∈M,(nv l v>0->nv l x>0)/\(nv l v<0->nv l x<0):=by
 intro l hl
 obtain ⟨r,hr,c,c0,e'⟩:=h l hl
 have:=hv r hr
 rw [E1 c0 e',E1 c0 e'] at this
 obtain ⟨a1,a2,_⟩:=@GZ c (nv l v) c0
 obtain ⟨b1,b2,_⟩:=@GZ c (nv l x) c0
 exact ⟨fun h=>b1.1 (this.1 (a1.2 h)),fun h=>b2.1 (this.2 (a2.2 h))⟩
def anyS (t:Tr)(p:V2)(S:List V2):Bool:=S.any fun v=>(DU t p v).1
def Lv (t:Tr)(p:V2)(S:List V2):Bool:=S.all fun v=>(DU t p v).1
theorem gO (l:L3)(p v:V2)(s:Rat):ar l (p.1+s*v.1) (p.2+s*v.2)=ar l p.1 p.2+s*nv l v:=by unfold ar nv;grind
def Bi (p v:V2)(s:Rat)(l:L3):Rat:=
 if nv l v=0\/ar l p.1 p.2=0 then s
 else if -(ar l p.1 p.2*(nv l v)⁻¹)>0/\-(ar l p.1 p.2*(nv l v)⁻¹)*(1 / 2)<s then -(ar l p.1 p.2*(nv l v)⁻¹)*(1 / 2) else s
theorem inv_mul {c:Rat}(h:c≠0)(a:Rat):a*c⁻¹*c=a:=by rw [Rat.mul_assoc,Rat.inv_mul_cancel _ h,Rat.mul_one]
def half (u:V2):Int:=if u.2.num.sign>0\/u.2.num.sign=0/\u.1.num.sign>0 then 1 else if u.2.num.sign<0\/u.1.num.sign<0 then 2 else 0
def du (u v:V2):Int:=if half u<half v then -1 else if half u>half v then 1 else -(cr u v).num.sign
theorem my {q:Rat}:q.num.sign>0↔q>0:=by
 have:=Rat.num_nonneg (q:=-q)
 rw [Rat.neg_num] at this
 rw [gt_iff_lt,Int.sign_pos_iff]
 have h2:(0<=-q)↔¬q>0:=by constructor<;>intro h<;>grind
 rw [h2] at this
 by_cases h:q>0
 ·exact ⟨fun _=>h,fun _=>by
   have:¬0<=-q.num:=fun g=>this.1 g h
   omega⟩
 ·exact ⟨fun g=>by have:=this.2 h;omega,fun g=>absurd g h⟩
theorem DO {q:Rat}:q.num.sign<0↔q<0:=by
 have:=@my (-q)
 rw [Rat.neg_num,Int.sign_neg] at this
 constructor
 ·intro h;have:=this.1 (by omega);grind
 ·intro h;have:=this.2 (by grind);omega
theorem ck (u:V2):half u=1/\up u\/half u=2/\dn u\/half u=0/\u.1=0/\u.2=0:=by
 unfold half up dn
 split
 ·rename_i h;rw [my,my,fe] at h;exact .inl ⟨rfl,h⟩
 ·rename_i h
  rw [my,my,fe] at h
  split
  ·rename_i h';rw [DO,DO] at h';exact .inr (.inl ⟨rfl,by grind⟩)
  ·rename_i h';rw [DO,DO] at h';exact .inr (.inr ⟨rfl,by grind,by grind⟩)
theorem nT {u v:V2}:du u v<0↔half u<half v\/half u=half v/\cr u v>0:=by
 have:=@my (cr u v)
 unfold du
 by_cases h1:half u<half v
 ·simp [h1]
 ·by_cases h2:half u>half v
  ·rw [if_neg h1,if_pos h2];omega
  ·rw [if_neg h1,if_neg h2];constructor
   ·intro h;exact .inr ⟨by omega,this.1 (by omega)⟩
   ·rintro (h|⟨h,h'⟩)
    ·omega
    ·have:=this.2 h';omega
theorem jZ {u v:V2}:du u v=0↔half u=half v/\cr u v=0:=by
 have:=@fe (cr u v)
 unfold du
 by_cases h1:half u<half v
 ·rw [if_pos h1];constructor
  ·intro h;omega
  ·rintro ⟨h,_⟩;omega
 ·by_cases h2:half u>half v
  ·rw [if_neg h1,if_pos h2];constructor
   ·intro h;omega
   ·rintro ⟨h,_⟩;omega
  ·rw [if_neg h1,if_neg h2];constructor
   ·intro h;exact ⟨by omega,this.1 (by omega)⟩
   ·rintro ⟨_,h⟩;have:=this.2 h;omega
theorem uj (u v:V2):du u v<0\/du u v=0\/du v u<0:=by
 rw [nT,jZ,nT]
 have:=gM u v
 rcases Int.lt_trichotomy (half u) (half v) with h|h|h
 ·exact .inl (.inl h)
 ·by_cases p:cr u v>0
  ·exact .inl (.inr ⟨h,p⟩)
  ·by_cases q:cr u v=0
   ·exact .inr (.inl ⟨h,q⟩)
   ·exact .inr (.inr (.inr ⟨h.symm,by grind⟩))
 ·exact .inr (.inr (.inl h))
theorem tO (u v:V2)(h:du u v<0):¬du v u<0:=by
 rw [nT] at *
 have:=gM u v
 rintro (h'|⟨h',g'⟩)<;>rcases h with h|⟨h,g⟩
 ·omega
 ·omega
 ·omega
 ·grind
theorem LJ {a b d:V2}(xQ:half a=half b)(hbd:half b=half d)(h1:cr a b<=0)(h2:cr b d<=0):cr a d<=0:=by
 by_cases h:cr a d<=0
 ·exact h
 exfalso
 have c:cr a d>0:=by grind
 have j1:=OX a d b
 have j2:=Fk a d b
 rcases ck b with ⟨e,hb⟩|⟨e,hb⟩|⟨e,hb⟩
 ·have ha:up a:=by rcases ck a with ⟨e',h⟩|⟨e',h⟩|⟨e',h⟩<;>first|exact h|omega
  have hd:up d:=by rcases ck d with ⟨e',h⟩|⟨e',h⟩|⟨e',h⟩<;>first|exact h|omega
  unfold up at ha hb hd
  have m1:=mn (show -(cr a b)≥0 by grind) (show d.2≥0 by grind)
  have m2:=mn (show -(cr b d)≥0 by grind) (show a.2≥0 by grind)
  have m3:=mn (show cr a d≥0 by grind) (show b.2≥0 by grind)
  have z3:cr a d*b.2=0:=by grind
  have b2:b.2=0:=by rcases Rat.mul_eq_zero.1 z3 with h|h<;>grind
  have b1:b.1>0:=by grind
  have d2:d.2=0:=by
   by_cases q:d.2>0
   ·have:=mp b1 q;unfold cr at h2;rw [b2] at h2;grind
   ·grind
  have d1:d.1>0:=by grind
  have:=mn (show a.2≥0 by grind) (show d.1≥0 by grind)
  unfold cr at c
  rw [d2] at c
  grind
 ·have ha:dn a:=by rcases ck a with ⟨e',h⟩|⟨e',h⟩|⟨e',h⟩<;>first|exact h|omega
  have hd:dn d:=by rcases ck d with ⟨e',h⟩|⟨e',h⟩|⟨e',h⟩<;>first|exact h|omega
  unfold dn at ha hb hd
  have m1:=mn (show -(cr a b)≥0 by grind) (show -d.2≥0 by grind)
  have m2:=mn (show -(cr b d)≥0 by grind) (show -a.2≥0 by grind)
  have m3:=mn (show cr a d≥0 by grind) (show -b.2≥0 by grind)
  have z3:cr a d*b.2=0:=by grind
  have b2:b.2=0:=by rcases Rat.mul_eq_zero.1 z3 with h|h<;>grind
  have b1:-b.1>0:=by grind
  have d2:d.2=0:=by
   by_cases q:-d.2>0
   ·have:=mp b1 q;unfold cr at h2;rw [b2] at h2;grind
   ·grind
  have d1:d.1<0:=by grind
  have:=mn (show -a.2≥0 by grind) (show -d.1≥0 by grind)
  unfold cr at c
  rw [d2] at c
  grind
 ·have ha:a.1=0/\a.2=0:=by rcases ck a with ⟨e',h⟩|⟨e',h⟩|⟨e',h⟩<;>first|exact h|omega
  unfold cr at c
  rw [ha.1,ha.2] at c
  grind
theorem Oe {u v:V2}:¬du u v<0↔half v<half u\/half u=half v/\cr u v<=0:=by
 rw [nT]
 constructor
 ·intro h
  rcases Int.lt_trichotomy (half u) (half v) with g|g|g
  ·exact absurd (.inl g) h
  ·exact .inr ⟨g,by by_cases p:cr u v>0;exact absurd (.inr ⟨g,p⟩) h;grind⟩
  ·exact .inl g
 ·rintro (h|⟨h,g⟩) (h'|⟨h',g'⟩)
  ·omega
  ·omega
  ·omega
  ·grind
theorem um (a b d:V2)(h:¬du a b<0)(h':¬du b d<0):¬du a d<0:=by
 rw [Oe] at *
 rcases h with h|⟨h,g⟩<;>rcases h' with h'|⟨h',g'⟩
 ·exact .inl (by omega)
 ·exact .inl (by omega)
 ·exact .inl (by omega)
 ·exact .inr ⟨by omega,LJ h h' g g'⟩
theorem Of {u v:V2}(hu:nz u)(hv:nz v):du u v<0↔sK u v:=by
 have h0:∀{w:V2},nz w->¬(w.1=0/\w.2=0):=fun h g=>by unfold nz at h;rcases h with h|h;exact h g.1;exact h g.2
 rw [nT]
 unfold sK
 rcases ck u with ⟨e,h⟩|⟨e,h⟩|⟨e,h⟩
 ·rcases ck v with ⟨e',h'⟩|⟨e',h'⟩|⟨e',h'⟩
  ·rw [e,e'];constructor
   ·rintro (g|⟨_,g⟩)
    ·omega
    ·exact .inr ⟨.inl ⟨h,h'⟩,g⟩
   ·rintro (⟨_,g⟩|⟨_,g⟩)
    ·exact (eU h' g).elim
    ·exact .inr ⟨rfl,g⟩
  ·rw [e,e'];exact ⟨fun _=>.inl ⟨h,h'⟩,fun _=>.inl (by decide)⟩
  ·exact absurd h' (h0 hv)
 ·rcases ck v with ⟨e',h'⟩|⟨e',h'⟩|⟨e',h'⟩
  ·rw [e,e'];constructor
   ·rintro (g|⟨g,_⟩)<;>omega
   ·rintro (⟨g,_⟩|⟨⟨g,_⟩|⟨_,g⟩,_⟩)
    ·exact (eU g h).elim
    ·exact (eU g h).elim
    ·exact (eU h' g).elim
  ·rw [e,e'];constructor
   ·rintro (g|⟨_,g⟩)
    ·omega
    ·exact .inr ⟨.inr ⟨h,h'⟩,g⟩
   ·rintro (⟨g,_⟩|⟨_,g⟩)
    ·exact (eU g h).elim
    ·exact .inr ⟨rfl,g⟩
  ·exact absurd h' (h0 hv)
 ·exact absurd h (h0 hu)
theorem Cj {u v:V2}(hu:nz u)(h:du u v=0):∃c:Rat,c>0/\u=(c*v.1,c*v.2):=by
 rw [jZ] at h
 obtain ⟨e,c⟩:=h
 have fin:∀k:Rat,k>0->u.1=k*v.1->u.2=k*v.2->∃c:Rat,c>0/\u=(c*v.1,c*v.2):=fun k h0 h1 h2=>⟨k,h0,Prod.ext h1 h2⟩
 have pos:∀x y:Rat,y≠0->x*y>0->x*y⁻¹>0:=fun x y hy h=>by
  have e:=inv_mul hy x
  generalize x*y⁻¹=t at *
  have e2:t*(y*y)=x*y:=by grind
  have:=sq_pos (u:=(y,0)) (.inl hy)
  unfold dt at this
  by_cases q:t>0
  ·exact q
  ·have:=mn (show -t≥0 by grind) (show y*y≥0 by grind);grind
 unfold cr at c
 have two:v.2≠0->u.2*v.2>0->∃c:Rat,c>0/\u=(c*v.1,c*v.2):=fun h0 h1=>by
  refine fin (u.2*v.2⁻¹) (pos _ _ h0 h1) ?_ (inv_mul h0 _).symm
  have:=inv_mul h0 u.1
  have:u.1*v.2*v.2⁻¹=u.2*v.1*v.2⁻¹:=by rw [show u.1*v.2=u.2*v.1 by grind]
  grind
 have one:v.1≠0->u.1*v.1>0->v.2=0->u.2=0->∃c:Rat,c>0/\u=(c*v.1,c*v.2):=fun h0 h1 h2 h3=>
  fin (u.1*v.1⁻¹) (pos _ _ h0 h1) (inv_mul h0 _).symm (by rw [h2,h3];grind)
 rcases ck u with ⟨e1,h⟩|⟨e1,h⟩|⟨e1,h⟩
 ·have h':up v:=by rcases ck v with ⟨e',h⟩|⟨e',h⟩|⟨e',h⟩<;>first|exact h|omega
  unfold up at h h'
  by_cases q:v.2>0
  ·refine two (by grind) ?_
   by_cases q':u.2>0
   ·exact mp q' q
   ·have u2:u.2=0:=by grind
    have:=mp (show u.1>0 by grind) q
    rw [u2] at c;grind
  ·have v2:v.2=0:=by grind
   have v1:v.1>0:=by grind
   by_cases q':u.2>0
   ·have:=mp q' v1;rw [v2] at c;grind
   ·exact one (by grind) (mp (by grind) v1) v2 (by grind)
 ·have h':dn v:=by rcases ck v with ⟨e',h⟩|⟨e',h⟩|⟨e',h⟩<;>first|exact h|omega
  unfold dn at h h'
  by_cases q:v.2<0
  ·refine two (by grind) ?_
   by_cases q':u.2<0
   ·have:=mp (show -u.2>0 by grind) (show -v.2>0 by grind);grind
   ·have u2:u.2=0:=by grind
    have:=mp (show -u.1>0 by grind) (show -v.2>0 by grind)
    rw [u2] at c;grind
  ·have v2:v.2=0:=by grind
   have v1:-v.1>0:=by grind
   by_cases q':u.2<0
   ·have:=mp (show -u.2>0 by grind) v1;rw [v2] at c;grind
   ·refine one (by grind) ?_ v2 (by grind)
    have:=mp (show -u.1>0 by grind) v1;grind
 ·unfold nz at hu;grind
theorem Lw {a b d:V2}(h:du a b=0)(h':du b d=0):du a d=0:=by
 have z:∀{u v:V2},du u v=0↔¬du u v<0/\¬du v u<0:=by
  intro u v
  constructor
  ·intro e
   refine ⟨by omega,?_⟩
   rw [jZ] at e
   have:=gM u v
   rw [nT]
   rintro (g|⟨_,g⟩)
   ·omega
   ·grind
  ·rintro ⟨g,g'⟩
   rcases uj u v with e|e|e
   ·exact absurd e g
   ·exact e
   ·exact absurd e g'
 rw [z] at *
 exact ⟨um _ _ _ h.1 h'.1,um _ _ _ h'.2 h.2⟩
theorem uk (a:V2):du a a=0:=jZ.2 ⟨rfl,by unfold cr;grind⟩
theorem Gs {a b d:V2}(h:¬du b a<0)(h':du b d<0):du a d<0:=by
 by_cases q:du a d<0
 ·exact q
 ·exact absurd h' (um _ _ _ h q)
def eP (u v:V2):Bool:=decide (du u v=0)
theorem CH:∀{r:List V2} {p:V2},(p::r).Pairwise (fun x y=>¬du y x<0) ->
  (AV eP p r).Pairwise (fun x y=>du x y<0)/\(∀x∈AV eP p r,du p x<0)/\∀x∈p::r,∃y∈p::AV eP p r,du y x=0
 | [],p,_=>⟨List.Pairwise.nil,(fun x h=>by cases h),fun x h=>⟨x,h,uk x⟩⟩
 | a::r,p,h=>by
  obtain ⟨h1,h2⟩:=List.pairwise_cons.1 h
  obtain ⟨i1,i2,i3⟩:=CH h2
  have pa:¬du a p<0:=h1 a (List.mem_cons_self ..)
  unfold AV
  by_cases e:du a p=0
  ·have:eP a p=true:=decide_eq_true e
   rw [if_pos this]
   have pa':¬du p a<0:=fun g=>by
    rcases jZ.1 e with ⟨e1,e2⟩
    rw [nT] at g
    have:=gM a p
    rcases g with g|⟨_,g⟩
    ·omega
    ·grind
   refine ⟨i1,fun x hx=>Gs pa (i2 x hx),fun x hx=>?_⟩
   rcases List.mem_cons.1 hx with rfl|hx
   ·exact ⟨x,List.mem_cons_self ..,uk x⟩
   ·obtain ⟨y,hy,g⟩:=i3 x hx
    rcases List.mem_cons.1 hy with rfl|hy
    ·refine ⟨p,List.mem_cons_self ..,Lw (b:=y) ?_ g⟩
     rcases uj p y with q|q|q
     ·exact absurd q pa'
     ·exact q
     ·exact absurd q pa
    ·exact ⟨y,List.mem_cons_of_mem _ hy,g⟩
  ·have:eP a p=false:=decide_eq_false e
   rw [this]
   have lt:du p a<0:=by
    rcases uj p a with q|q|q
    ·exact q
    ·exfalso;apply e
     rw [jZ] at *
     have:=gM a p
     exact ⟨q.1.symm,by grind⟩
    ·exact absurd q pa
   refine ⟨List.pairwise_cons.2 ⟨i2,i1⟩,fun x hx=>?_,fun x hx=>?_⟩
   ·rcases List.mem_cons.1 hx with rfl|hx
    ·exact lt
    ·exact Gs (b:=a) pa (i2 x hx)
   ·rcases List.mem_cons.1 hx with rfl|hx
    ·exact ⟨x,List.mem_cons_self ..,uk x⟩
    ·obtain ⟨y,hy,g⟩:=i3 x hx
     exact ⟨y,List.mem_cons_of_mem _ hy,g⟩
theorem Jd {m:List V2}(h:m.Pairwise (fun x y=>¬du y x<0)):(xM eP m).Pairwise (fun x y=>du x y<0)/\∀x∈m,∃y∈xM eP m,du y x=0:=by
 cases m with
 | nil=>exact ⟨List.Pairwise.nil,fun x h=>by cases h⟩
 | cons p r=>
  obtain ⟨h1,h2,h3⟩:=CH h
  exact ⟨List.pairwise_cons.2 ⟨h2,h1⟩,h3⟩
theorem Pf {m:List V2}(h:m.Pairwise (fun x y=>¬du y x<0))(hn:∀r∈m,nz r)(ho:∀r∈m,∃s∈m,Vv s r):M_ (xM eP m)/\∀x∈m,∃y∈xM eP m,∃c:Rat,c>0/\y=(c*x.1,c*x.2):=by
 obtain ⟨h1,h2⟩:=Jd h
 have sub:∀x∈xM eP m,x∈m:=Je
 have mem:∀x∈m,∃y∈xM eP m,∃c:Rat,c>0/\y=(c*x.1,c*x.2):=fun x hx=>by
  obtain ⟨y,hy,e⟩:=h2 x hx
  exact ⟨y,hy,Cj (hn y (sub y hy)) e⟩
 refine ⟨⟨fun r hr=>hn r (sub r hr),fun r hr=>?_,?_⟩,mem⟩
 ·obtain ⟨s,hs,k,k0,e1,e2⟩:=ho r (sub r hr)
  obtain ⟨y,hy,c,c0,e⟩:=mem s hs
  refine ⟨y,hy,c*k,mp c0 k0,?_,?_⟩
  ·rw [e];show c*s.1=_;rw [e1];grind
  ·rw [e];show c*s.2=_;rw [e2];grind
 ·refine List.Pairwise.imp_of_mem ?_ h1
  intro a b ha hb g
  exact (Of (hn a (sub a ha)) (hn b (sub b hb))).1 g
section
variable {D:List V2} (h:M_ D)
include h
theorem O6 {i:Nat}{u w:V2}(hi:D[i]?=some u)(hw:D[(i+1)%D.length]?=some w):cr u w≥0:=by
 by_cases q:cr u w≥0
 ·exact q
 exfalso
 have QY:w∈D:=List.mem_of_getElem? hw
 have hu:u∈D:=List.mem_of_getElem? hi
 obtain ⟨s,hs,ho⟩:=h.cl w QY
 obtain ⟨k,k0,_,e2⟩:=Bm ho u
 have p:cr u s>0:=by rw [e2];have:=mp k0 (show -(cr u w)>0 by grind);grind
 obtain ⟨j,hj⟩:=List.getElem?_of_mem hs
 refine Ni (h.nz u hu) (h.nz w QY) (h.nz s hs) (TT h hi hw hj (fun e=>?_) (fun e=>?_)) p (by grind)
 ·rw [e,hi] at hj;cases hj;unfold cr at p;grind
 ·rw [e,hw] at hj;cases hj;grind
omit h in
def R9 (f:V2->V2->V2)(D:List V2):List V2:=(List.range D.length).map fun i=>f (D.getD i (0,0)) (D.getD ((i+1)%D.length) (0,0))
theorem MM {f:V2->V2->V2}(hf:∀u∈D,∀w∈D,cr u w≥0->Hn u w (f u w))(hD:D≠[]):SH D (R9 f D):=by
 have hl:0<D.length:=List.length_pos_iff.2 hD
 have key:∀i u w,D[i]?=some u->D[(i+1)%D.length]?=some w->D.getD i (0,0)=u/\D.getD ((i+1)%D.length) (0,0)=w/\Hn u w (f u w):=fun i u w hi hw=>
  ⟨by rw [List.getD_eq_getElem?_getD,hi];rfl,by rw [List.getD_eq_getElem?_getD,hw];rfl,hf u (List.mem_of_getElem? hi) w (List.mem_of_getElem? hw) (O6 h hi hw)⟩
 refine .inr ⟨hD,fun x hx=>?_,fun i u w hi hw=>?_⟩
 ·obtain ⟨i,hi,rfl⟩:=List.mem_map.1 hx
  have hi:=List.mem_range.1 hi
  have e1:D[i]?=some D[i]:=List.getElem?_eq_getElem hi
  have e2:D[(i+1)%D.length]?=some (D[(i+1)%D.length]'(Nat.mod_lt _ hl)):=List.getElem?_eq_getElem _
  obtain ⟨k1,k2,k3⟩:=key i _ _ e1 e2
  exact ⟨i,_,_,e1,e2,by rw [k1,k2];exact k3⟩
 ·obtain ⟨k1,k2,k3⟩:=key i u w hi hw
  refine ⟨_,List.mem_map.2 ⟨i,List.mem_range.2 (List.getElem?_eq_some_iff.1 hi).1,rfl⟩,?_⟩
  rw [k1,k2];exact k3
end
theorem tR {a b c x y z:Int}(h1:a*y=b*x)(h2:a*z=c*x)(g:Nat.gcd (Nat.gcd x.natAbs y.natAbs) z.natAbs=1):x.natAbs∣a.natAbs:=by
 have e1:a.natAbs*y.natAbs=b.natAbs*x.natAbs:=by rw [←Int.natAbs_mul,←Int.natAbs_mul,h1]
 have e2:a.natAbs*z.natAbs=c.natAbs*x.natAbs:=by rw [←Int.natAbs_mul,←Int.natAbs_mul,h2]
 have d1:x.natAbs∣a.natAbs*Nat.gcd (Nat.gcd x.natAbs y.natAbs) z.natAbs:=by
  rw [←Nat.gcd_mul_left,←Nat.gcd_mul_left]
  exact Nat.dvd_gcd (Nat.dvd_gcd ⟨a.natAbs,by rw [Nat.mul_comm]⟩ ⟨b.natAbs,by rw [e1,Nat.mul_comm]⟩) ⟨c.natAbs,by rw [e2,Nat.mul_comm]⟩
 rwa [g,Nat.mul_one] at d1
theorem Ir {l m:L3}(ol:cS l=true)(om:cS m=true)(cl:lO l=l)(cm:lO m=m){x y:Rat}(hl:ar l x y=0)(hm:ar m x y=0)
  (hc:cr (ax l) (ax m)=0):l=m:=by
 unfold cS at ol om
 rw [Bool.and_eq_true,decide_eq_true_iff,decide_eq_true_iff] at ol om
 have c12:l.1*m.2.1=l.2.1*m.1:=by
  unfold cr ax at hc
  have:(l.1:Rat)*(m.2.1:Rat)=(l.2.1:Rat)*(m.1:Rat):=by grind
  exact_mod_cast this
 unfold ar at hl hm
 have r12:(l.1:Rat)*(m.2.1:Rat)=(l.2.1:Rat)*(m.1:Rat):=by exact_mod_cast c12
 have c13:l.1*m.2.2=l.2.2*m.1:=by
  have:(l.1:Rat)*(m.2.2:Rat)=(l.2.2:Rat)*(m.1:Rat):=by grind
  exact_mod_cast this
 have c23:l.2.1*m.2.2=l.2.2*m.2.1:=by
  have:(l.2.1:Rat)*(m.2.2:Rat)=(l.2.2:Rat)*(m.2.1:Rat):=by grind
  exact_mod_cast this
 obtain ⟨ol1,Vt⟩:=ol
 obtain ⟨om1,Vu⟩:=om
 unfold gV at Vt Vu
 have ZO:Nat.gcd (Nat.gcd l.2.1.natAbs l.1.natAbs) l.2.2.natAbs=1:=by rw [Nat.gcd_comm l.2.1.natAbs];exact Vt
 have ZP:Nat.gcd (Nat.gcd m.2.1.natAbs m.1.natAbs) m.2.2.natAbs=1:=by rw [Nat.gcd_comm m.2.1.natAbs];exact Vu
 have a1:l.1.natAbs=m.1.natAbs:=Nat.dvd_antisymm (tR (a:=m.1) (b:=m.2.1) (c:=m.2.2) (by rw [Int.mul_comm,←c12,Int.mul_comm]) (by rw [Int.mul_comm,←c13,Int.mul_comm]) Vt) (tR c12 c13 Vu)
 have a2:l.2.1.natAbs=m.2.1.natAbs:=Nat.dvd_antisymm (tR (a:=m.2.1) (b:=m.1) (c:=m.2.2) (by rw [Int.mul_comm,c12,Int.mul_comm]) (by rw [Int.mul_comm,←c23,Int.mul_comm]) ZO) (tR (b:=l.1) (c:=l.2.2) c12.symm c23 ZP)
 have sl:¬(l.1<0\/l.1=0/\l.2.1<0):=fun h=>by
  unfold lO at cl
  rw [if_pos h] at cl
  have e1:-l.1=l.1:=congrArg (fun x:L3=>x.1) cl
  have e2:-l.2.1=l.2.1:=congrArg (fun x:L3=>x.2.1) cl
  omega
 have sm:¬(m.1<0\/m.1=0/\m.2.1<0):=fun h=>by
  unfold lO at cm
  rw [if_pos h] at cm
  have e1:-m.1=m.1:=congrArg (fun x:L3=>x.1) cm
  have e2:-m.2.1=m.2.1:=congrArg (fun x:L3=>x.2.1) cm
  omega
 have e1:l.1=m.1:=by omega
 by_cases z:l.1=0
 ·have e2:l.2.1=m.2.1:=by omega
  have n2:l.2.1≠0:=fun h=>ol1 ⟨z,h⟩
  have e3:m.2.2=l.2.2:=Int.eq_of_mul_eq_mul_left n2 (by rw [c23,e2,Int.mul_comm])
  exact Prod.ext e1 (Prod.ext e2 e3.symm)
 ·have e2:m.2.1=l.2.1:=Int.eq_of_mul_eq_mul_left z (by rw [c12,e1,Int.mul_comm])
  have e3:m.2.2=l.2.2:=Int.eq_of_mul_eq_mul_left z (by rw [c13,e1,Int.mul_comm])
  exact Prod.ext e1 (Prod.ext e2.symm e3.symm)
end Go.Proofs.Tryz.aq
