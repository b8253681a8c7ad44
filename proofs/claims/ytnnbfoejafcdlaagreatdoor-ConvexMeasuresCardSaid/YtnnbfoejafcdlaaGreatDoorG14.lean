import Derived.Test.YtnnbfoejafcdlaaGreatDoorG13
import Derived.Test.YtnnbfoejafcdlaaGreatDoorG7
import Derived.Test.YtnnbfoejafcdlaaGreatDoorG9
import Derived.Test.YtnnbfoejafcdlaaGreatDoorG12
import Derived.Test.YtnnbfoejafcdlaaGreatDoorG5
set_option linter.unusedVariables false
open Go.IntKind (i64 u64 u32)
namespace Go.Proofs.Tryz
open Go.bM Go.fR
structure UU (V:View) (vs:List Value) (i:Int) (f a b c:Rat):Prop where
 h0:0<=i
 h3:i<=3
 row:∃(x1 x2:Int)(p:OA)(y1 y2:Int)(q:OA)(z1 z2:Int)(r:OA),vs=[.int .i64 x1,.int .i64 x2,.pointer p,.int .i64 y1,.int .i64 y2,.pointer q,.int .i64 z1,.int .i64 z2,.pointer r] /\
  RR V (.agg #[.int .i64 x1,.int .i64 x2,.pointer p]) (if 0<i then a*f else a)/\RR V (.agg #[.int .i64 y1,.int .i64 y2,.pointer q]) (if 1<i then b*f else b)/\RR V (.agg #[.int .i64 z1,.int .i64 z2,.pointer r]) (if 2<i then c*f else c)
theorem UU.le {V V':View}{vs:List Value}{i:Int}{f a b c:Rat}(h:UU V vs i f a b c)(l:V.Le V'):UU V' vs i f a b c:=by
 obtain ⟨d,g,j,k,p,m,n,q,o,s,r,e,t,u,v⟩:=h
 exact ⟨d,g,j,k,p,m,n,q,o,s,r,e,t.le l,u.le l,v.le l⟩
def GU (px py qx qy:Rat):L3:=S6 (-(qy-py)) (qx-px) (-(-(qy-py)*px+(qx-px)*py))
theorem Oe {px py qx qy:Rat}:(px=qx/\py=qy)↔(-(qy-py)=0/\qx-px=0):=⟨fun ⟨a,b⟩=>⟨by grind,by grind⟩,fun ⟨a,b⟩=>⟨by grind,by grind⟩⟩
def Jj (b:Bool)(xs ys:List Nat):Rat:=mkRat (aY b xs) (val ys)
def Qk (b:Bool)(xs ys:List Nat):Bool:=mS b xs&&decide (ah (val ys)=ys)&&!decide (ys=[])&&decide (Nat.gcd (val xs) (val ys)=1)
def Yu (b:Bool)(xs ys:List Nat):Bool:=!b&&decide (xs=[])&&decide (ys=[])
def PE (b:Bool)(xs ys:List Nat)(no:Bool):Rat:=if no then 0 else Jj b xs ys
def Ke (b:Bool)(xs ys:List Nat)(no:Bool):Bool:=if no then Yu b xs ys else Qk b xs ys
theorem HV {q:Rat}:Qk (decide (q.num<0)) (ah q.num.natAbs) (ah q.den)=true/\Jj (decide (q.num<0)) (ah q.num.natAbs) (ah q.den)=q:=by
 constructor
 ·unfold Qk
  have a:mS (decide (q.num<0)) (ah q.num.natAbs)=true:=by
   unfold mS
   rw [ae]
   by_cases h:q.num<0
   ·have:ah q.num.natAbs≠[]:=fun e=>by have:=bC.1 e;omega
    simp [h,this]
   ·simp [h]
  have b:ah q.den≠[]:=fun e=>q.den_nz (bC.1 e)
  rw [a,ae,ae]
  simp [b,q.reduced]
 ·unfold Jj
  rw [aG,ae,Rat.mkRat_self]
theorem FJ {V:View}{v:Value}{s:Sp}(h:Ho V v s){k:Nat}(hs:s.sz k)(hk:2*k<1099511627776) :
  ab prog 223 #[v] V fun r V'=>r=.bool s.emp:=by
 obtain ⟨f,g,p,i,j,q,rfl,l,m⟩:=h
 refine uk f g p i j q s.a s.b V _ ⟨fun c=>⟨fun d n e=>(lQ (l.le e) (m.le e) hs.1 hs.2 (by omega)).mono ?_,fun d o t=>?_⟩,fun c u w=>?_⟩
 ·rintro r V2 x rfl
  exact ⟨_,rfl,fun y z=>by rw [Bool.not_eq_true'] at c d;simp [Sp.emp,c,d]⟩
 ·rw [Bool.not_eq_false'] at d;simp [Sp.emp,d]
 ·rw [Bool.not_eq_false'] at c;simp [Sp.emp,c]
def Ue (V:View)(v:Value)(b1:Bool)(Oh Oj:List Nat)(b2:Bool)(Oi Ok:List Nat)(na nb:Bool):Prop:=∃p n c p' n' c' q m e q' m' e',v=.agg #[.bool b1,.slice p n c,.slice p' n' c',.bool b2,.slice q m e,.slice q' m' e',.bool na,.bool nb] /\
 Mu V (.agg #[.bool b1,.slice p n c,.slice p' n' c']) b1 Oh Oj/\Mu V (.agg #[.bool b2,.slice q m e,.slice q' m' e']) b2 Oi Ok
theorem Ue.le {V V':View}{v:Value}{b1:Bool}{Oh Oj:List Nat}{b2:Bool}{Oi Ok:List Nat}{na nb:Bool}(h:Ue V v b1 Oh Oj b2 Oi Ok na nb)(l:V.Le V'):Ue V' v b1 Oh Oj b2 Oi Ok na nb:=by
 obtain ⟨p,n,c,d,f,g,q,m,e,i,j,k,rfl,a,b⟩:=h
 exact ⟨_,_,_,_,_,_,_,_,_,_,_,_,rfl,a.le l,b.le l⟩
def TQ (b1:Bool)(Oh Oj:List Nat)(b2:Bool)(Oi Ok:List Nat)(na nb:Bool):Sp:=⟨PE b1 Oh Oj na,PE b2 Oi Ok nb,na,nb⟩
def okW (b1:Bool)(Oh Oj:List Nat)(b2:Bool)(Oi Ok:List Nat)(na nb:Bool):Bool:=Ke b1 Oh Oj na&&Ke b2 Oi Ok nb&&!(TQ b1 Oh Oj b2 Oi Ok na nb).emp
def FOk (l:L3)(s:Sp):Prop:=dH l=true/\s.can/\s.emp=false
theorem RE.raw {V:View}{v:Value}{q:Rat}{no:Bool}(h:RE V v q no)(hc:no=true->q=0):∃b xs ys,Mu V v b xs ys/\Ke b xs ys no=true/\PE b xs ys no=q/\(∀k,Sz k q->xs.length<=k/\ys.length<=k):=by
 cases no with
 | true=>
  exact ⟨false,[],[],h.1 rfl,rfl,by rw [hc rfl];rfl,fun k _=>⟨Nat.zero_le _,Nat.zero_le _⟩⟩
 | false=>
  obtain ⟨p,n,c,f,g,i,rfl,d,e⟩:=h.2 rfl
  exact ⟨_,_,_,⟨_,_,_,_,_,_,rfl,d,e⟩,HV.1,HV.2,fun k a=>⟨af a.1,af a.2⟩⟩
theorem yv.api {V:View}{r:Value}{l:L3}(h:RL V r ((l.1:Rat)).num ((l.2.1:Rat)).num ((l.2.2:Rat)).num):RL V r l.1 l.2.1 l.2.2:=by
 simpa [Rat.num_intCast] using h
theorem Ch {l:L3}(h:dH l=true):Nz l:=by
 unfold dH at h
 intro e
 simp [e.1,e.2] at h
def Ec (x y:Rat):Rat:=if 0<fA y x then y else x
def mq (x y:Rat):Rat:=if fA y x<0 then y else x
theorem me (x y:Rat):(x<y/\fA x y=-1)\/(x=y/\fA x y=0)\/(y<x/\fA x y=1):=by
 by_cases a:x<y
 ·exact .inl ⟨a,BQ.1 a⟩
 ·by_cases b:x=y
  ·exact .inr (.inl ⟨b,iV.1 b⟩)
  ·have c:y<x:=by grind
   exact .inr (.inr ⟨c,uL.1 c⟩)
theorem Sp.mg {s:Sp}:s.emp=false↔(s.a=true\/s.b=true\/s.lo<s.hi):=by
 unfold Sp.emp
 rcases me s.lo s.hi with ⟨h,e⟩|⟨h,e⟩|⟨h,e⟩<;>rw [e]<;>cases s.a<;>cases s.b<;>simp<;>grind
def Sp.meet (v w:Sp):Sp:=⟨if v.a then w.lo else if w.a then v.lo else Ec v.lo w.lo,if v.b then w.hi else if w.b then v.hi else mq v.hi w.hi,if v.a then w.a else false,if v.b then w.b else false⟩
theorem Sp.Ef {v w:Sp}(h1:v.can)(h2:w.can):(v.meet w).can:=by
 unfold Sp.meet
 constructor<;>dsimp only
 ·cases hv:v.a with
  | false=>intro h;cases h
  | true=>exact fun h=>h2.1 h
 ·cases hv:v.b with
  | false=>intro h;cases h
  | true=>exact fun h=>h2.2 h
def Sp.bG (s:Sp):Rat:=if s.a then (if s.b then 0 else s.hi-((1:Int):Rat)) else if s.b then s.lo+((1:Int):Rat) else (s.lo+s.hi)*((2:Int):Rat)⁻¹
theorem Sp.H5 {s:Sp}(h:s.emp=false):(s.a=false->s.lo<s.bG)/\(s.b=false->s.bG<s.hi):=by
 rw [Sp.mg] at h
 unfold Sp.bG
 cases ha:s.a<;>cases hb:s.b<;>simp [ha,hb] at h⊢<;> grind
def cZ (m l:L3):Rat:=((m.1:Rat)*(l.2.1:Rat))+((m.2.1:Rat)*(-(l.1:Rat)))
def iT (m l:L3):Rat:=ar m (fm l 0) (fu l 0)
theorem eQ (m l:L3)(t:Rat):ar m (fm l t) (fu l t)=iT m l+cZ m l*t:=by
 unfold iT ar cZ fm fu;grind
def eJ (m l:L3):Rat:=-(iT m l*(cZ m l)⁻¹)
def dM (l:L3)(s:Sp)(m:L3):Sp:=
 if (cZ m l).num.sign==0 then s else if (cZ m l).num.sign==1 then s.meet ⟨eJ m l,0,false,true⟩ else s.meet ⟨0,eJ m l,true,false⟩
def eA (l:L3)(s:Sp)(m:L3):Bool:=
 if (cZ m l).num.sign==0 then decide ((iT m l).num.sign>0) else !(dM l s m).emp
theorem ko (q:Rat):(q=0/\q.num.sign=0)\/(0<q/\q.num.sign=1)\/(q<0/\q.num.sign=-1):=by
 have a:=@Ek q
 have b:=@El q
 have c:=@Rat.num_eq_zero q
 rcases Int.lt_trichotomy q.num 0 with h|h|h
 ·exact .inr (.inr ⟨a.1 h,Int.sign_eq_neg_one_of_neg h⟩)
 ·exact .inl ⟨c.1 h,by rw [h];rfl⟩
 ·exact .inr (.inl ⟨b.1 h,Int.sign_eq_one_of_pos h⟩)
theorem J8 {l:L3}{s:Sp}{m:L3}(he:s.emp=false)(hb:eA l s m=true):(dM l s m).emp=false:=by
 unfold eA at hb
 split at hb
 ·rename_i h
  unfold dM
  rw [if_pos h];exact he
 ·simpa using hb
theorem J9 {l:L3}{s:Sp}{m:L3}(hc:s.can):(dM l s m).can:=by
 unfold dM
 split
 ·exact hc
 ·split
  ·exact Sp.Ef hc ⟨(fun h=>nomatch h),fun _=>rfl⟩
  ·exact Sp.Ef hc ⟨fun _=>rfl,(fun h=>nomatch h)⟩
theorem val_rev (m:L3)(x y:Rat):ar (jJ m) x y=-ar m x y:=by
 unfold ar jJ;simp only [Rat.intCast_neg];grind
def aP (l m:L3):Rat:=((l.1:Rat)*(m.2.1:Rat))-((l.2.1:Rat)*(m.1:Rat))
def Ed (l m:L3):Rat:=(((l.2.1:Rat)*(m.2.2:Rat))-((l.2.2:Rat)*(m.2.1:Rat)))*(aP l m)⁻¹
def Ee (l m:L3):Rat:=(((l.2.2:Rat)*(m.1:Rat))-((l.1:Rat)*(m.2.2:Rat)))*(aP l m)⁻¹
theorem kN.ah {k:Nat}{l:L3}(h:kN k l)(hk:k<=1099511627776):(ah l.1.natAbs).length<=1099511627776/\(ah l.2.1.natAbs).length<=1099511627776/\(ah l.2.2.natAbs).length<=1099511627776:=by
 have d1:=af (show l.1.natAbs<2^k from h.1.1)
 have d2:=af (show l.2.1.natAbs<2^k from h.2.1.1)
 have d3:=af (show l.2.2.natAbs<2^k from h.2.2.1)
 exact ⟨by omega,by omega,by omega⟩
def T9 (V:View)(ad:Addr)(l:L3)(s:Sp):Prop:=∃xs:List Value,QZ V (.agg xs.toArray) l s/\∀i x,xs[i]?=some x->V.at (ad.add i) x
theorem T9.le {V V':View}{ad:Addr}{l:L3}{s:Sp}(h:T9 V ad l s)(e:V.Le V'):T9 V' ad l s:=by
 obtain ⟨xs,a,b⟩:=h;exact ⟨xs,a.le e,fun i x c=>e.at (b i x c)⟩
structure Pm (V:View) (p:OA) (n:Nat) (fs:List (L3×Sp)):Prop where
 len:n=fs.length
 at_:∀(i:Nat)(h:i<fs.length),∃ad,ag p (i*14)=some ad/\T9 V ad fs[i].1 fs[i].2
theorem Pm.le {V V':View}{p:OA}{n:Nat}{fs:List (L3×Sp)}(h:Pm V p n fs)(e:V.Le V'):Pm V' p n fs:=⟨h.len,fun i a=>by obtain ⟨b,c,d⟩:=h.at_ i a;exact ⟨b,c,d.le e⟩⟩
theorem kf {p:OA}{j:Nat}{ad:Addr}(h:ag p j=some ad):p.isSome=true:=by
 cases p with
 | none=>cases h
 | some a=>rfl
def Uf (V:View)(ad:Addr)(s:Sp):Prop:=∃xs:List Value,Fz V (.agg xs.toArray) s/\∀i x,xs[i]?=some x->V.at (ad.add i) x
theorem Uf.le {V V':View}{ad:Addr}{s:Sp}(h:Uf V ad s)(e:V.Le V'):Uf V' ad s:=by
 obtain ⟨xs,a,b⟩:=h;exact ⟨xs,a.le e,fun i x c=>e.at (b i x c)⟩
structure UT (V:View) (p:OA) (n:Nat) (ss:List Sp):Prop where
 len:n=ss.length
 at_:∀(i:Nat)(h:i<ss.length),∃ad,ag p (i*8)=some ad/\Uf V ad ss[i]
theorem UT.le {V V':View}{p:OA}{n:Nat}{ss:List Sp}(h:UT V p n ss)(e:V.Le V'):UT V' p n ss:=⟨h.len,fun i a=>by obtain ⟨b,c,d⟩:=h.at_ i a;exact ⟨b,c,d.le e⟩⟩
def Sp.la (s:Sp)(t:Rat):Int:=if s.a then 1 else fA t s.lo
def Sp.lb (s:Sp)(t:Rat):Int:=if s.b then -1 else fA t s.hi
theorem FP {V:View}{v:Value}{q:Rat}(h:RQ V v q):ab prog 57 #[v] V fun r V'=>RQ V' r (-q):=by
 obtain ⟨p,n,c,d,e,f,rfl,a,b⟩:=h
 exact kX q a b
theorem Mb {px py qx qy:Rat}:((nR px py qx qy).1.num / (iE (nR px py qx qy).1.num (nR px py qx qy).2.1.num (nR px py qx qy).2.2.num:Int),(nR px py qx qy).2.1.num / (iE (nR px py qx qy).1.num (nR px py qx qy).2.1.num (nR px py qx qy).2.2.num:Int),(nR px py qx qy).2.2.num / (iE (nR px py qx qy).1.num (nR px py qx qy).2.1.num (nR px py qx qy).2.2.num:Int))=GU px py qx qy:=by
 unfold nR GU S6 Cc
 have e:∀x:Rat,(-x).den=x.den:=fun x=>rfl
 rw [e (-(qy-py)*px+(qx-px)*py)]
 rfl
theorem Mc {px py qx qy:Rat}:((nR px py qx qy).1.num=0/\(nR px py qx qy).2.1.num=0)↔(px=qx/\py=qy):=by
 unfold nR
 dsimp only
 generalize hf:(-(qy-py)).den*(qx-px).den*(-(-(qy-py)*px+(qx-px)*py)).den=f
 have b:f≠0:=by rw [←hf];exact Nat.mul_ne_zero (Nat.mul_ne_zero (Rat.den_nz _) (Rat.den_nz _)) (Rat.den_nz _)
 have a:((f:Int):Rat)≠0:=by exact_mod_cast b
 rw [Rat.num_eq_zero,Rat.num_eq_zero,Rat.mul_eq_zero,Rat.mul_eq_zero,or_iff_left a,or_iff_left a]
 exact Oe.symm
theorem Jh {V:View}{u w:Value}{px py qx qy:Rat}(hp:RP V u px py)(hq:RP V w qx qy){k:Nat}(s1:Sz k px)(s2:Sz k py)(s3:Sz k qx)(s4:Sz k qy)(hk1:1<=k)(hk:64*k+64<274877906944) :
  ab prog 11 #[u,w] V fun r V'=>(px=qx/\py=qy->∃l,r=.tuple #[l,.bool false]/\RL V' l 0 0 0)/\(¬(px=qx/\py=qy)->∃l,r=.tuple #[l,.bool true]/\RL V' l (GU px py qx qy).1 (GU px py qx qy).2.1 (GU px py qx qy).2.2):=by
 refine (mM hp hq s1 s2 s3 s4 hk1 hk).mono ?_
 rintro r V2 d ⟨a,b⟩
 have e:=Mb (px:=px) (py:=py) (qx:=qx) (qy:=qy)
 rw [Mc] at a b
 refine ⟨a,fun h=>?_⟩
 obtain ⟨l,c,g⟩:=b h
 rw [←e]
 exact ⟨l,c,g⟩
theorem FrSh.ex {V:View}{v:Value}{l:L3}{s:Sp}(h:Pn V v l s):∃(x1 x2:Int)(p:OA)(y1 y2:Int)(q:OA)(z1 z2:Int)(r:OA)(u1 u2:Int)(t:OA)(w1 w2:Int)(o:OA),
 v=.agg #[.int .i64 x1,.int .i64 x2,.pointer p,.int .i64 y1,.int .i64 y2,.pointer q,.int .i64 z1,.int .i64 z2,.pointer r,.int .i64 u1,.int .i64 u2,.pointer t,.int .i64 w1,.int .i64 w2,.pointer o,.bool s.a,.bool s.b]:=by
 obtain ⟨_,_,_,_,_,_,_,_,_,_,_,_,_,_,_,e,-⟩:=h;exact ⟨_,_,_,_,_,_,_,_,_,_,_,_,_,_,_,e⟩
theorem FK {V:View}{v w:Value}{x y:Rat}(hx:RR V v x)(hy:RR V w y){k:Nat}(sx:Sz k x)(sy:Sz k y)(hk:2*k<1099511627776) :
  ab prog 222 #[v,w] V fun r V'=>RR V' r (Ec x y):=by
 have g:=hx
 have i:=hy
 obtain ⟨a,b,c,rfl⟩:=hx.shape
 obtain ⟨d,e,f,rfl⟩:=hy.shape
 refine EX a b c d e f V _ fun o j=>(lQ (i.le j) (g.le j) sy sx (by omega)).mono ?_
 rintro r V2 l rfl
 unfold Ec
 exact ⟨_,rfl,fun h p m=>by rw [if_pos (of_decide_eq_true h)];exact i.le (j.trans (l.trans m)),fun h q n=>by rw [if_neg (of_decide_eq_false h)];exact g.le (j.trans (l.trans n))⟩
theorem vD {V:View}{v w:Value}{x y:Rat}(hx:RR V v x)(hy:RR V w y){k:Nat}(sx:Sz k x)(sy:Sz k y)(hk:2*k<1099511627776) :
  ab prog 145 #[v,w] V fun r V'=>RR V' r (mq x y):=by
 have g:=hx
 have i:=hy
 obtain ⟨a,b,c,rfl⟩:=hx.shape
 obtain ⟨d,e,f,rfl⟩:=hy.shape
 refine EY a b c d e f V _ fun o j=>(lQ (i.le j) (g.le j) sy sx (by omega)).mono ?_
 rintro r V2 l rfl
 unfold mq
 exact ⟨_,rfl,fun h p m=>by rw [if_pos (of_decide_eq_true h)];exact i.le (j.trans (l.trans m)),fun h q n=>by rw [if_neg (of_decide_eq_false h)];exact g.le (j.trans (l.trans n))⟩
theorem Sp.Ce {v w:Sp}{k:Nat}(h1:v.sz k)(h2:w.sz k):(v.meet w).sz k:=by
 unfold Sp.meet Sp.sz Ec mq
 constructor<;>dsimp only
 ·split
  ·exact h2.1
  ·split
   ·exact h1.1
   ·split
    ·exact h2.1
    ·exact h1.1
 ·split
  ·exact h2.2
  ·split
   ·exact h1.2
   ·split
    ·exact h2.2
    ·exact h1.2
theorem Ar {V:View}{v w:Value}{s t:Sp}(h:Ho V v s)(h':Ho V w t){k:Nat}(hs:s.sz k)(ht:t.sz k)(hk:2*k<1099511627776) :
  ab prog 195 #[v,w] V fun r V'=>∃u,r=.tuple #[u,.bool (!(s.meet t).emp)]/\Ho V' u (s.meet t):=by
 obtain ⟨T,U,p,l,m,q,rfl,W,A⟩:=h
 obtain ⟨X,Y,o,Z,w2,j,rfl,g1,g2⟩:=h'
 have Xe:s.a=true->(s.meet t).lo=t.lo/\(s.meet t).a=t.a:=fun e=>by simp [Sp.meet,e]
 have D:s.a=false->t.a=false->(s.meet t).lo=Ec s.lo t.lo:=fun e f=>by simp [Sp.meet,e,f]
 have E:s.a=false->t.a=true->(s.meet t).lo=s.lo:=fun e f=>by simp [Sp.meet,e,f]
 have n:s.a=false->(s.meet t).a=s.a:=fun e=>by simp [Sp.meet,e]
 have x:s.b=true->(s.meet t).hi=t.hi/\(s.meet t).b=t.b:=fun e=>by simp [Sp.meet,e]
 have F:s.b=false->t.b=false->(s.meet t).hi=mq s.hi t.hi:=fun e f=>by simp [Sp.meet,e,f]
 have G:s.b=false->t.b=true->(s.meet t).hi=s.hi:=fun e f=>by simp [Sp.meet,e,f]
 have y:s.b=false->(s.meet t).b=s.b:=fun e=>by simp [Sp.meet,e]
 refine xG T U p l m q s.a s.b X Y o Z w2 j t.a t.b V _ ⟨fun z i=>RR i (.agg #[.int .i64 z.1,.int .i64 z.2.1,.pointer z.2.2.1]) (s.meet t).lo/\RR i (.agg #[.int .i64 z.2.2.2.1,.int .i64 z.2.2.2.2.1,.pointer z.2.2.2.2.2.1]) s.hi/\z.2.2.2.2.2.2.1=(s.meet t).a/\z.2.2.2.2.2.2.2=s.b,⟨fun c=>?_,fun c=>⟨fun d i H=>(FK (W.le H) (g1.le H) hs.1 ht.1 hk).mono ?_,fun d=>?_⟩⟩,?_⟩
 ·refine ⟨(X,Y,o,l,m,q,t.a,s.b),by and_intros<;>rfl,?_,A,(Xe c).2.symm,rfl⟩
  rw [(Xe c).1];exact g1
 ·rintro r V2 l2 g
  rw [Bool.not_eq_true'] at d
  have I:=g
  obtain ⟨J,K,L,rfl⟩:=g.shape
  refine ⟨_,_,_,rfl,(J,K,L,l,m,q,s.a,s.b),by and_intros<;>rfl,?_,A.le (H.trans l2),(n c).symm,rfl⟩
  rw [D c d];exact I
 ·rw [Bool.not_eq_false'] at d
  refine ⟨(T,U,p,l,m,q,s.a,s.b),by and_intros<;>rfl,?_,A,(n c).symm,rfl⟩
  rw [E c d];exact W
 ·rintro ⟨M,N,O,z4,z5,z6,z7,z8⟩ V3 P ⟨B,k2,k3,k4⟩
  dsimp only at B k2 k3 k4
  subst k3 k4
  refine ⟨rfl,fun z i=>RR i (.agg #[.int .i64 z.1,.int .i64 z.2.1,.pointer z.2.2.1]) (s.meet t).lo/\RR i (.agg #[.int .i64 z.2.2.2.1,.int .i64 z.2.2.2.2.1,.pointer z.2.2.2.2.2.1]) (s.meet t).hi/\z.2.2.2.2.2.2.1=(s.meet t).a/\z.2.2.2.2.2.2.2=(s.meet t).b,⟨fun c=>?_,fun c=>⟨fun d V4 Q=>(vD (A.le (P.trans Q)) (g2.le (P.trans Q)) hs.2 ht.2 hk).mono ?_,fun d=>?_⟩⟩,?_⟩
  ·refine ⟨(M,N,O,Z,w2,j,(s.meet t).a,t.b),by and_intros<;>rfl,B,?_,rfl,(x c).2.symm⟩
   rw [(x c).1];exact g2.le P
  ·rintro r V5 l5 g
   rw [Bool.not_eq_true'] at d
   have I:=g
   obtain ⟨J,K,L,rfl⟩:=g.shape
   refine ⟨_,_,_,rfl,(M,N,O,J,K,L,(s.meet t).a,s.b),by and_intros<;>rfl,B.le (Q.trans l5),?_,rfl,(y c).symm⟩
   rw [F c d];exact I
  ·rw [Bool.not_eq_false'] at d
   refine ⟨(M,N,O,z4,z5,z6,(s.meet t).a,s.b),by and_intros<;>rfl,B,?_,rfl,(y c).symm⟩
   rw [G c d];exact k2
  ·rintro ⟨l,m,y3,y4,y5,y6,y7,y8⟩ V6 l6 ⟨R,S,j3,j4⟩
   dsimp only at R S j3 j4
   subst j3 j4
   refine ⟨rfl,fun V7 C=>(FJ ⟨_,_,_,_,_,_,rfl,R.le C,S.le C⟩ (Sp.Ce hs ht) hk).mono ?_⟩
   rintro r V8 l8 rfl
   exact ⟨_,rfl,fun V9 l9=>⟨_,rfl,_,_,_,_,_,_,rfl,R.le (C.trans (l8.trans l9)),S.le (C.trans (l8.trans l9))⟩⟩
theorem oE {L M:L3}{k:Nat}(sl:kN k L)(sm:kN k M):Sz (4*k+3) (cZ M L):=dL sm.1 sm.2.1 sl.2.1 sl.1.neg
theorem JR {L M:L3}:(((M.1:Rat)*((L.1:Rat)*(((-(L.2.2:Rat))*(((L.1:Rat)*(L.1:Rat))+((L.2.1:Rat)*(L.2.1:Rat)))⁻¹))))+((M.2.1:Rat)*((L.2.1:Rat)*(((-(L.2.2:Rat))*(((L.1:Rat)*(L.1:Rat))+((L.2.1:Rat)*(L.2.1:Rat)))⁻¹)))))+(M.2.2:Rat)=iT M L:=by
 unfold iT ar fm fu fZ;grind
theorem oD {L M:L3}{k:Nat}(sl:kN k L)(sm:kN k M):Sz (50*k+49) (iT M L):=by
 rw [←JR]
 exact Sz.mono (lJ (k:=10*k+9) (sm.1.mono (by omega)) (sm.2.1.mono (by omega)) (sm.2.2.mono (by omega)) (dY sl.1 sl.2.1 sl.2.2) (dZ sl.1 sl.2.1 sl.2.2)) (by omega)
theorem uY {L M:L3}{k:Nat}(sl:kN k L)(sm:kN k M):Sz (60*k+60) (eJ M L):=Sz.mono ((oD sl sm).mul (cP (oE sl sm))).neg (by omega)
theorem JI (k:Nat)(hk:0<k):Sz k (0:Rat):=⟨by show (0:Int).natAbs<_;exact Nat.lt_of_lt_of_le (by decide) (Nat.one_le_two_pow),Nat.one_lt_two_pow (by omega)⟩
theorem Dq {V:View}{l v m:Value}{L:L3}{s:Sp}{M:L3}(hl:yv V l L)(hv:Ho V v s)(hm:yv V m M){k:Nat}(sl:kN k L)(hs:s.sz k)(sm:kN k M)(hk:200*k+200<274877906944) :
  ab prog 160 #[l,v,m] V fun r V'=>∃w,r=.tuple #[w,.bool (eA L s M)]/\Ho V' w (dM L s M):=by
 have f:=hl
 have b:=hv
 have g:=hm
 obtain ⟨_,_,_,_,_,_,_,_,_,rfl,-,-,-⟩:=hl
 obtain ⟨_,_,_,_,_,_,rfl,-,-⟩:=hv
 obtain ⟨_,_,_,_,_,_,_,_,_,rfl,-,-,-⟩:=hm
 have h:s.sz (60*k+60):=⟨hs.1.mono (by omega),hs.2.mono (by omega)⟩
 have z:=JI (60*k+60) (by omega)
 refine zD _ _ _ _ _ _ _ _ _ _ _ _ _ _ _ _ _ _ _ _ _ _ _ _ _ _ V _ fun V1 x=>(cq (g.le x) sm.1 sm.2.1 sm.2.2 (by omega)).mono ?_
 rintro r V2 X Y
 have y:=Y
 obtain ⟨_,_,_,_,_,_,rfl,-,-⟩:=Y
 refine ⟨_,_,_,_,_,_,rfl,fun V3 A=>(lT (f.le (x.trans (X.trans A))) sl.1 sl.2.1 sl.2.2 (by omega)).mono ?_⟩
 rintro r V4 Z g2
 have B:=g2
 obtain ⟨_,_,_,_,_,_,rfl,-,-⟩:=g2
 refine ⟨_,_,_,_,_,_,rfl,fun V5 C=>(iU (y.le (A.trans (Z.trans C))) (B.le C) sm.1 sm.2.1 sl.2.1 sl.1.neg (by omega)).mono ?_⟩
 rintro r D l6 g3
 have E:RR D r (cZ M L):=g3
 obtain ⟨_,_,_,rfl⟩:=g3.shape
 have i:V.Le D:=x.trans (X.trans (A.trans (Z.trans (C.trans l6))))
 refine ⟨_,_,_,rfl,fun V7 F=>(oN (f.le (i.trans F)) sl.1 sl.2.1 sl.2.2 (by omega)).mono ?_⟩
 rintro r V8 l8 g4
 have DT:=g4
 obtain ⟨_,_,_,_,_,_,rfl,-,-⟩:=g4
 refine ⟨_,_,_,_,_,_,rfl,fun V9 G=>(jt (k:=10*k+9) (g.le (i.trans (F.trans (l8.trans G)))) (DT.le G) (sm.1.mono (by omega)) (sm.2.1.mono (by omega)) (sm.2.2.mono (by omega)) (dY sl.1 sl.2.1 sl.2.2) (dZ sl.1 sl.2.1 sl.2.2) (by omega)).mono ?_⟩
 rintro r iI H I
 rw [JR] at I
 have J:=I
 obtain ⟨_,_,_,rfl⟩:=I.shape
 have e:D.Le iI:=F.trans (l8.trans (G.trans H))
 refine ⟨_,_,_,rfl,fun ie bA=>(eF (E.le (e.trans bA)) (oE sl sm) (by omega)).mono ?_⟩
 rintro r lL bY rfl
 have a:iI.Le lL:=bA.trans bY
 refine ⟨_,rfl,fun c o_ cg=>(eF (J.le (a.trans cg)) (oD sl sm) (by omega)).mono ?_,fun c=>⟨fun K kr N=>(og (J.le (a.trans N)) (E.le (e.trans (a.trans N))) (oD sl sm) (oE sl sm) (by omega)).mono ?_,fun K yx O=>(og (J.le (a.trans O)) (E.le (e.trans (a.trans O))) (oD sl sm) (oE sl sm) (by omega)).mono ?_⟩⟩
 ·rintro r mJ c_ rfl
  have j:eA L s M=decide ((iT M L).num.sign>0):=by unfold eA;rw [if_pos c]
  have d:dM L s M=s:=by unfold dM;rw [if_pos c]
  rw [j,d]
  exact ⟨_,rfl,fun lN dp=>⟨_,rfl,b.le (i.trans (e.trans (a.trans (cg.trans (c_.trans dp)))))⟩⟩
 ·have d:dM L s M=s.meet ⟨eJ M L,0,false,true⟩:=by unfold dM;rw [if_neg (by rw [c];exact Bool.false_ne_true),if_pos K]
  have j:eA L s M=!(s.meet ⟨eJ M L,0,false,true⟩).emp:=by rw [←d];unfold eA;rw [if_neg (by rw [c];exact Bool.false_ne_true)]
  rw [j,d]
  rintro r mZ P n
  have Q:=n
  obtain ⟨_,_,_,rfl⟩:=n.shape
  refine ⟨_,_,_,rfl,fun pe o=>(oe (Q.le o) ((oD sl sm).mul (cP (oE sl sm))) (by omega)).mono ?_⟩
  rintro r R S p
  have T:RR R r (eJ M L):=p
  obtain ⟨_,_,_,rfl⟩:=p.shape
  refine ⟨_,_,_,rfl,fun yF q=>(Ar (t:=⟨eJ M L,0,false,true⟩) (b.le (i.trans (e.trans (a.trans (N.trans (P.trans (o.trans (S.trans q)))))))) ⟨_,_,_,_,_,_,rfl,T.le q,RR.zero _⟩ h ⟨uY sl sm,z⟩ (by omega)).mono ?_⟩
  rintro r uJ fB ⟨w,rfl,u⟩
  have U:=u
  obtain ⟨_,_,_,_,_,_,rfl,-,-⟩:=u
  exact ⟨_,_,_,_,_,_,_,_,_,rfl,fun tm W=>⟨_,rfl,U.le W⟩⟩
 ·have d:dM L s M=s.meet ⟨0,eJ M L,true,false⟩:=by unfold dM;rw [if_neg (by rw [c];exact Bool.false_ne_true),if_neg (by rw [K];exact Bool.false_ne_true)]
  have j:eA L s M=!(s.meet ⟨0,eJ M L,true,false⟩).emp:=by rw [←d];unfold eA;rw [if_neg (by rw [c];exact Bool.false_ne_true)]
  rw [j,d]
  rintro r mZ P n
  have Q:=n
  obtain ⟨_,_,_,rfl⟩:=n.shape
  refine ⟨_,_,_,rfl,fun pe o=>(oe (Q.le o) ((oD sl sm).mul (cP (oE sl sm))) (by omega)).mono ?_⟩
  rintro r R S p
  have T:RR R r (eJ M L):=p
  obtain ⟨_,_,_,rfl⟩:=p.shape
  refine ⟨_,_,_,rfl,fun yF q=>(Ar (t:=⟨0,eJ M L,true,false⟩) (b.le (i.trans (e.trans (a.trans (O.trans (P.trans (o.trans (S.trans q)))))))) ⟨_,_,_,_,_,_,rfl,RR.zero _,T.le q⟩ h ⟨z,uY sl sm⟩ (by omega)).mono ?_⟩
  rintro r uJ fB ⟨w,rfl,u⟩
  have U:=u
  obtain ⟨_,_,_,_,_,_,rfl,-,-⟩:=u
  exact ⟨_,_,_,_,_,_,_,_,_,rfl,fun tm W=>⟨_,rfl,U.le W⟩⟩
structure Fx (V:View) (p:OA) (n:Nat) (fs:List (L3×Sp)):Prop where
 len:n=fs.length
 at_:∀(i:Nat)(h:i<fs.length),∃ad,ag p (i*17)=some ad/\∃xs:List Value,Pn V (.agg xs.toArray) fs[i].1 fs[i].2/\∀j x,xs[j]?=some x->V.at (ad.add j) x
theorem Fx.le {V V':View}{p:OA}{n:Nat}{fs:List (L3×Sp)}(h:Fx V p n fs)(e:V.Le V'):Fx V' p n fs:=⟨h.len,fun i a=>by obtain ⟨b,c,xs,d,f⟩:=h.at_ i a;exact ⟨b,c,xs,d.le e,fun j x g=>e.at (f j x g)⟩⟩
theorem Fx.nil {V:View}:Fx V none 0 []:=⟨rfl,fun i a=>by simp at a⟩
theorem Fx.one {V:View}{bk:Nat}{xs:List Value}{ty:TypeId}{l:L3}{s:Sp}(hb:V.bI bk (.cells xs.toArray ty (0,0)))(hf:Pn V (.agg xs.toArray) l s):Fx V (some ⟨bk,0,none⟩) 1 [(l,s)]:=by
 refine ⟨rfl,fun i a=>?_⟩
 obtain rfl:i=0:=by simpa using a
 refine ⟨⟨bk,0,none⟩,by simp [ag,add_zero'],_,hf,fun j x b=>?_⟩
 rw [add_zero']
 exact gH hb b
theorem M3 {L M:L3}:((L.1:Rat)=(M.1:Rat)/\(L.2.1:Rat)=(M.2.1:Rat)/\(L.2.2:Rat)=(M.2.2:Rat))↔L=M:=by
 constructor
 ·rintro ⟨a,b,c⟩
  exact Prod.ext (Rat.intCast_inj.1 a) (Prod.ext (Rat.intCast_inj.1 b) (Rat.intCast_inj.1 c))
 ·rintro rfl
  exact ⟨rfl,rfl,rfl⟩
theorem Nn {V:View}{v w:Value}{L M:L3}(hl:yv V v L)(hm:yv V w M){k:Nat}(sl:kN k L)(sm:kN k M)(hk:k+k<1099511627776) :
  ab prog 134 #[v,w] V fun r V'=>r=.bool (decide (L=M)):=by
 refine (Ds hl hm sl.1 sl.2.1 sl.2.2 sm.1 sm.2.1 sm.2.2 hk).mono ?_
 rintro r V' l rfl
 rw [decide_eq_decide.2 M3]
def US (u:Value):Prop:=∃(x1 x2:Int)(p:OA)(y1 y2:Int)(q:OA),u=.agg #[.int .i64 x1,.int .i64 x2,.pointer p,.int .i64 y1,.int .i64 y2,.pointer q]
theorem qU {L M:L3}{k:Nat}(sl:kN k L)(sm:kN k M):Sz (4*k+3) (aP L M):=lK sl.1 sl.2.1 sm.1 sm.2.1
theorem O7 {L M:L3}{k:Nat}(sl:kN k L)(sm:kN k M):Sz (10*k+10) (Ed L M)/\Sz (10*k+10) (Ee L M):=
 ⟨Sz.mono (((sl.2.1.mul sm.2.2).sub (sl.2.2.mul sm.2.1)).mul (cP (qU sl sm))) (by omega),Sz.mono (((sl.2.2.mul sm.1).sub (sl.1.mul sm.2.2)).mul (cP (qU sl sm))) (by omega)⟩
theorem It {V:View}{l m:Value}{L M:L3}(hl:yv V l L)(hm:yv V m M){k:Nat}(sl:kN k L)(sm:kN k M)(hk:20*k+20<274877906944) :
  ab prog 138 #[l,m] V fun r V'=>∃w,r=.tuple #[w,.bool (decide (aP L M≠0))]/\US w/\(aP L M≠0->oF V' w (Ed L M) (Ee L M)):=by
 have j:=hl
 have n:=hm
 obtain ⟨_,_,_,_,_,_,_,_,_,rfl,a1,a2,N⟩:=hl
 obtain ⟨_,_,_,_,_,_,_,_,_,rfl,b1,b2,b3⟩:=hm
 have O:=qU sl sm
 refine xJ _ _ _ _ _ _ _ _ _ _ _ _ _ _ _ _ _ _ V _ fun V1 o=>(cq (j.le o) sl.1 sl.2.1 sl.2.2 (by omega)).mono ?_
 rintro r V2 P Q
 have p:=Q
 obtain ⟨_,_,_,_,_,_,rfl,-,-⟩:=Q
 refine ⟨_,_,_,_,_,_,rfl,fun V3 q=>(cq (n.le (o.trans (P.trans q))) sm.1 sm.2.1 sm.2.2 (by omega)).mono ?_⟩
 rintro r V4 R S
 have s:=S
 obtain ⟨_,_,_,_,_,_,rfl,-,-⟩:=S
 refine ⟨_,_,_,_,_,_,rfl,fun V5 t=>(gJ (p.le (q.trans (R.trans t))) (s.le t) sl.1 sl.2.1 sm.1 sm.2.1 (by omega)).mono ?_⟩
 rintro r T l6 U
 have u:RR T r (aP L M):=U
 obtain ⟨_,_,_,rfl⟩:=U.shape
 have v:V.Le T:=o.trans (P.trans (q.trans (R.trans (t.trans l6))))
 refine ⟨_,_,_,rfl,fun V7 W=>(vB (u.le W)).mono ?_⟩
 rintro r V8 l8 rfl
 have b:=W.trans l8
 refine ⟨_,rfl,fun h V9 l9=>?_,fun h iI a=>(fJ (a2.le (v.trans (b.trans a))) (b3.le (v.trans (b.trans a))) sl.2.1 sm.2.2 (by omega)).mono ?_⟩
 ·have h:=of_decide_eq_true h
  have e:decide (aP L M≠0)=false:=by simp [h]
  rw [e]
  exact ⟨_,rfl,⟨_,_,_,_,_,_,rfl⟩,fun h'=>absurd h h'⟩
 ·have h:=of_decide_eq_false h
  have e:decide (aP L M≠0)=true:=by simp [h]
  rw [e]
  have x:=v.trans (b.trans a)
  rintro r ie y X
  have NK:=X
  obtain ⟨_,_,_,rfl⟩:=X.shape
  refine ⟨_,_,_,rfl,fun lL d=>(fJ (N.le (x.trans (y.trans d))) (b2.le (x.trans (y.trans d))) sl.2.2 sm.2.1 (by omega)).mono ?_⟩
  rintro r o_ Y Z
  have z:=Z
  obtain ⟨_,_,_,rfl⟩:=Z.shape
  refine ⟨_,_,_,rfl,fun mJ A=>(qb (NK.le (d.trans (Y.trans A))) (z.le A) (sl.2.1.mul sm.2.2) (sl.2.2.mul sm.2.1) (by omega)).mono ?_⟩
  rintro r lN dp q3
  have B:=q3
  obtain ⟨_,_,_,rfl⟩:=q3.shape
  have C:iI.Le lN:=y.trans (d.trans (Y.trans (A.trans dp)))
  refine ⟨_,_,_,rfl,fun kr f=>(og (B.le f) (u.le (b.trans (a.trans (C.trans f)))) ((sl.2.1.mul sm.2.2).sub (sl.2.2.mul sm.2.1)) O (by omega)).mono ?_⟩
  rintro r D cQ q4
  have E:RR D r (Ed L M):=q4
  obtain ⟨_,_,_,rfl⟩:=q4.shape
  have g:V.Le D:=x.trans (C.trans (f.trans cQ))
  refine ⟨_,_,_,rfl,fun pe c=>(fJ (N.le (g.trans c)) (b1.le (g.trans c)) sl.2.2 sm.1 (by omega)).mono ?_⟩
  rintro r tj F p1
  have HZ:=p1
  obtain ⟨_,_,_,rfl⟩:=p1.shape
  refine ⟨_,_,_,rfl,fun yF i=>(fJ (a1.le (g.trans (c.trans (F.trans i)))) (b3.le (g.trans (c.trans (F.trans i)))) sl.1 sm.2.2 (by omega)).mono ?_⟩
  rintro r uJ fB p2
  have G:=p2
  obtain ⟨_,_,_,rfl⟩:=p2.shape
  refine ⟨_,_,_,rfl,fun tm H=>(qb (HZ.le (i.trans (fB.trans H))) (G.le H) (sl.2.2.mul sm.1) (sl.1.mul sm.2.2) (by omega)).mono ?_⟩
  rintro r yx gT p3
  have I:=p3
  obtain ⟨_,_,_,rfl⟩:=p3.shape
  have Yy:D.Le yx:=c.trans (F.trans (i.trans (fB.trans (H.trans gT))))
  refine ⟨_,_,_,rfl,fun Ik J=>(og (I.le J) (u.le (b.trans (a.trans (C.trans (f.trans (cQ.trans (Yy.trans J))))))) ((sl.2.2.mul sm.1).sub (sl.1.mul sm.2.2)) O (by omega)).mono ?_⟩
  rintro r Hq mO p4
  have K:RR Hq r (Ee L M):=p4
  obtain ⟨_,_,_,rfl⟩:=p4.shape
  exact ⟨_,_,_,rfl,fun JB mo=>⟨_,rfl,⟨_,_,_,_,_,_,rfl⟩,fun _=>⟨_,_,_,_,_,_,rfl,E.le (Yy.trans (J.trans (mO.trans mo))),K.le mo⟩⟩⟩
theorem TH (V:View):RQ V (.agg #[.bool false,.slice none 0 0,.slice none 0 0]) 0:=by have:=RQ.zero (V:=V);simpa using this
theorem BM {V:View}:ab prog 152 #[] V fun r V'=>Fz V' r ⟨0,0,true,true⟩:=
 zW V _ fun a b=>⟨_,_,_,_,_,_,_,_,_,_,_,_,_,_,rfl,TH _,TH _⟩
theorem xf {V:View}{v:Value}{s:Sp}(h:Fz V v s):∃b p n c p' n' c' d q m e q' m' e',v=.agg #[.bool b,.slice p n c,.slice p' n' c',.bool d,.slice q m e,.slice q' m' e',.bool s.a,.bool s.b]:=by
 obtain ⟨_,_,_,_,_,_,_,_,_,_,_,_,_,_,e,-⟩:=h;exact ⟨_,_,_,_,_,_,_,_,_,_,_,_,_,_,e⟩
theorem AA {V:View}{p:OA}{n c:Nat}{ds:List Nat}(h:RD V p n c ds)(hm:ds.length<=1099511627776) :
  ab prog 105 #[.slice p n c] V fun r V'=>∃p1 n1 c1,r=.slice p1 n1 c1/\RN V' p1 n1 c1 (val ds):=by
 have a:=h.len
 refine Hh p n c V _ ⟨aD ds,h.sl,by simp [a],by omega,by omega,by simp,by simp [a],?_,?_⟩
 ·intro v e
  simp only [aD,List.mem_map] at e
  obtain ⟨d,-,rfl⟩:=e
  rfl
 ·intro l J sp m f o q s b i
  simp only [Nat.zero_add,Nat.zero_mul,List.take_zero,List.nil_append] at i f ⊢
  refine (dB (copied h.fo a f i) (by omega)).mono ?_
  rintro r V2 t ⟨k,rfl,g⟩
  rw [aO h.fo] at g
  exact ⟨_,_,_,rfl,fun u w j=>⟨_,_,_,rfl,g.le j⟩⟩
theorem IA {V:View}(b:Bool){p:OA}{n c:Nat}{ds:List Nat}(h:RD V p n c ds)(hm:ds.length<=1099511627776) :
  ab prog 107 #[.agg #[.bool b,.slice p n c]] V fun r V'=>RI V' r (aY b ds):=by
 refine Hg b p n c V _ fun i a=>(AA (h.le a) hm).mono ?_
 rintro r V2 j ⟨k,l,m,rfl,g⟩
 refine ⟨_,_,_,rfl,fun o d=>(eH b (g.le d)).mono ?_⟩
 rintro r q s ⟨t,u,v,rfl,e⟩
 exact ⟨_,_,_,_,rfl,fun w f=>⟨_,_,_,rfl,e.le f⟩⟩
theorem KB {b:Bool}{ds:List Nat}(h:bX ds):(ah (aY b ds).natAbs).length<=ds.length:=by
 rw [eL];exact bg h
theorem IB {V:View}{v:Value}{b:Bool}{xs ys:List Nat}(h:Mu V v b xs ys)(m1:xs.length<=274877906944)(m2:ys.length<=274877906944) :
  ab prog 43 #[v] V fun r V'=>RQ V' r (Jj b xs ys):=by
 obtain ⟨p,n,c,q,m,e,rfl,d,f⟩:=h
 have d1:=KB (b:=b) d.fo
 have d2:=bg f.fo
 refine Hi b p n c q m e V _ fun B i=>(AA (f.le i) (by omega)).mono ?_
 rintro r V2 t ⟨C,j,D,rfl,g⟩
 have l:=g.len
 refine ⟨_,_,_,rfl,fun a u E=>?_,fun a F o=>(IA b (d.le (i.trans (t.trans o))) (by omega)).mono ?_⟩
 ·have a:((j:Nat):Int)=0:=by simpa using a
  have:ah (val ys)=[]:=List.length_eq_zero_iff.1 (by omega)
  have:val ys=0:=bC.1 this
  unfold Jj
  rw [this,Rat.mkRat_zero]
  have:=RQ.zero (V:=u)
  simpa using this
 ·have w:val ys≠0:=fun e=>by
   rw [e] at l
   have a:¬((j:Nat):Int)=0:=by simpa using a
   exact a (by rw [l];rfl)
  rintro r G x ⟨H,I,J,rfl,y⟩
  refine ⟨_,_,_,_,rfl,fun K s=>(jy _ (y.le s) (g.le (o.trans (x.trans s))) (by omega) (by omega) w).mono ?_⟩
  rintro r L M k
  have z:=k
  obtain ⟨_,_,_,_,_,_,rfl⟩:=k.shape
  exact ⟨_,_,_,_,_,_,_,rfl,fun N A=>z.le A⟩
def Uc (V:View)(v:Value)(b1:Bool)(xs:List Nat)(b2:Bool)(ys:List Nat)(b3:Bool)(zs:List Nat):Prop:=∃p n c q m e s i j,v=.agg #[.bool b1,.slice p n c,.bool b2,.slice q m e,.bool b3,.slice s i j]/\RD V p n c xs/\RD V q m e ys/\RD V s i j zs
theorem Uc.le {V V':View}{v:Value}{b1:Bool}{xs:List Nat}{b2:Bool}{ys:List Nat}{b3:Bool}{zs:List Nat}(h:Uc V v b1 xs b2 ys b3 zs)(l:V.Le V'):Uc V' v b1 xs b2 ys b3 zs:=by
 obtain ⟨p,n,c,q,m,e,s,i,j,rfl,a,b,d⟩:=h
 exact ⟨_,_,_,_,_,_,_,_,_,rfl,a.le l,b.le l,d.le l⟩
def Z_ (b1:Bool)(xs:List Nat)(b2:Bool)(ys:List Nat)(b3:Bool)(zs:List Nat):L3:=(aY b1 xs,aY b2 ys,aY b3 zs)
structure FW where
 b1:Bool
 xs:List Nat
 b2:Bool
 ys:List Nat
 b3:Bool
 zs:List Nat
 c1:Bool
 us:List Nat
 vs:List Nat
 c2:Bool
 ws:List Nat
 ts:List Nat
 na:Bool
 nb:Bool
def FW.ln (f:FW):L3:=Z_ f.b1 f.xs f.b2 f.ys f.b3 f.zs
def FW.sp (f:FW):Sp:=TQ f.c1 f.us f.vs f.c2 f.ws f.ts f.na f.nb
def FW.ok (f:FW):Bool:=wS f.b1 f.xs f.b2 f.ys f.b3 f.zs&&okW f.c1 f.us f.vs f.c2 f.ws f.ts f.na f.nb
structure FW.short (f:FW):Prop where
 x:f.xs.length<=1000000
 y:f.ys.length<=1000000
 z:f.zs.length<=1000000
 u:f.us.length<=1000000
 v:f.vs.length<=1000000
 w:f.ws.length<=1000000
 t:f.ts.length<=1000000
def Ub (V:View)(v:Value)(f:FW):Prop:=∃p1 n1 d1 p2 n2 d2 p3 n3 d3 p n c p' n' c' q m e q' m' e',
 v=.agg #[.bool f.b1,.slice p1 n1 d1,.bool f.b2,.slice p2 n2 d2,.bool f.b3,.slice p3 n3 d3,.bool f.c1,.slice p n c,.slice p' n' c',.bool f.c2,.slice q m e,.slice q' m' e',.bool f.na,.bool f.nb] /\
 Uc V (.agg #[.bool f.b1,.slice p1 n1 d1,.bool f.b2,.slice p2 n2 d2,.bool f.b3,.slice p3 n3 d3]) f.b1 f.xs f.b2 f.ys f.b3 f.zs /\
 Ue V (.agg #[.bool f.c1,.slice p n c,.slice p' n' c',.bool f.c2,.slice q m e,.slice q' m' e',.bool f.na,.bool f.nb]) f.c1 f.us f.vs f.c2 f.ws f.ts f.na f.nb
theorem Ub.le {V V':View}{v:Value}{f:FW}(h:Ub V v f)(l:V.Le V'):Ub V' v f:=by
 obtain ⟨d,g,d1,i,j,d2,k,o,d3,p,n,c,r,s,t,q,m,e,u,w,x,rfl,a,b⟩:=h
 exact ⟨_,_,_,_,_,_,_,_,_,_,_,_,_,_,_,_,_,_,_,_,_,rfl,a.le l,b.le l⟩
theorem kz {V:View}(z w:Int){p q:OA}{n c m e:Nat}(ha:RD V p n c (ah z.natAbs))(hb:RD V q m e (ah w.natAbs))(hm:(ah z.natAbs).length<=1099511627776)(hn:(ah w.natAbs).length<=1099511627776) :
  ab prog 157 #[.agg #[.bool (decide (z<0)),.slice p n c],.agg #[.bool (decide (w<0)),.slice q m e]] V fun r V'=>r=.int .i64 (z-w).sign:=by
 refine xQ _ p n c _ q m e V _ fun i a=>(iw w (hb.le a)).mono ?_
 rintro r V2 d ⟨j,k,l,rfl,f⟩
 refine ⟨_,_,_,_,rfl,fun o b=>(rQ z (-w) (ha.le (a.trans (d.trans b))) (f.le b) hm (by rw [Int.natAbs_neg];exact hn)).mono ?_⟩
 rintro r s t ⟨u,v,x,rfl,g⟩
 refine ⟨_,_,_,_,rfl,fun y h=>(vH _ (g.le h)).mono ?_⟩
 rintro r A B rfl
 exact ⟨_,rfl,fun C D=>by rw [Int.sub_eq_add_neg]⟩
def FY (l m:L3):Int:=if (l.1-m.1).sign≠0 then (l.1-m.1).sign else if (l.2.1-m.2.1).sign≠0 then (l.2.1-m.2.1).sign else (l.2.2-m.2.2).sign
theorem HA {l m:L3}:FY l m=0↔l=m:=by
 have e:∀{a b:Int},(a-b).sign=0↔a=b:=fun {a b}=>by rw [Int.sign_eq_zero_iff_zero];omega
 unfold FY
 constructor
 ·intro h
  by_cases c:(l.1-m.1).sign=0
  ·rw [if_neg (by simpa using c)] at h
   by_cases d:(l.2.1-m.2.1).sign=0
   ·rw [if_neg (by simpa using d)] at h
    exact Prod.ext (e.1 c) (Prod.ext (e.1 d) (e.1 h))
   ·rw [if_pos d] at h;exact absurd h d
  ·rw [if_pos c] at h;exact absurd h c
 ·rintro rfl
  simp
theorem tC {V:View}{v w:Value}{l m:L3}(hl:RL V v l.1 l.2.1 l.2.2)(hm:RL V w m.1 m.2.1 m.2.2){k:Nat}(sl:kN k l)(sm:kN k m)(hk:k<=1099511627776) :
  ab prog 88 #[v,w] V fun r V'=>r=.int .i64 (FY l m):=by
 obtain ⟨d1,d2,d3⟩:=sl.ah hk
 obtain ⟨f,g,i⟩:=sm.ah hk
 obtain ⟨_,_,_,_,_,_,_,_,_,rfl,j,n,o⟩:=hl
 obtain ⟨_,_,_,_,_,_,_,_,_,rfl,b1,b2,b3⟩:=hm
 refine CT _ _ _ _ _ _ _ _ _ _ _ _ _ _ _ _ _ _ _ _ _ _ _ _ V _ fun p a=>(kz _ _ (j.le a) (b1.le a) d1 f).mono ?_
 rintro r V2 b rfl
 unfold FY
 refine ⟨_,rfl,fun h q s=>?_,fun h t c=>(kz _ _ (n.le (a.trans (b.trans c))) (b2.le (a.trans (b.trans c))) d2 g).mono ?_⟩
 ·rw [bne_iff_ne] at h
  rw [if_pos h]
 ·rw [bne_eq_false_iff_eq] at h
  rw [if_neg (by rw [h];decide)]
  rintro r u d rfl
  refine ⟨_,rfl,fun h x y=>?_,fun h z e=>(kz _ _ (o.le (a.trans (b.trans (c.trans (d.trans e))))) (b3.le (a.trans (b.trans (c.trans (d.trans e))))) d3 i).mono ?_⟩
  ·rw [bne_iff_ne] at h
   rw [if_pos h]
  ·rw [bne_eq_false_iff_eq] at h
   rw [if_neg (by rw [h];decide)]
   rintro r A B rfl
   exact ⟨_,rfl,fun C D=>rfl⟩
theorem DF {l m:L3}:(FY l m==(0:Int))=decide (l=m):=by
 by_cases h:l=m
 ·rw [decide_eq_true h,beq_iff_eq];exact HA.2 h
 ·rw [decide_eq_false h,beq_eq_false_iff_ne];exact fun e=>h (HA.1 e)
def On (u:Value):Prop:=u=.agg #[.bool false,.slice none 0 0,.slice none 0 0,.bool false,.slice none 0 0,.slice none 0 0]
theorem LG {V:View}{v w:Value}{l m:L3}(hl:RL V v l.1 l.2.1 l.2.2)(hm:RL V w m.1 m.2.1 m.2.2){k:Nat}(sl:kN k l)(sm:kN k m)(hk:20*k+20<274877906944) :
  ab prog 91 #[v,w] V fun r V'=>∃u,r=.tuple #[u,.bool (decide (aP l m≠0))]/\(aP l m=0->On u)/\(aP l m≠0->RP V' u (Ed l m) (Ee l m)):=by
 have e0:((l.1:Int):Rat)*((m.2.1:Int):Rat)-((m.1:Int):Rat)*((l.2.1:Int):Rat)=aP l m:=by unfold aP;grind
 have e1:((l.2.1:Int):Rat)*((m.2.2:Int):Rat)-((m.2.1:Int):Rat)*((l.2.2:Int):Rat)=((l.2.1:Rat)*(m.2.2:Rat))-((l.2.2:Rat)*(m.2.1:Rat)):=by grind
 have e2:((m.1:Int):Rat)*((l.2.2:Int):Rat)-((l.1:Int):Rat)*((m.2.2:Int):Rat)=((l.2.2:Rat)*(m.1:Rat))-((l.1:Rat)*(m.2.2:Rat)):=by grind
 obtain ⟨a,b,c⟩:=sl
 obtain ⟨d,e,f⟩:=sm
 obtain ⟨_,_,_,_,_,_,_,_,_,rfl,a1,a2,a3⟩:=hl
 obtain ⟨_,_,_,_,_,_,_,_,_,rfl,b1,b2,b3⟩:=hm
 refine zP _ _ _ _ _ _ _ _ _ _ _ _ _ _ _ _ _ _ _ _ _ _ _ _ V _ fun V1 t=>(a_ (a1.le t) a (by omega)).mono ?_
 rintro r V2 M Zd
 have VO:=Zd
 obtain ⟨_,_,_,_,_,_,rfl⟩:=Zd.shape
 refine ⟨_,_,_,_,_,_,_,rfl,fun V3 x=>(a_ (b2.le (t.trans (M.trans (x)))) e (by omega)).mono ?_⟩
 rintro r V4 N Ze
 have VQ:=Ze
 obtain ⟨_,_,_,_,_,_,rfl⟩:=Ze.shape
 refine ⟨_,_,_,_,_,_,_,rfl,fun V5 y=>(aN (VO.le (x.trans (N.trans (y)))) (VQ.le y) a e (by omega)).mono ?_⟩
 rintro r V6 l6 Zf
 have VS:=Zf
 obtain ⟨_,_,_,_,_,_,rfl⟩:=Zf.shape
 refine ⟨_,_,_,_,_,_,_,rfl,fun V7 O=>(a_ (b1.le (t.trans (M.trans (x.trans (N.trans (y.trans (l6.trans (O)))))))) d (by omega)).mono ?_⟩
 rintro r V8 l8 Zg
 have VT:=Zg
 obtain ⟨_,_,_,_,_,_,rfl⟩:=Zg.shape
 refine ⟨_,_,_,_,_,_,_,rfl,fun V9 P=>(a_ (a2.le (t.trans (M.trans (x.trans (N.trans (y.trans (l6.trans (O.trans (l8.trans (P)))))))))) b (by omega)).mono ?_⟩
 rintro r iI i Zh
 have VU:=Zh
 obtain ⟨_,_,_,_,_,_,rfl⟩:=Zh.shape
 refine ⟨_,_,_,_,_,_,_,rfl,fun ie Q=>(aN (VT.le (P.trans (i.trans (Q)))) (VU.le Q) d b (by omega)).mono ?_⟩
 rintro r lL bY Zi
 have VV:=Zi
 obtain ⟨_,_,_,_,_,_,rfl⟩:=Zi.shape
 refine ⟨_,_,_,_,_,_,_,rfl,fun o_ cg=>(hJ (VS.le (O.trans (l8.trans (P.trans (i.trans (Q.trans (bY.trans (cg)))))))) (VV.le cg) (a.mul e) (d.mul b) (by omega)).mono ?_⟩
 rintro r mJ c_ VW
 rw [e0] at VW
 have g:=VW
 obtain ⟨_,_,_,_,_,_,rfl,VX,-⟩:=VW
 have sD:Sz (4*k+3) (((l.1:Int):Rat)*((m.2.1:Int):Rat)-((m.1:Int):Rat)*((l.2.1:Int):Rat)):=Sz.mono ((a.mul e).sub (d.mul b)) (by omega)
 rw [e0] at sD
 refine ⟨_,_,_,_,_,_,_,rfl,fun lN dp=>(uK _ (VX.le dp)).mono ?_⟩
 rintro r kr cV rfl
 refine ⟨_,rfl,fun j mZ cQ=>?_,fun j=>?_⟩
 ·rw [beq_iff_eq,qR] at j
  rw [j]
  exact ⟨_,rfl,fun _=>rfl,fun h=>absurd rfl h⟩
 ·rw [beq_eq_false_iff_ne,ne_eq,qR] at j
  rw [decide_eq_true j]
  have z:¬(aP l m).num=0:=fun h=>j (Rat.num_eq_zero.1 h)
  intro mZ cQ
  have A:V.Le mZ:=(t.trans (M.trans (x.trans (N.trans (y.trans (l6.trans (O.trans (l8.trans (P.trans (i.trans (Q.trans (bY.trans (cg.trans (c_.trans (dp.trans (cV.trans (cQ)))))))))))))))))
  replace g:=g.le (dp.trans (cV.trans (cQ)))
  refine (a_ (a2.le A) b (by omega)).mono ?_
  rintro r pe B Zl
  have Wa:=Zl
  obtain ⟨_,_,_,_,_,_,rfl⟩:=Zl.shape
  refine ⟨_,_,_,_,_,_,_,rfl,fun tj n=>(a_ (b3.le (A.trans (B.trans (n)))) f (by omega)).mono ?_⟩
  rintro r yF C Zm
  have Wb:=Zm
  obtain ⟨_,_,_,_,_,_,rfl⟩:=Zm.shape
  refine ⟨_,_,_,_,_,_,_,rfl,fun uJ o=>(aN (Wa.le (n.trans (C.trans (o)))) (Wb.le o) b f (by omega)).mono ?_⟩
  rintro r tm R Zn
  have Wc:=Zn
  obtain ⟨_,_,_,_,_,_,rfl⟩:=Zn.shape
  refine ⟨_,_,_,_,_,_,_,rfl,fun yx D=>(a_ (b2.le (A.trans (B.trans (n.trans (C.trans (o.trans (R.trans (D)))))))) e (by omega)).mono ?_⟩
  rintro r Ik S Zo
  have We:=Zo
  obtain ⟨_,_,_,_,_,_,rfl⟩:=Zo.shape
  refine ⟨_,_,_,_,_,_,_,rfl,fun Hq E=>(a_ (a3.le (A.trans (B.trans (n.trans (C.trans (o.trans (R.trans (D.trans (S.trans (E)))))))))) c (by omega)).mono ?_⟩
  rintro r JB T Zp
  have Wf:=Zp
  obtain ⟨_,_,_,_,_,_,rfl⟩:=Zp.shape
  refine ⟨_,_,_,_,_,_,_,rfl,fun MI F=>(aN (We.le (E.trans (T.trans (F)))) (Wf.le F) e c (by omega)).mono ?_⟩
  rintro r MJ uQ Zq
  have Wg:=Zq
  obtain ⟨_,_,_,_,_,_,rfl⟩:=Zq.shape
  refine ⟨_,_,_,_,_,_,_,rfl,fun Q2 U=>(hJ (Wc.le (D.trans (S.trans (E.trans (T.trans (F.trans (uQ.trans (U)))))))) (Wg.le U) (b.mul f) (e.mul c) (by omega)).mono ?_⟩
  rintro r Mv AX Wh
  rw [e1] at Wh
  have PK:=Wh
  obtain ⟨_,_,_,_,_,_,rfl⟩:=Wh.shape
  have sX:Sz (4*k+3) (((l.2.1:Rat)*(m.2.2:Rat))-((l.2.2:Rat)*(m.2.1:Rat))):=by rw [←e1];exact Sz.mono ((b.mul f).sub (e.mul c)) (by omega)
  have W:V.Le Mv:=(A.trans (B.trans (n.trans (C.trans (o.trans (R.trans (D.trans (S.trans (E.trans (T.trans (F.trans (uQ.trans (U.trans (AX))))))))))))))
  replace g:=g.le (B.trans (n.trans (C.trans (o.trans (R.trans (D.trans (S.trans (E.trans (T.trans (F.trans (uQ.trans (U.trans (AX)))))))))))))
  refine ⟨_,_,_,_,_,_,_,rfl,fun Rn p=>(a_ (b1.le (W.trans p)) d (by omega)).mono ?_⟩
  rintro r UY G Zr
  have Wi:=Zr
  obtain ⟨_,_,_,_,_,_,rfl⟩:=Zr.shape
  refine ⟨_,_,_,_,_,_,_,rfl,fun Uh q=>(a_ (a3.le (W.trans (p.trans (G.trans (q))))) c (by omega)).mono ?_⟩
  rintro r YA H Zs
  have Wj:=Zs
  obtain ⟨_,_,_,_,_,_,rfl⟩:=Zs.shape
  refine ⟨_,_,_,_,_,_,_,rfl,fun a5 s=>(aN (Wi.le (q.trans (H.trans (s)))) (Wj.le s) d c (by omega)).mono ?_⟩
  rintro r a6 X Zt
  have Wk:=Zt
  obtain ⟨_,_,_,_,_,_,rfl⟩:=Zt.shape
  refine ⟨_,_,_,_,_,_,_,rfl,fun a7 I=>(a_ (a1.le (W.trans (p.trans (G.trans (q.trans (H.trans (s.trans (X.trans (I))))))))) a (by omega)).mono ?_⟩
  rintro r a8 Y Zu
  have Wl:=Zu
  obtain ⟨_,_,_,_,_,_,rfl⟩:=Zu.shape
  refine ⟨_,_,_,_,_,_,_,rfl,fun a9 J=>(a_ (b3.le (W.trans (p.trans (G.trans (q.trans (H.trans (s.trans (X.trans (I.trans (Y.trans (J))))))))))) f (by omega)).mono ?_⟩
  rintro r b5 Z Zv
  have Wm:=Zv
  obtain ⟨_,_,_,_,_,_,rfl⟩:=Zv.shape
  refine ⟨_,_,_,_,_,_,_,rfl,fun b6 K=>(aN (Wl.le (J.trans (Z.trans (K)))) (Wm.le K) a f (by omega)).mono ?_⟩
  rintro r b7 SW Zw
  have Wn:=Zw
  obtain ⟨_,_,_,_,_,_,rfl⟩:=Zw.shape
  refine ⟨_,_,_,_,_,_,_,rfl,fun b8 Uu=>(hJ (Wk.le (I.trans (Y.trans (J.trans (Z.trans (K.trans (SW.trans (Uu)))))))) (Wn.le Uu) (d.mul c) (a.mul f) (by omega)).mono ?_⟩
  rintro r b9 SX Wo
  rw [e2] at Wo
  have Wp:=Wo
  obtain ⟨_,_,_,_,_,_,rfl⟩:=Wo.shape
  have sY:Sz (4*k+3) (((l.2.2:Rat)*(m.1:Rat))-((l.1:Rat)*(m.2.2:Rat))):=by rw [←e2];exact Sz.mono ((d.mul c).sub (a.mul f)) (by omega)
  replace g:=g.le (p.trans (G.trans (q.trans (H.trans (s.trans (X.trans (I.trans (Y.trans (J.trans (Z.trans (K.trans (SW.trans (Uu.trans (SX))))))))))))))
  replace PK:=PK.le (p.trans (G.trans (q.trans (H.trans (s.trans (X.trans (I.trans (Y.trans (J.trans (Z.trans (K.trans (SW.trans (Uu.trans (SX))))))))))))))
  refine ⟨_,_,_,_,_,_,_,rfl,fun c0 OP=>(hE (PK.le OP) (g.le OP) z sX sD (by omega)).mono ?_⟩
  rintro r UZ L gr
  have Uo:=gr
  obtain ⟨_,_,_,_,_,_,rfl⟩:=gr.shape
  refine ⟨_,_,_,_,_,_,_,rfl,fun U0 OQ=>(hE (Wp.le (OP.trans (L.trans (OQ)))) (g.le (OP.trans (L.trans (OQ)))) z sY sD (by omega)).mono ?_⟩
  rintro r Ui KT gs
  have a4:=gs
  obtain ⟨_,_,_,_,_,_,rfl⟩:=gs.shape
  exact ⟨_,_,_,_,_,_,_,rfl,fun YB ZW=>⟨_,rfl,fun h=>absurd h j,fun _=>⟨_,_,_,_,_,_,_,_,_,_,_,_,rfl,Uo.le (OQ.trans (KT.trans (ZW))),a4.le ZW⟩⟩⟩
def PC:L3:=(0,0,0)
def Bq (V:View)(v:Value)(c:L3):Prop:=yD V v c.1 c.2.1 c.2.2/\Bd c
theorem Bq.le {V V':View}{v:Value}{c:L3}(h:Bq V v c)(l:V.Le V'):Bq V' v c:=⟨h.1.le l,h.2⟩
theorem Bq.shape {V:View}{v:Value}{c:L3}(h:Bq V v c):∃(x y:Int)(p:OA)(xb yb:Int)(pb:OA)(xc yc:Int)(pc:OA),v=.agg #[.int .i64 x,.int .i64 y,.pointer p,.int .i64 xb,.int .i64 yb,.pointer pb,.int .i64 xc,.int .i64 yc,.pointer pc]:=by
 obtain ⟨⟨a,b,p,d,f,q,g,i,r,e,-⟩,-⟩:=h;exact ⟨_,_,_,_,_,_,_,_,_,e⟩
end Go.Proofs.Tryz
namespace Go.Proofs.Tryz
open Go.fR
section
variable {α:Type} {c:α->α->Int} {d:α}
structure PQ (c:α->α->Int) (d:α) (l0 l:List α) (a0 b0 a b:Nat):Prop where
 UB:th d l0 l a0 b0
 ha:a0<=a
 yZ:a<=b
 hb:b<=b0
 lo:yC c d l a0 a
 hi:yC c d l b b0
 s1:Sep c d l a0 a b0
 s2:Sep c d l a0 b b0
 pre:0<a->∀k,a<=k->k<b->¬c (l.getD k d) (l.getD (a-1) d)<0
variable {l0 l m:List α} {a0 b0 a b mid:Nat}
theorem PQ.start {l:List α}(h:a<=b)(hp:0<a->∀k,a<=k->k<b->¬c (l.getD k d) (l.getD (a-1) d)<0):PQ c d l l a b a b:=
 ⟨.refl _ _ _,Nat.le_refl _,h,Nat.le_refl _,.short (by omega),.short (by omega),fun p q e f=>by omega,fun p q e f g i=>by omega,hp⟩
theorem PQ.change (h:PQ c d l0 l a0 b0 a b)(hs:th d l m a b):PQ c d l0 m a0 b0 a b:=
 ⟨h.UB.trans (hs.wide h.ha h.hb),h.ha,h.yZ,h.hb,hs.rM h.lo (.inl (Nat.le_refl _)),hs.rM h.hi (.inr (Nat.le_refl _)),hs.sep h.s1 (.inr (.inl ⟨Nat.le_refl _,h.hb⟩)),hs.sep h.s2 (.inl ⟨h.ha,Nat.le_refl _⟩),fun f k g i=>by
  obtain ⟨j,n,o,e⟩:=hs.mem k g i
  rw [e,hs.out (a-1) (by omega)]
  exact h.pre f j n o⟩
theorem PQ.fin (h:PQ c d l0 l a0 b0 a b)(hs:th d l m a b)(ha:yC c d m a b):th d l0 m a0 b0/\yC c d m a0 b0:=by
 have e:=h.change hs
 refine ⟨e.UB,e.lo.join (ha.join e.hi fun p q j f g i=>e.s2 p q (by have:=h.ha;omega) f g i) e.s1⟩
theorem PQ.left (ho:Ord c)(h:PQ c d l0 l a0 b0 a b)(hm:a<=mid)(hm':mid<b)(h1:∀k,a<=k->k<mid->c (l.getD k d) (l.getD mid d)<0)(h2:∀k,mid<k->k<b->¬c (l.getD k d) (l.getD mid d)<0)
  (hs:th d l m a mid)(ha:yC c d m a mid):PQ c d l0 m a0 b0 (mid+1) b:=by
 have n:=h.ha
 have o:=h.hb
 have em:m.getD mid d=l.getD mid d:=hs.out mid (by omega)
 have below:∀k,a<=k->k<mid->¬c (m.getD mid d) (m.getD k d)<0:=fun k f g=>by
  obtain ⟨r,i,j,e⟩:=hs.mem k f g
  rw [em,e];exact ho.Q4 _ _ (h1 r i j)
 have t1:=hs.sep h.s1 (.inr (.inl ⟨Nat.le_refl _,by omega⟩))
 have t2:=hs.sep h.s2 (.inl ⟨n,by omega⟩)
 have up:∀q,mid<q->q<b->¬c (m.getD q d) (m.getD mid d)<0:=fun q f g=>by rw [em,hs.out q (by omega)];exact h2 q f g
 refine ⟨h.UB.trans (hs.wide n (by omega)),by omega,by omega,o,(hs.rM h.lo (.inl (Nat.le_refl _))).join (m:=a) (fun p q f g i=>?_) fun p q f g i j=>t1 p q f g i (by omega),hs.rM h.hi (.inr (by omega)),fun p q f g i j=>?_,t2,fun _ k f g=>up k (by omega) g⟩
 ·by_cases e:q=mid
  ·subst e;exact below p f g
  ·exact ha p q f g (by omega)
 ·by_cases s:b<=q
  ·exact t2 p q f (by omega) s j
  ·by_cases t:p<a
   ·exact t1 p q f t (by omega) j
   ·have u:=up q (by omega) (by omega)
    by_cases e:p=mid
    ·subst e;exact u
    ·exact ho.tr _ _ _ u (below p (by omega) (by omega))
theorem PQ.right (ho:Ord c)(h:PQ c d l0 l a0 b0 a b)(hm:a<=mid)(hm':mid<b)(h1:∀k,a<=k->k<mid->c (l.getD k d) (l.getD mid d)<0)(h2:∀k,mid<k->k<b->¬c (l.getD k d) (l.getD mid d)<0)
  (hs:th d l m (mid+1) b)(ha:yC c d m (mid+1) b):PQ c d l0 m a0 b0 a mid:=by
 have s:=h.ha
 have r:=h.hb
 have em:m.getD mid d=l.getD mid d:=hs.out mid (by omega)
 have up:∀q,mid<q->q<b->¬c (m.getD q d) (m.getD mid d)<0:=fun q g f=>by
  obtain ⟨t,i,j,e⟩:=hs.mem q (by omega) f
  rw [em,e];exact h2 t (by omega) j
 have below:∀k,a<=k->k<mid->¬c (m.getD mid d) (m.getD k d)<0:=fun k g f=>by
  rw [em,hs.out k (by omega)];exact ho.Q4 _ _ (h1 k g f)
 have t1:=hs.sep h.s1 (.inr (.inl ⟨by omega,r⟩))
 have t2:=hs.sep h.s2 (.inl ⟨by omega,Nat.le_refl _⟩)
 have t3:=hs.rM h.hi (.inr (Nat.le_refl _))
 refine ⟨h.UB.trans (hs.wide (by omega) r),s,hm,by omega,hs.rM h.lo (.inl (by omega)),fun p q g f i=>?_,t1,fun p q g f i j=>?_,fun v k g f=>?_⟩
 ·by_cases n:q<b
  ·by_cases e:p=mid
   ·subst e;exact up q f n
   ·exact ha p q (by omega) f n
  ·by_cases o:p<b
   ·exact t2 p q (by omega) o (by omega) i
   ·exact t3 p q (by omega) f i
 ·by_cases n:b<=q
  ·exact t2 p q g (by omega) n j
  ·by_cases o:p<a
   ·exact t1 p q g o (by omega) j
   ·have u:=below p (by omega) f
    by_cases e:q=mid
    ·subst e;exact u
    ·exact ho.tr _ _ _ (up q (by omega) (by omega)) u
 ·rw [hs.out k (by omega),hs.out (a-1) (by omega)];exact h.pre v k g (by omega)
structure HQ (c:α->α->Int) (d:α) (l:List α) (f i n:Nat):Prop where
 hp:Hp c d l f 0 i none
 rM:yC c d l (f+i) (f+n)
 sep:Sep c d l f (f+i) (f+n)
theorem HQ.start {f n:Nat}(h:Hp c d l f 0 n none):HQ c d l f n n:=⟨h,.short (by omega),fun p q a b e g=>by omega⟩
theorem HQ.step (ho:Ord c){f k n:Nat}(h:HQ c d l f (k+1) n)(hk:k+1<=n)(hl:f+n<=l.length)(hs:th d (tO d l f (f+k)) m f (f+k))(hm:Hp c d m f 0 k none):HQ c d m f k n:=by
 have a:=fun x=>pE (d:=d) (l:=l) (i:=f) (j:=f+k) (k:=x) (by omega) (by omega)
 have out:∀q,f+k<q->m.getD q d=l.getD q d:=fun q u=>by rw [hs.out q (by omega),a,if_neg (by omega),if_neg (by omega)]
 have top:m.getD (f+k) d=l.getD f d:=by rw [hs.out (f+k) (by omega),a,if_pos rfl]
 refine ⟨hm,fun p q r b g=>?_,fun p q r b g s=>?_⟩
 ·rw [out q (by omega)]
  by_cases e:p=f+k
  ·rw [e,top];exact h.sep f q (Nat.le_refl _) (by omega) (by omega) g
  ·rw [out p (by omega)];exact h.rM p q (by omega) b g
 ·have hp:∃j,j<k+1/\m.getD p d=l.getD (f+j) d:=by
   obtain ⟨o,v,w,e⟩:=hs.mem p r b
   rw [e,a,if_neg (by omega)]
   split
   ·exact ⟨k,by omega,rfl⟩
   ·exact ⟨o-f,by omega,by rw [show f+(o-f)=o by omega]⟩
  obtain ⟨j,t,e⟩:=hp
  rw [e]
  by_cases eq:q=f+k
  ·rw [eq,top];exact h.hp.top ho j t
  ·rw [out q (by omega)];exact h.sep (f+j) q (by omega) (by omega) (by omega) s
theorem HQ.fin {f n:Nat}(h:HQ c d l f 0 n):yC c d l f (f+n):=by have:=h.rM;simpa using this
structure PT (P:α->Prop) (d:α) (l:List α) (a b i j:Nat):Prop where
 hi:a<i
 Nh:i<=j+1
 hj:j<b
 lo:∀k,a<k->k<i->P (l.getD k d)
 up:∀k,j<k->k<b->¬P (l.getD k d)
variable {P:α->Prop} {i j:Nat}
theorem PT.start (h:a+1<b):PT P d l a b (a+1) (b-1):=⟨by omega,by omega,by omega,fun k c e=>by omega,fun k c e=>by omega⟩
theorem PT.swap (h:PT P d l a b i j)(Nh:i<=j)(hl:b<=l.length)(h1:¬P (l.getD i d))(h2:P (l.getD j d)):PT P d (tO d l i j) a b (i+1) (j-1)/\(tO d l i j).getD a d=l.getD a d/\th d l (tO d l i j) a b:=by
 have n:=h.hi
 have m:=h.hj
 have ne:i≠j:=fun e=>h1 (e▸h2)
 have c:=fun x=>pE (d:=d) (l:=l) (i:=i) (j:=j) (k:=x) (by omega) (by omega)
 refine ⟨⟨by omega,by omega,by omega,fun k f g=>?_,fun k f g=>?_⟩,by rw [c,if_neg (by omega),if_neg (by omega)],th.tO (by omega) (by omega) (by omega) m hl⟩
 ·rw [c,if_neg (by omega)]
  by_cases e:k=i
  ·rw [if_pos e];exact h2
  ·rw [if_neg e];exact h.lo k f (by omega)
 ·rw [c]
  by_cases e:k=j
  ·rw [if_pos e];exact h1
  ·rw [if_neg e,if_neg (by omega)];exact h.up k (by omega) g
theorem PT.fin (ho:Ord c)(h:PT (fun x=>c x (l.getD a d)<0) d l a b i j)(Nh:¬i<=j)(hl:b<=l.length):th d l (tO d l j a) a b/\a<=j/\j<b /\
  (∀k,a<=k->k<j->c ((tO d l j a).getD k d) ((tO d l j a).getD j d)<0)/\(∀k,j<k->k<b->¬c ((tO d l j a).getD k d) ((tO d l j a).getD j d)<0):=by
 have p:=h.hi
 have q:=h.Nh
 have g:=h.hj
 have f:=fun x=>pE (d:=d) (l:=l) (i:=j) (j:=a) (k:=x) (by omega) (by omega)
 have m:(tO d l j a).getD j d=l.getD a d:=by
  rw [f]
  by_cases e:j=a
  ·rw [if_pos e,e]
  ·rw [if_neg e,if_pos rfl]
 refine ⟨th.tO (by omega) g (Nat.le_refl _) (by omega) hl,by omega,g,fun k n o=>?_,fun k n o=>?_⟩
 ·rw [m,f]
  by_cases e:k=a
  ·rw [if_pos e];exact h.lo j (by omega) (by omega)
  ·rw [if_neg e,if_neg (by omega)];exact h.lo k (by omega) (by omega)
 ·rw [m,f,if_neg (by omega),if_neg (by omega)];exact h.up k n o
end
end Go.Proofs.Tryz
namespace Go.Proofs.Tryz
open Go.bM Go.fR
structure Oq (V:View) (n:Nat) (vs:List Value) (l:List L3):Prop where
 row:Row 9 Bq V vs l
 len:n=l.length
 RY:l.length<50
theorem Oq.le {V V':View}{n:Nat}{vs:List Value}{l:List L3}(h:Oq V n vs l)(e:V.Le V'):Oq V' n vs l:=⟨h.row.le fun _ _ g=>Bq.le g e,h.len,h.RY⟩
theorem Oq.get {V:View}{n:Nat}{vs:List Value}{l:List L3}(h:Oq V n vs l){k:Nat}(hk:k<l.length):∃(x y:Int)(p:OA)(xb yb:Int)(pb:OA)(xc yc:Int)(pc:OA),
  ((0+k*9)+9<=vs.length/\(vs.drop (0+k*9)).take 9=[.int .i64 x,.int .i64 y,.pointer p,.int .i64 xb,.int .i64 yb,.pointer pb,.int .i64 xc,.int .i64 yc,.pointer pc])/\Bq V (.agg #[.int .i64 x,.int .i64 y,.pointer p,.int .i64 xb,.int .i64 yb,.pointer pb,.int .i64 xc,.int .i64 yc,.pointer pc]) (l.getD k PC):=by
 obtain ⟨xs,-,b,c,f⟩:=h.row.get (d:=PC) hk (by decide)
 have a:=b
 obtain ⟨x,y,p,xb,yb,pb,xc,yc,pc,e⟩:=b.shape
 have e:=congrArg Array.toList (Value.agg.inj e)
 dsimp only at e
 subst e
 rw [Nat.zero_add]
 exact ⟨x,y,p,xb,yb,pb,xc,yc,pc,⟨c,f⟩,a⟩
theorem Oq.swap {V:View}{n:Nat}{vs:List Value}{l:List L3}(h:Oq V n vs l){i j:Nat}(hi:i<l.length)(hj:j<l.length){x y:Int}{p:OA}{xb yb:Int}{pb:OA}{xc yc:Int}{pc:OA}{x' y':Int}{p':OA}{QS QT:Int}{pb':OA}{T8 Yt:Int}{pc':OA}
  (h1:Bq V (.agg #[.int .i64 x,.int .i64 y,.pointer p,.int .i64 xb,.int .i64 yb,.pointer pb,.int .i64 xc,.int .i64 yc,.pointer pc]) (l.getD i PC))(h2:Bq V (.agg #[.int .i64 x',.int .i64 y',.pointer p',.int .i64 QS,.int .i64 QT,.pointer pb',.int .i64 T8,.int .i64 Yt,.pointer pc']) (l.getD j PC)) :
  (0+i*9)+9<=vs.length/\(0+j*9)+9<=(cR vs (0+i*9) [.int .i64 x',.int .i64 y',.pointer p',.int .i64 QS,.int .i64 QT,.pointer pb',.int .i64 T8,.int .i64 Yt,.pointer pc']).length /\
  Oq V n (cR (cR vs (0+i*9) [.int .i64 x',.int .i64 y',.pointer p',.int .i64 QS,.int .i64 QT,.pointer pb',.int .i64 T8,.int .i64 Yt,.pointer pc']) (0+j*9) [.int .i64 x,.int .i64 y,.pointer p,.int .i64 xb,.int .i64 yb,.pointer pb,.int .i64 xc,.int .i64 yc,.pointer pc]) (tO PC l i j):=by
 obtain ⟨-,-,-,a,-⟩:=h.row.get (d:=PC) hi (by decide)
 obtain ⟨-,-,-,b,-⟩:=h.row.get (d:=PC) hj (by decide)
 rw [Nat.zero_add,Nat.zero_add]
 refine ⟨a,by rw [nM (by exact a)];exact b,h.row.swap hi hj (by decide) rfl rfl h1 h2,by rw [qT];exact h.len,by rw [qT];exact h.RY⟩
structure GR {α:Type} (sz:Nat) (R:View->Value->α->Prop) (V:View) (n c:Nat) (vs:List Value) (l:List α):Prop where
 len:n=l.length
 le:n<=c
 cap:c*sz<=vs.length
 row:Row sz R V vs l
theorem GR.nil {α:Type}{sz:Nat}{R:View->Value->α->Prop}{V:View}:GR sz R V 0 0 [] []:=⟨rfl,Nat.le_refl _,by simp,Row.nil⟩
theorem GR.mono {α:Type}{sz:Nat}{R:View->Value->α->Prop}{V V':View}{n c:Nat}{vs:List Value}{l:List α}(h:GR sz R V n c vs l)(m:∀v a,R V v a->R V' v a):GR sz R V' n c vs l:=⟨h.len,h.le,h.cap,h.row.le m⟩
theorem GR.snoc {α:Type}{sz:Nat}{R:View->Value->α->Prop}{V:View}{n c:Nat}{vs:List Value}{l:List α}(h:GR sz R V n c vs l){xs:List Value}{a:α}(hx:xs.length=sz)(ha:R V (.agg xs.toArray) a)(h0:0<sz){sp:List Value}{c':Nat}(h1:n+1<=c')(h2:c'*sz<=(n+1)*sz+sp.length) :
  GR sz R V (n+1) c' (vs.take (n*sz)++xs++sp) (l++[a]):=by
 have b:=h.len
 have e:=h.cap
 have f:n*sz<=c*sz:=Nat.mul_le_mul_right _ h.le
 refine ⟨by rw [List.length_append,b];rfl,h1,?_,?_⟩
 ·have d:(vs.take (n*sz)).length=n*sz:=by rw [List.length_take];omega
  rw [List.length_append,List.length_append,d,hx]
  rw [Nat.succ_mul] at h2
  exact h2
 ·have:=h.row.snoc (sp:=sp) hx ha h0
  rw [←b] at this
  exact this
def mV (l:L3):L3:=if l.1<0\/l.1=0/\l.2.1<0 then jJ l else l
def Tr.Ux:Tr->List L3
 | .leaf _=>[]
 | .node l a b=>l::(a.Ux++b.Ux)
theorem Cd {p:L3->Prop}:∀{t:Tr},t.Mr p->∀x∈t.Ux,p x
 | .leaf _,_,x,h=>by cases h
 | .node l a b,⟨h1,h2,h3⟩,x,h=>by
  rcases List.mem_cons.1 h with rfl|h
  ·exact h1
  ·rcases List.mem_append.1 h with h|h
   ·exact Cd h2 x h
   ·exact Cd h3 x h
theorem Bd.rev {l:L3}(h:Bd l):Bd (jJ l):=by
 obtain ⟨a,b,c⟩:=h
 unfold Bd jJ
 simp only [Int.natAbs_neg]
 exact ⟨a,b,c⟩
theorem Bd.can {l:L3}(h:Bd l):Bd (mV l):=by
 unfold mV;split
 ·exact h.rev
 ·exact h
theorem Bd.fa {l:L3}(h:Bd l):kN 1000 l:=⟨h.sz.1,h.sz.2.1,h.sz.2.2⟩
end Go.Proofs.Tryz
namespace Go.Proofs.Tryz.ai
open Go.bM Go.fR
def nv (l:L3)(v:V2):Rat:=(l.1:Rat)*v.1+(l.2.1:Rat)*v.2
def au (l:L3):V2:=((l.2.1:Rat),-(l.1:Rat))
theorem HW (l:L3)(v:V2):nv l v=cr (au l) v:=by unfold nv cr au;grind
def QB (l:L3)(p v:V2):Int:=if (ar l p.1 p.2).num.sign=0 then (nv l v).num.sign else (ar l p.1 p.2).num.sign
def ER:Tr->V2->V2->Bool×Bool
 | .leaf i,_,_=>(i,true)
 | .node l a b,p,v=>if QB l p v=1 then ER a p v else if QB l p v=-1 then ER b p v else (false,false)
def lr:Tr->V2->List L3
 | .leaf _,_=>[]
 | .node l a b,p=>(if ar l p.1 p.2=0 then [l] else [])++((if ar l p.1 p.2≥0 then lr a p else [])++(if ar l p.1 p.2<=0 then lr b p else []))
theorem wL:∀{t:Tr} {p:V2} {l:L3},l∈lr t p->ar l p.1 p.2=0/\l∈t.Ux
 | .leaf _,_,_,h=>by cases h
 | .node m a b,p,l,h=>by
  unfold lr at h
  simp only [List.mem_append] at h
  rcases h with h|h|h
  ·split at h
   ·rename_i e;rcases List.mem_singleton.1 h with rfl;exact ⟨e,List.mem_cons_self ..⟩
   ·cases h
  ·split at h
   ·have:=wL h;exact ⟨this.1,List.mem_cons_of_mem _ (List.mem_append_left _ this.2)⟩
   ·cases h
  ·split at h
   ·have:=wL h;exact ⟨this.1,List.mem_cons_of_mem _ (List.mem_append_right _ this.2)⟩
   ·cases h
theorem xh {q:Rat}:q.num.sign=-1↔q<0:=by
 rw [Int.sign_eq_neg_one_iff_neg,←Int.not_le,←Rat.not_le,Rat.num_nonneg]
theorem Cw {q:Rat}:q.num.sign=1↔q>0:=by
 have h:=@xh (-q)
 rw [Rat.neg_num,Int.sign_neg] at h
 constructor
 ·intro e;have:=h.1 (by rw [e]);grind
 ·intro e;have:=h.2 (by grind);omega
theorem fN {q:Rat}:q.num.sign=0↔q=0:=by rw [Int.sign_eq_zero_iff_zero,Rat.num_eq_zero]
theorem xA:∀{t:Tr} {p v x:V2},(∀l∈lr t p,nv l v≠0)->(∀l∈lr t p,(nv l v>0->nv l x>0)/\(nv l v<0->nv l x<0)) ->
  ER t p x=ER t p v/\(ER t p v).2=true
 | .leaf _,_,_,_,_,_=>⟨rfl,rfl⟩
 | .node l a b,p,v,x,h0,h1=>by
  have ha:ar l p.1 p.2≥0->ER a p x=ER a p v/\(ER a p v).2=true:=fun e=>by
   have sub:∀m∈lr a p,m∈lr (.node l a b) p:=fun m hm=>by
    unfold lr
    rw [if_pos e]
    exact List.mem_append_right _ (List.mem_append_left _ hm)
   exact xA (fun m hm=>h0 m (sub m hm)) (fun m hm=>h1 m (sub m hm))
  have f:ar l p.1 p.2<=0->ER b p x=ER b p v/\(ER b p v).2=true:=fun e=>by
   have sub:∀m∈lr b p,m∈lr (.node l a b) p:=fun m hm=>by
    unfold lr
    rw [if_pos e]
    exact List.mem_append_right _ (List.mem_append_right _ hm)
   exact xA (fun m hm=>h0 m (sub m hm)) (fun m hm=>h1 m (sub m hm))
  have i:ar l p.1 p.2=0->l∈lr (.node l a b) p:=fun e=>by
   unfold lr
   rw [if_pos e]
   exact List.mem_append_left _ (List.mem_singleton.2 rfl)
  have key:QB l p x=QB l p v/\(QB l p v=1/\ar l p.1 p.2≥0\/QB l p v=-1/\ar l p.1 p.2<=0):=by
   unfold QB
   by_cases e:ar l p.1 p.2=0
   ·have hm:=i e
    rw [if_pos (fN.2 e),if_pos (fN.2 e)]
    obtain ⟨j,k⟩:=h1 l hm
    have r:=h0 l hm
    by_cases q:nv l v>0
    ·rw [Cw.2 q,Cw.2 (j q)];exact ⟨rfl,.inl ⟨rfl,by grind⟩⟩
    ·have c:nv l v<0:=by grind
     rw [xh.2 c,xh.2 (k c)];exact ⟨rfl,.inr ⟨rfl,by grind⟩⟩
   ·have d:¬(ar l p.1 p.2).num.sign=0:=fun h=>e (fN.1 h)
    rw [if_neg d,if_neg d]
    refine ⟨rfl,?_⟩
    by_cases q:ar l p.1 p.2>0
    ·exact .inl ⟨Cw.2 q,by grind⟩
    ·exact .inr ⟨xh.2 (by grind),by grind⟩
  obtain ⟨n,o⟩:=key
  simp only [ER,n]
  rcases o with ⟨e,g⟩|⟨e,g⟩
  ·rw [e,if_pos rfl,if_pos rfl];exact ha g
  ·rw [e,if_neg (by decide),if_pos rfl,if_neg (by decide),if_pos rfl];exact f g
def QX (D:List V2)(M:List L3):Prop:=∀l∈M,∃r∈D,∃c:Rat,c>0/\r=(c*(au l).1,c*(au l).2)
theorem F0 {l:L3}{r:V2}{c:Rat}(c0:c>0)(e:r=(c*(au l).1,c*(au l).2))(v:V2):cr r v=c*nv l v:=by
 rw [HW,e];unfold cr;grind
theorem HT {c x:Rat}(c0:c>0):(c*x>0↔x>0)/\(c*x<0↔x<0)/\(c*x=0↔x=0):=by
 have p:x>0->c*x>0:=fun h=>mp c0 h
 have n:x<0->c*x<0:=fun h=>by have:=mp c0 (show -x>0 by grind);grind
 have z:x=0->c*x=0:=fun h=>by rw [h];grind
 refine ⟨⟨fun h=>?_,p⟩,⟨fun h=>?_,n⟩,⟨fun h=>?_,z⟩⟩
 ·by_cases q:x>0
  ·exact q
  ·by_cases a:x<0
   ·have:=n a;grind
   ·have:=z (by grind);grind
 ·by_cases q:x<0
  ·exact q
  ·by_cases a:x>0
   ·have:=p a;grind
   ·have:=z (by grind);grind
 ·rcases Rat.mul_eq_zero.1 h with h|h
  ·grind
  ·exact h
theorem QX.gen {D:List V2}{M:List L3}(h:QX D M){v:V2}(hv:∀r∈D,cr r v≠0):∀l∈M,nv l v≠0:=by
 intro l a e
 obtain ⟨r,b,c,d,f⟩:=h l a
 exact hv r b (by rw [F0 d f,e];grind)
theorem QX.same {D:List V2}{M:List L3}(h:QX D M){v x:V2}(hv:∀r∈D,(cr r v>0->cr r x>0)/\(cr r v<0->cr r x<0)) :
  ∀l∈M,(nv l v>0->nv l x>0)/\(nv l v<0->nv l x<0):=by
 intro l d
 obtain ⟨r,e,c,a,b⟩:=h l d
 have:=hv r e
 rw [F0 a b,F0 a b] at this
 obtain ⟨f,g,_⟩:=@HT c (nv l v) a
 obtain ⟨b1,b2,_⟩:=@HT c (nv l x) a
 exact ⟨fun h=>b1.1 (this.1 (f.2 h)),fun h=>b2.1 (this.2 (g.2 h))⟩
def anyS (t:Tr)(p:V2)(S:List V2):Bool:=S.any fun v=>(ER t p v).1
def MK (t:Tr)(p:V2)(S:List V2):Bool:=S.all fun v=>(ER t p v).1
theorem fP (l:L3)(p v:V2)(s:Rat):ar l (p.1+s*v.1) (p.2+s*v.2)=ar l p.1 p.2+s*nv l v:=by unfold ar nv;grind
def Cg (p v:V2)(s:Rat)(l:L3):Rat:=
 if nv l v=0\/ar l p.1 p.2=0 then s
 else if -(ar l p.1 p.2*(nv l v)⁻¹)>0/\-(ar l p.1 p.2*(nv l v)⁻¹)*(1 / 2)<s then -(ar l p.1 p.2*(nv l v)⁻¹)*(1 / 2) else s
theorem inv_mul {c:Rat}(h:c≠0)(a:Rat):a*c⁻¹*c=a:=by rw [Rat.mul_assoc,Rat.inv_mul_cancel _ h,Rat.mul_one]
def half (u:V2):Int:=if u.2.num.sign>0\/u.2.num.sign=0/\u.1.num.sign>0 then 1 else if u.2.num.sign<0\/u.1.num.sign<0 then 2 else 0
def cS (u v:V2):Int:=if half u<half v then -1 else if half u>half v then 1 else -(cr u v).num.sign
theorem mP {q:Rat}:q.num.sign>0↔q>0:=by
 have:=Rat.num_nonneg (q:=-q)
 rw [Rat.neg_num] at this
 rw [gt_iff_lt,Int.sign_pos_iff]
 have a:(0<=-q)↔¬q>0:=by constructor<;>intro h<;>grind
 rw [a] at this
 by_cases h:q>0
 ·exact ⟨fun _=>h,fun _=>by
   have:¬0<=-q.num:=fun g=>this.1 g h
   omega⟩
 ·exact ⟨fun g=>by have:=this.2 h;omega,fun g=>absurd g h⟩
theorem xg {q:Rat}:q.num.sign<0↔q<0:=by
 have:=@mP (-q)
 rw [Rat.neg_num,Int.sign_neg] at this
 constructor
 ·intro h;have:=this.1 (by omega);grind
 ·intro h;have:=this.2 (by grind);omega
theorem cx (u:V2):half u=1/\up u\/half u=2/\dn u\/half u=0/\u.1=0/\u.2=0:=by
 unfold half up dn
 split
 ·rename_i h;rw [mP,mP,fN] at h;exact .inl ⟨rfl,h⟩
 ·rename_i h
  rw [mP,mP,fN] at h
  split
  ·rename_i a;rw [xg,xg] at a;exact .inr (.inl ⟨rfl,by grind⟩)
  ·rename_i a;rw [xg,xg] at a;exact .inr (.inr ⟨rfl,by grind,by grind⟩)
theorem pf {u v:V2}:cS u v<0↔half u<half v\/half u=half v/\cr u v>0:=by
 have:=@mP (cr u v)
 unfold cS
 by_cases a:half u<half v
 ·simp [a]
 ·by_cases b:half u>half v
  ·rw [if_neg a,if_pos b];omega
  ·rw [if_neg a,if_neg b];constructor
   ·intro h;exact .inr ⟨by omega,this.1 (by omega)⟩
   ·rintro (h|⟨h,c⟩)
    ·omega
    ·have:=this.2 c;omega
theorem kQ {u v:V2}:cS u v=0↔half u=half v/\cr u v=0:=by
 have:=@fN (cr u v)
 unfold cS
 by_cases a:half u<half v
 ·rw [if_pos a];constructor
  ·intro h;omega
  ·rintro ⟨h,_⟩;omega
 ·by_cases b:half u>half v
  ·rw [if_neg a,if_pos b];constructor
   ·intro h;omega
   ·rintro ⟨h,_⟩;omega
  ·rw [if_neg a,if_neg b];constructor
   ·intro h;exact ⟨by omega,this.1 (by omega)⟩
   ·rintro ⟨_,h⟩;have:=this.2 h;omega
theorem vi (u v:V2):cS u v<0\/cS u v=0\/cS v u<0:=by
 rw [pf,kQ,pf]
 have:=iq u v
 rcases Int.lt_trichotomy (half u) (half v) with h|h|h
 ·exact .inl (.inl h)
 ·by_cases p:cr u v>0
  ·exact .inl (.inr ⟨h,p⟩)
  ·by_cases q:cr u v=0
   ·exact .inr (.inl ⟨h,q⟩)
   ·exact .inr (.inr (.inr ⟨h.symm,by grind⟩))
 ·exact .inr (.inr (.inl h))
theorem pY (u v:V2)(h:cS u v<0):¬cS v u<0:=by
 rw [pf] at *
 have:=iq u v
 rintro (a|⟨a,b⟩)<;>rcases h with h|⟨h,g⟩
 ·omega
 ·omega
 ·omega
 ·grind
theorem MX {a b d:V2}(yZ:half a=half b)(hbd:half b=half d)(h1:cr a b<=0)(h2:cr b d<=0):cr a d<=0:=by
 by_cases h:cr a d<=0
 ·exact h
 exfalso
 have c:cr a d>0:=by grind
 have o:=Qa a d b
 have p:=Gh a d b
 rcases cx b with ⟨e,i⟩|⟨e,i⟩|⟨e,i⟩
 ·have g:up a:=by rcases cx a with ⟨f,h⟩|⟨f,h⟩|⟨f,h⟩<;>first|exact h|omega
  have j:up d:=by rcases cx d with ⟨f,h⟩|⟨f,h⟩|⟨f,h⟩<;>first|exact h|omega
  unfold up at g i j
  have l:=mn (show -(cr a b)≥0 by grind) (show d.2≥0 by grind)
  have m:=mn (show -(cr b d)≥0 by grind) (show a.2≥0 by grind)
  have n:=mn (show cr a d≥0 by grind) (show b.2≥0 by grind)
  have k:cr a d*b.2=0:=by grind
  have b2:b.2=0:=by rcases Rat.mul_eq_zero.1 k with h|h<;>grind
  have b1:b.1>0:=by grind
  have d2:d.2=0:=by
   by_cases q:d.2>0
   ·have:=mp b1 q;unfold cr at h2;rw [b2] at h2;grind
   ·grind
  have d1:d.1>0:=by grind
  have:=mn (show a.2≥0 by grind) (show d.1≥0 by grind)
  unfold cr at c
  rw [d2] at c
  grind
 ·have g:dn a:=by rcases cx a with ⟨f,h⟩|⟨f,h⟩|⟨f,h⟩<;>first|exact h|omega
  have j:dn d:=by rcases cx d with ⟨f,h⟩|⟨f,h⟩|⟨f,h⟩<;>first|exact h|omega
  unfold dn at g i j
  have l:=mn (show -(cr a b)≥0 by grind) (show -d.2≥0 by grind)
  have m:=mn (show -(cr b d)≥0 by grind) (show -a.2≥0 by grind)
  have n:=mn (show cr a d≥0 by grind) (show -b.2≥0 by grind)
  have k:cr a d*b.2=0:=by grind
  have b2:b.2=0:=by rcases Rat.mul_eq_zero.1 k with h|h<;>grind
  have b1:-b.1>0:=by grind
  have d2:d.2=0:=by
   by_cases q:-d.2>0
   ·have:=mp b1 q;unfold cr at h2;rw [b2] at h2;grind
   ·grind
  have d1:d.1<0:=by grind
  have:=mn (show -a.2≥0 by grind) (show -d.1≥0 by grind)
  unfold cr at c
  rw [d2] at c
  grind
 ·have g:a.1=0/\a.2=0:=by rcases cx a with ⟨f,h⟩|⟨f,h⟩|⟨f,h⟩<;>first|exact h|omega
  unfold cr at c
  rw [g.1,g.2] at c
  grind
theorem Ps {u v:V2}:¬cS u v<0↔half v<half u\/half u=half v/\cr u v<=0:=by
 rw [pf]
 constructor
 ·intro h
  rcases Int.lt_trichotomy (half u) (half v) with g|g|g
  ·exact absurd (.inl g) h
  ·exact .inr ⟨g,by by_cases p:cr u v>0;exact absurd (.inr ⟨g,p⟩) h;grind⟩
  ·exact .inl g
 ·rintro (h|⟨h,g⟩) (a|⟨a,b⟩)
  ·omega
  ·omega
  ·omega
  ·grind
theorem vk (a b d:V2)(h:¬cS a b<0)(h':¬cS b d<0):¬cS a d<0:=by
 rw [Ps] at *
 rcases h with h|⟨h,g⟩<;>rcases h' with h'|⟨h',g'⟩
 ·exact .inl (by omega)
 ·exact .inl (by omega)
 ·exact .inl (by omega)
 ·exact .inr ⟨by omega,MX h h' g g'⟩
theorem Pt {u v:V2}(hu:nz u)(hv:nz v):cS u v<0↔tY u v:=by
 have c:∀{w:V2},nz w->¬(w.1=0/\w.2=0):=fun h g=>by unfold nz at h;rcases h with h|h;exact h g.1;exact h g.2
 rw [pf]
 unfold tY
 rcases cx u with ⟨e,h⟩|⟨e,h⟩|⟨e,h⟩
 ·rcases cx v with ⟨b,a⟩|⟨b,a⟩|⟨b,a⟩
  ·rw [e,b];constructor
   ·rintro (g|⟨_,g⟩)
    ·omega
    ·exact .inr ⟨.inl ⟨h,a⟩,g⟩
   ·rintro (⟨_,g⟩|⟨_,g⟩)
    ·exact (fD a g).elim
    ·exact .inr ⟨rfl,g⟩
  ·rw [e,b];exact ⟨fun _=>.inl ⟨h,a⟩,fun _=>.inl (by decide)⟩
  ·exact absurd a (c hv)
 ·rcases cx v with ⟨b,a⟩|⟨b,a⟩|⟨b,a⟩
  ·rw [e,b];constructor
   ·rintro (g|⟨g,_⟩)<;>omega
   ·rintro (⟨g,_⟩|⟨⟨g,_⟩|⟨_,g⟩,_⟩)
    ·exact (fD g h).elim
    ·exact (fD g h).elim
    ·exact (fD a g).elim
  ·rw [e,b];constructor
   ·rintro (g|⟨_,g⟩)
    ·omega
    ·exact .inr ⟨.inr ⟨h,a⟩,g⟩
   ·rintro (⟨g,_⟩|⟨_,g⟩)
    ·exact (fD g h).elim
    ·exact .inr ⟨rfl,g⟩
  ·exact absurd a (c hv)
 ·exact absurd h (c hu)
theorem Dg {u v:V2}(hu:nz u)(h:cS u v=0):∃c:Rat,c>0/\u=(c*v.1,c*v.2):=by
 rw [kQ] at h
 obtain ⟨e,c⟩:=h
 have fin:∀k:Rat,k>0->u.1=k*v.1->u.2=k*v.2->∃c:Rat,c>0/\u=(c*v.1,c*v.2):=fun k a b g=>⟨k,a,Prod.ext b g⟩
 have pos:∀x y:Rat,y≠0->x*y>0->x*y⁻¹>0:=fun x y l h=>by
  have e:=inv_mul l x
  generalize x*y⁻¹=t at *
  have o:t*(y*y)=x*y:=by grind
  have:=sq_pos (u:=(y,0)) (.inl l)
  unfold dt at this
  by_cases q:t>0
  ·exact q
  ·have:=mn (show -t≥0 by grind) (show y*y≥0 by grind);grind
 unfold cr at c
 have two:v.2≠0->u.2*v.2>0->∃c:Rat,c>0/\u=(c*v.1,c*v.2):=fun a b=>by
  refine fin (u.2*v.2⁻¹) (pos _ _ a b) ?_ (inv_mul a _).symm
  have:=inv_mul a u.1
  have:u.1*v.2*v.2⁻¹=u.2*v.1*v.2⁻¹:=by rw [show u.1*v.2=u.2*v.1 by grind]
  grind
 have one:v.1≠0->u.1*v.1>0->v.2=0->u.2=0->∃c:Rat,c>0/\u=(c*v.1,c*v.2):=fun a b g n=>
  fin (u.1*v.1⁻¹) (pos _ _ a b) (inv_mul a _).symm (by rw [g,n];grind)
 rcases cx u with ⟨m,h⟩|⟨m,h⟩|⟨m,h⟩
 ·have i:up v:=by rcases cx v with ⟨d,h⟩|⟨d,h⟩|⟨d,h⟩<;>first|exact h|omega
  unfold up at h i
  by_cases q:v.2>0
  ·refine two (by grind) ?_
   by_cases f:u.2>0
   ·exact mp f q
   ·have j:u.2=0:=by grind
    have:=mp (show u.1>0 by grind) q
    rw [j] at c;grind
  ·have v2:v.2=0:=by grind
   have v1:v.1>0:=by grind
   by_cases f:u.2>0
   ·have:=mp f v1;rw [v2] at c;grind
   ·exact one (by grind) (mp (by grind) v1) v2 (by grind)
 ·have i:dn v:=by rcases cx v with ⟨d,h⟩|⟨d,h⟩|⟨d,h⟩<;>first|exact h|omega
  unfold dn at h i
  by_cases q:v.2<0
  ·refine two (by grind) ?_
   by_cases f:u.2<0
   ·have:=mp (show -u.2>0 by grind) (show -v.2>0 by grind);grind
   ·have j:u.2=0:=by grind
    have:=mp (show -u.1>0 by grind) (show -v.2>0 by grind)
    rw [j] at c;grind
  ·have v2:v.2=0:=by grind
   have v1:-v.1>0:=by grind
   by_cases f:u.2<0
   ·have:=mp (show -u.2>0 by grind) v1;rw [v2] at c;grind
   ·refine one (by grind) ?_ v2 (by grind)
    have:=mp (show -u.1>0 by grind) v1;grind
 ·unfold nz at hu;grind
theorem ML {a b d:V2}(h:cS a b=0)(h':cS b d=0):cS a d=0:=by
 have z:∀{u v:V2},cS u v=0↔¬cS u v<0/\¬cS v u<0:=by
  intro u v
  constructor
  ·intro e
   refine ⟨by omega,?_⟩
   rw [kQ] at e
   have:=iq u v
   rw [pf]
   rintro (g|⟨_,g⟩)
   ·omega
   ·grind
  ·rintro ⟨g,c⟩
   rcases vi u v with e|e|e
   ·exact absurd e g
   ·exact e
   ·exact absurd e c
 rw [z] at *
 exact ⟨vk _ _ _ h.1 h'.1,vk _ _ _ h'.2 h.2⟩
theorem vj (a:V2):cS a a=0:=kQ.2 ⟨rfl,by unfold cr;grind⟩
theorem Ht {a b d:V2}(h:¬cS b a<0)(h':cS b d<0):cS a d<0:=by
 by_cases q:cS a d<0
 ·exact q
 ·exact absurd h' (vk _ _ _ h q)
def eP (u v:V2):Bool:=decide (cS u v=0)
theorem DG:∀{r:List V2} {p:V2},(p::r).Pairwise (fun x y=>¬cS y x<0) ->
  (BR eP p r).Pairwise (fun x y=>cS x y<0)/\(∀x∈BR eP p r,cS p x<0)/\∀x∈p::r,∃y∈p::BR eP p r,cS y x=0
 | [],p,_=>⟨List.Pairwise.nil,(fun x h=>by cases h),fun x h=>⟨x,h,vj x⟩⟩
 | a::r,p,h=>by
  obtain ⟨h1,h2⟩:=List.pairwise_cons.1 h
  obtain ⟨i1,i2,i3⟩:=DG h2
  have f:¬cS a p<0:=h1 a (List.mem_cons_self ..)
  unfold BR
  by_cases e:cS a p=0
  ·have:eP a p=true:=decide_eq_true e
   rw [if_pos this]
   have i:¬cS p a<0:=fun g=>by
    rcases kQ.1 e with ⟨j,k⟩
    rw [pf] at g
    have:=iq a p
    rcases g with g|⟨_,g⟩
    ·omega
    ·grind
   refine ⟨i1,fun x c=>Ht f (i2 x c),fun x c=>?_⟩
   rcases List.mem_cons.1 c with rfl|c
   ·exact ⟨x,List.mem_cons_self ..,vj x⟩
   ·obtain ⟨y,d,g⟩:=i3 x c
    rcases List.mem_cons.1 d with rfl|d
    ·refine ⟨p,List.mem_cons_self ..,ML (b:=y) ?_ g⟩
     rcases vi p y with q|q|q
     ·exact absurd q i
     ·exact q
     ·exact absurd q f
    ·exact ⟨y,List.mem_cons_of_mem _ d,g⟩
  ·have:eP a p=false:=decide_eq_false e
   rw [this]
   have lt:cS p a<0:=by
    rcases vi p a with q|q|q
    ·exact q
    ·exfalso;apply e
     rw [kQ] at *
     have:=iq a p
     exact ⟨q.1.symm,by grind⟩
    ·exact absurd q f
   refine ⟨List.pairwise_cons.2 ⟨i2,i1⟩,fun x c=>?_,fun x c=>?_⟩
   ·rcases List.mem_cons.1 c with rfl|c
    ·exact lt
    ·exact Ht (b:=a) f (i2 x c)
   ·rcases List.mem_cons.1 c with rfl|c
    ·exact ⟨x,List.mem_cons_self ..,vj x⟩
    ·obtain ⟨y,d,g⟩:=i3 x c
     exact ⟨y,List.mem_cons_of_mem _ d,g⟩
theorem J5 {m:List V2}(h:m.Pairwise (fun x y=>¬cS y x<0)):(yV eP m).Pairwise (fun x y=>cS x y<0)/\∀x∈m,∃y∈yV eP m,cS y x=0:=by
 cases m with
 | nil=>exact ⟨List.Pairwise.nil,fun x h=>by cases h⟩
 | cons p r=>
  obtain ⟨a,b,c⟩:=DG h
  exact ⟨List.pairwise_cons.2 ⟨b,a⟩,c⟩
theorem Qv {m:List V2}(h:m.Pairwise (fun x y=>¬cS y x<0))(hn:∀r∈m,nz r)(ho:∀r∈m,∃s∈m,Xo s r):Oo (yV eP m)/\∀x∈m,∃y∈yV eP m,∃c:Rat,c>0/\y=(c*x.1,c*x.2):=by
 obtain ⟨i,j⟩:=J5 h
 have sub:∀x∈yV eP m,x∈m:=J6
 have mem:∀x∈m,∃y∈yV eP m,∃c:Rat,c>0/\y=(c*x.1,c*x.2):=fun x l=>by
  obtain ⟨y,d,e⟩:=j x l
  exact ⟨y,d,Dg (hn y (sub y d)) e⟩
 refine ⟨⟨fun r f=>hn r (sub r f),fun r f=>?_,?_⟩,mem⟩
 ·obtain ⟨s,n,k,o,p,q⟩:=ho r (sub r f)
  obtain ⟨y,d,c,t,e⟩:=mem s n
  refine ⟨y,d,c*k,mp t o,?_,?_⟩
  ·rw [e];show c*s.1=_;rw [p];grind
  ·rw [e];show c*s.2=_;rw [q];grind
 ·refine List.Pairwise.imp_of_mem ?_ i
  intro a b u v g
  exact (Pt (hn a (sub a u)) (hn b (sub b v))).1 g
section
variable {D:List V2} (h:Oo D)
include h
theorem Qn {i:Nat}{u w:V2}(hi:D[i]?=some u)(hw:D[(i+1)%D.length]?=some w):cr u w≥0:=by
 by_cases q:cr u w≥0
 ·exact q
 exfalso
 have b:w∈D:=List.mem_of_getElem? hw
 have hu:u∈D:=List.mem_of_getElem? hi
 obtain ⟨s,c,d⟩:=h.cl w b
 obtain ⟨k,f,_,g⟩:=Cj d u
 have p:cr u s>0:=by rw [g];have:=mp f (show -(cr u w)>0 by grind);grind
 obtain ⟨j,a⟩:=List.getElem?_of_mem c
 refine Ov (h.nz u hu) (h.nz w b) (h.nz s c) (Vo h hi hw a (fun e=>?_) (fun e=>?_)) p (by grind)
 ·rw [e,hi] at a;cases a;unfold cr at p;grind
 ·rw [e,hw] at a;cases a;grind
omit h in
def TN (f:V2->V2->V2)(D:List V2):List V2:=(List.range D.length).map fun i=>f (D.getD i (0,0)) (D.getD ((i+1)%D.length) (0,0))
theorem N6 {f:V2->V2->V2}(hf:∀u∈D,∀w∈D,cr u w≥0->Ih u w (f u w))(hD:D≠[]):Ug D (TN f D):=by
 have j:0<D.length:=List.length_pos_iff.2 hD
 have key:∀i u w,D[i]?=some u->D[(i+1)%D.length]?=some w->D.getD i (0,0)=u/\D.getD ((i+1)%D.length) (0,0)=w/\Ih u w (f u w):=fun i u w a hw=>
  ⟨by rw [List.getD_eq_getElem?_getD,a];rfl,by rw [List.getD_eq_getElem?_getD,hw];rfl,hf u (List.mem_of_getElem? a) w (List.mem_of_getElem? hw) (Qn h a hw)⟩
 refine .inr ⟨hD,fun x k=>?_,fun i u w a hw=>?_⟩
 ·obtain ⟨i,a,rfl⟩:=List.mem_map.1 k
  have a:=List.mem_range.1 a
  have e:D[i]?=some D[i]:=List.getElem?_eq_getElem a
  have g:D[(i+1)%D.length]?=some (D[(i+1)%D.length]'(Nat.mod_lt _ j)):=List.getElem?_eq_getElem _
  obtain ⟨b,c,d⟩:=key i _ _ e g
  exact ⟨i,_,_,e,g,by rw [b,c];exact d⟩
 ·obtain ⟨b,c,d⟩:=key i u w a hw
  refine ⟨_,List.mem_map.2 ⟨i,List.mem_range.2 (List.getElem?_eq_some_iff.1 a).1,rfl⟩,?_⟩
  rw [b,c];exact d
end
theorem uM {a b c x y z:Int}(h1:a*y=b*x)(h2:a*z=c*x)(g:Nat.gcd (Nat.gcd x.natAbs y.natAbs) z.natAbs=1):x.natAbs∣a.natAbs:=by
 have d:a.natAbs*y.natAbs=b.natAbs*x.natAbs:=by rw [←Int.natAbs_mul,←Int.natAbs_mul,h1]
 have e:a.natAbs*z.natAbs=c.natAbs*x.natAbs:=by rw [←Int.natAbs_mul,←Int.natAbs_mul,h2]
 have d1:x.natAbs∣a.natAbs*Nat.gcd (Nat.gcd x.natAbs y.natAbs) z.natAbs:=by
  rw [←Nat.gcd_mul_left,←Nat.gcd_mul_left]
  exact Nat.dvd_gcd (Nat.dvd_gcd ⟨a.natAbs,by rw [Nat.mul_comm]⟩ ⟨b.natAbs,by rw [d,Nat.mul_comm]⟩) ⟨c.natAbs,by rw [e,Nat.mul_comm]⟩
 rwa [g,Nat.mul_one] at d1
theorem Jm {l m:L3}(ol:dH l=true)(om:dH m=true)(cl:mV l=l)(cm:mV m=m){x y:Rat}(hl:ar l x y=0)(hm:ar m x y=0)
  (hc:cr (au l) (au m)=0):l=m:=by
 unfold dH at ol om
 rw [Bool.and_eq_true,decide_eq_true_iff,decide_eq_true_iff] at ol om
 have d:l.1*m.2.1=l.2.1*m.1:=by
  unfold cr au at hc
  have:(l.1:Rat)*(m.2.1:Rat)=(l.2.1:Rat)*(m.1:Rat):=by grind
  exact_mod_cast this
 unfold ar at hl hm
 have r:(l.1:Rat)*(m.2.1:Rat)=(l.2.1:Rat)*(m.1:Rat):=by exact_mod_cast d
 have e:l.1*m.2.2=l.2.2*m.1:=by
  have:(l.1:Rat)*(m.2.2:Rat)=(l.2.2:Rat)*(m.1:Rat):=by grind
  exact_mod_cast this
 have f:l.2.1*m.2.2=l.2.2*m.2.1:=by
  have:(l.2.1:Rat)*(m.2.2:Rat)=(l.2.2:Rat)*(m.2.1:Rat):=by grind
  exact_mod_cast this
 obtain ⟨j,k⟩:=ol
 obtain ⟨s,n⟩:=om
 unfold iE at k n
 have o:Nat.gcd (Nat.gcd l.2.1.natAbs l.1.natAbs) l.2.2.natAbs=1:=by rw [Nat.gcd_comm l.2.1.natAbs];exact k
 have p:Nat.gcd (Nat.gcd m.2.1.natAbs m.1.natAbs) m.2.2.natAbs=1:=by rw [Nat.gcd_comm m.2.1.natAbs];exact n
 have u:l.1.natAbs=m.1.natAbs:=Nat.dvd_antisymm (uM (a:=m.1) (b:=m.2.1) (c:=m.2.2) (by rw [Int.mul_comm,←d,Int.mul_comm]) (by rw [Int.mul_comm,←e,Int.mul_comm]) k) (uM d e n)
 have v:l.2.1.natAbs=m.2.1.natAbs:=Nat.dvd_antisymm (uM (a:=m.2.1) (b:=m.1) (c:=m.2.2) (by rw [Int.mul_comm,d,Int.mul_comm]) (by rw [Int.mul_comm,←f,Int.mul_comm]) o) (uM (b:=l.1) (c:=l.2.2) d.symm f p)
 have sl:¬(l.1<0\/l.1=0/\l.2.1<0):=fun h=>by
  unfold mV at cl
  rw [if_pos h] at cl
  have g:-l.1=l.1:=congrArg (fun x:L3=>x.1) cl
  have i:-l.2.1=l.2.1:=congrArg (fun x:L3=>x.2.1) cl
  omega
 have sm:¬(m.1<0\/m.1=0/\m.2.1<0):=fun h=>by
  unfold mV at cm
  rw [if_pos h] at cm
  have g:-m.1=m.1:=congrArg (fun x:L3=>x.1) cm
  have i:-m.2.1=m.2.1:=congrArg (fun x:L3=>x.2.1) cm
  omega
 have g:l.1=m.1:=by omega
 by_cases z:l.1=0
 ·have i:l.2.1=m.2.1:=by omega
  have t:l.2.1≠0:=fun h=>j ⟨z,h⟩
  have q:m.2.2=l.2.2:=Int.eq_of_mul_eq_mul_left t (by rw [f,i,Int.mul_comm])
  exact Prod.ext g (Prod.ext i q.symm)
 ·have i:m.2.1=l.2.1:=Int.eq_of_mul_eq_mul_left z (by rw [d,g,Int.mul_comm])
  have q:m.2.2=l.2.2:=Int.eq_of_mul_eq_mul_left z (by rw [e,g,Int.mul_comm])
  exact Prod.ext g (Prod.ext i.symm q.symm)
end Go.Proofs.Tryz.ai
namespace Go.Proofs.Tryz.ai
def mx (x:Rat×Rat)(t:Rat):Rat:=x.1+t*(x.2-x.1)
theorem Gs {x:Rat×Rat}{t:Rat}(h1:x.1>0)(h2:x.2>0)(t0:t>0)(t1:t<=1):mx x t>0:=by
 have a:=mn (show 1-t≥0 by grind) (show x.1≥0 by grind)
 have b:=mp t0 h2
 unfold mx;grind
theorem Qj {x:Rat×Rat}{t s:Rat}(h1:x.1>0)(hs:mx x s≥0)(s0:s>0)(t0:t>0)(ts:t<=s):mx x t≥0:=by
 unfold mx at *
 have e:s*(x.1+t*(x.2-x.1))=(s-t)*x.1+t*(x.1+s*(x.2-x.1)):=by grind
 have a:=mn (show s-t≥0 by grind) (show x.1≥0 by grind)
 have b:=mn (show t≥0 by grind) hs
 by_cases h:x.1+t*(x.2-x.1)≥0
 ·exact h
 ·have:=mp s0 (show -(x.1+t*(x.2-x.1))>0 by grind)
  grind
theorem vd {y:Rat×Rat}(h1:y.1>0){s:Rat}(s0:s>0)(hs:mx y s<=0):∃t,t>0/\t<=s/\mx y t=0:=by
 have a:y.1-y.2>0:=by
  by_cases c:y.1-y.2>0
  ·exact c
  ·have:=mn (show s≥0 by grind) (show y.2-y.1≥0 by grind)
   unfold mx at hs;grind
 have e:=inv_mul (show y.1-y.2≠0 by grind) y.1
 have p:=mp h1 (Rat.inv_pos.2 a)
 refine ⟨y.1*(y.1-y.2)⁻¹,p,?_,?_⟩
 ·generalize y.1*(y.1-y.2)⁻¹=t at *
  by_cases c:t<=s
  ·exact c
  ·have:=mp (show t-s>0 by grind) a
   unfold mx at hs;grind
 ·generalize y.1*(y.1-y.2)⁻¹=t at *
  unfold mx;grind
theorem F5:∀(L:List (Rat×Rat)),(∀x∈L,x.1>0)->(∃x∈L,x.2<=0)->∃t,t>0/\t<=1/\(∀x∈L,mx x t≥0)/\∃x∈L,mx x t=0
 | [],_,h=>by obtain ⟨x,hx,_⟩:=h;cases hx
 | y::L,h0,h=>by
  have j:=h0 y (List.mem_cons_self ..)
  have f:=fun x hx=>h0 x (List.mem_cons_of_mem y hx)
  by_cases c:∃x∈L,x.2<=0
  ·obtain ⟨t,t0,t1,a,x,hx,e⟩:=F5 L f c
   by_cases g:mx y t≥0
   ·exact ⟨t,t0,t1,fun z b=>by rcases List.mem_cons.1 b with rfl|b;exact g;exact a z b,x,List.mem_cons_of_mem _ hx,e⟩
   ·obtain ⟨s,d,st,es⟩:=vd j t0 (by grind)
    exact ⟨s,d,by grind,fun z b=>by rcases List.mem_cons.1 b with rfl|b;grind;exact Qj (f z b) (a z b) t0 d st,y,List.mem_cons_self ..,es⟩
  ·obtain ⟨x,hx,i⟩:=h
   have:x=y:=by
    rcases List.mem_cons.1 hx with rfl|hx
    ·rfl
    ·exact absurd ⟨x,hx,i⟩ c
   subst this
   obtain ⟨s,d,st,es⟩:=vd j (s:=1) (by decide) (by unfold mx;grind)
   refine ⟨s,d,st,fun z b=>?_,x,List.mem_cons_self ..,es⟩
   rcases List.mem_cons.1 b with rfl|b
   ·grind
   ·have:z.2>0:=by
     by_cases q:z.2>0
     ·exact q
     ·exact absurd ⟨z,b,by grind⟩ c
    have:=Gs (f z b) this d st
    grind
theorem Cx:∀(L:List (Rat×Rat)),(∀x∈L,x.1>0)->∃s,s>0/\∀x∈L,x.1+s*x.2>0
 | [],_=>⟨1,by decide,fun x h=>by cases h⟩
 | y::L,h0=>by
  have hy:=h0 y (List.mem_cons_self ..)
  obtain ⟨s,d,h⟩:=Cx L fun x f=>h0 x (List.mem_cons_of_mem y f)
  by_cases c:y.1+s*y.2>0
  ·exact ⟨s,d,fun z a=>by rcases List.mem_cons.1 a with rfl|a;exact c;exact h z a⟩
  ·have b:-y.2>0:=by
    by_cases q:y.2<0
    ·grind
    ·have:=mn (show s≥0 by grind) (show y.2≥0 by grind);grind
   have e:=inv_mul (show -y.2≠0 by grind) y.1
   have p:=mp hy (Rat.inv_pos.2 b)
   generalize y.1*(-y.2)⁻¹=r at *
   have j:r<=s:=by
    by_cases q:r<=s
    ·exact q
    ·have:=mp (show r-s>0 by grind) b;grind
   refine ⟨r*(1 / 2),by grind,fun z a=>?_⟩
   rcases List.mem_cons.1 a with rfl|a
   ·grind
   ·have g:=h0 z (List.mem_cons_of_mem _ a)
    have i:=h z a
    by_cases q:z.2≥0
    ·have:=mn (show r*(1 / 2)≥0 by grind) q;grind
    ·have:=mn (show s-r*(1 / 2)≥0 by grind) (show -z.2≥0 by grind)
     grind
def pos (M:List L3)(p:V2):Prop:=∀m∈M,ar m p.1 p.2>0
def Es (M:List L3)(l:L3):Prop:=∃p:V2,ar l p.1 p.2=0/\∀m∈M,m≠l->ar m p.1 p.2>0
def UO (M:List L3):Prop:=∀l∈M,∀m∈M,l≠m->∀p:V2,ar l p.1 p.2=0->ar m p.1 p.2=0->cr (au l) (au m)≠0
theorem NH {l m:L3}{w:V2}(hw:w.1≠0\/w.2≠0)(h1:nv l w=0)(h2:nv m w=0):cr (au l) (au m)=0:=by
 have a:cr (au l) (au m)*w.1=0:=by unfold nv at *;unfold cr au;grind
 have b:cr (au l) (au m)*w.2=0:=by unfold nv at *;unfold cr au;grind
 rcases hw with h|h
 ·rcases Rat.mul_eq_zero.1 a with g|g;exact g;exact absurd g h
 ·rcases Rat.mul_eq_zero.1 b with g|g;exact g;exact absurd g h
theorem HC (u:V2):cr u u=0:=by unfold cr;grind
theorem rf (m:L3)(q p:V2)(t:Rat):ar m (q.1+t*(p.1-q.1)) (q.2+t*(p.2-q.2))=ar m q.1 q.2+t*(ar m p.1 p.2-ar m q.1 q.2):=by unfold ar;grind
theorem Ql (m:L3)(q p:V2)(t:Rat):nv m (q.1+t*(p.1-q.1),q.2+t*(p.2-q.2))=nv m q+t*(nv m p-nv m q):=by unfold nv;grind
theorem Qm (m:L3)(q x:V2):nv m (q.1-x.1,q.2-x.2)=ar m q.1 q.2-ar m x.1 x.2:=by unfold nv ar;grind
theorem Y9 {M:List L3}(hd:UO M)(hn:∀m∈M,(au m).1≠0\/(au m).2≠0){q p:V2}(hq:pos M q)(hp:∀m∈M,Es M m->ar m p.1 p.2>0):pos M p:=by
 intro B C
 by_cases c:ar B p.1 p.2>0
 ·exact c
 exfalso
 let f:L3->Rat×Rat:=fun m=>(ar m q.1 q.2,ar m p.1 p.2)
 obtain ⟨t,t0,t1,ge,x,j,ex⟩:=F5 (M.map f) (fun x j=>by obtain ⟨m,hm,rfl⟩:=List.mem_map.1 j;exact hq m hm) ⟨f B,List.mem_map_of_mem C,by show ar B p.1 p.2<=0;grind⟩
 obtain ⟨i,l,rfl⟩:=List.mem_map.1 j
 let X:V2:=(q.1+t*(p.1-q.1),q.2+t*(p.2-q.2))
 have D:∀m,ar m X.1 X.2=mx (f m) t:=fun m=>rf m q p t
 have E:∀m∈M,ar m X.1 X.2≥0:=fun m hm=>by rw [D];exact ge _ (List.mem_map_of_mem hm)
 have P:ar i X.1 X.2=0:=by rw [D];exact ex
 let u:V2:=(q.1-X.1,q.2-X.2)
 have Q:∀m,nv m u=ar m q.1 q.2-ar m X.1 X.2:=fun m=>Qm m q X
 let Z:=M.filter fun m=>decide (ar m X.1 X.2=0)
 have r:∀m,m∈Z↔m∈M/\ar m X.1 X.2=0:=fun m=>by simp [Z,List.mem_filter]
 have F:i∈Z:=(r i).2 ⟨l,P⟩
 let d:=au i
 have d0:nv i d=0:=by rw [HW];exact HC _
 let g:L3->Rat×Rat:=fun m=>(nv m u,nv m d)
 obtain ⟨k,k0,k1,G,y,S,T⟩:=F5 (Z.map g) (fun x j=>by
  obtain ⟨m,hm,rfl⟩:=List.mem_map.1 j
  obtain ⟨H,U⟩:=(r m).1 hm
  show nv m u>0
  rw [Q,U];have:=hq m H;grind) ⟨g i,List.mem_map_of_mem F,by show nv i d<=0;rw [d0];grind⟩
 obtain ⟨n,I,rfl⟩:=List.mem_map.1 S
 obtain ⟨J,K⟩:=(r n).1 I
 let w:V2:=(u.1+k*(d.1-u.1),u.2+k*(d.2-u.2))
 have L:∀m,nv m w=mx (g m) k:=fun m=>Ql m u d k
 have R:nv n w=0:=by rw [L];exact T
 have V:w.1≠0\/w.2≠0:=by
  by_cases e:k=1
  ·have:=hn i l
   have v:w.1=d.1:=by dsimp only [w];rw [e];grind
   have A:w.2=d.2:=by dsimp only [w];rw [e];grind
   rw [v,A];exact this
  ·have a:nv i w>0:=by
    rw [L]
    show nv i u+k*(nv i d-nv i u)>0
    rw [d0]
    have:nv i u>0:=by rw [Q,P];have:=hq i l;grind
    have:=mp (show 1-k>0 by grind) this
    grind
   by_cases v:w.1=0
   ·by_cases A:w.2=0
    ·unfold nv at a;rw [v,A] at a;grind
    ·exact .inr A
   ·exact .inl v
 obtain ⟨s,W,Y⟩:=Cx ((M.filter fun m=>decide (ar m X.1 X.2>0)).map fun m=>(ar m X.1 X.2,nv m w)) (fun x j=>by
  obtain ⟨m,hm,rfl⟩:=List.mem_map.1 j
  simpa using (List.mem_filter.1 hm).2)
 have es:Es M n:=by
  refine ⟨(X.1+s*w.1,X.2+s*w.2),?_,fun m hm N=>?_⟩
  ·rw [fP,K,R];grind
  ·rw [fP]
   by_cases z:ar m X.1 X.2=0
   ·have O:=(r m).2 ⟨hm,z⟩
    have g0:nv m w≥0:=by rw [L];exact G _ (List.mem_map_of_mem O)
    have ne:nv m w≠0:=fun e=>hd n J m hm (fun h=>N h.symm) X K z (NH V R e)
    have:=mp W (show nv m w>0 by grind)
    rw [z];grind
   ·have gz:=E m hm
    have o:(ar m X.1 X.2,nv m w)∈((M.filter fun m=>decide (ar m X.1 X.2>0)).map fun m=>(ar m X.1 X.2,nv m w)):=List.mem_map.2 ⟨m,List.mem_filter.2 ⟨hm,by simp;grind⟩,rfl⟩
    exact Y _ o
 have a:=hp n J es
 have b:=hq n J
 have:=Gs (x:=f n) b a t0 t1
 rw [←D,K] at this
 grind
def iH (l:L3):V2:=((l.1:Rat),(l.2.1:Rat))
theorem XU {x y:Rat}(h:x≠0\/y≠0):x*x+y*y>0:=by
 have p:∀z:Rat,z≠0->z*z>0:=fun z a=>by
  by_cases c:z>0
  ·exact mp c c
  ·have:=mp (show -z>0 by grind) (show -z>0 by grind);grind
 have q:∀z:Rat,z*z≥0:=fun z=>by
  by_cases c:z≥0
  ·exact mn c c
  ·have:=mn (show -z≥0 by grind) (show -z≥0 by grind);grind
 rcases h with h|h
 ·have:=p x h;have:=q y;grind
 ·have:=p y h;have:=q x;grind
theorem Gu {l:L3}(h:(au l).1≠0\/(au l).2≠0):nv l (iH l)>0:=by
 have:nv l (iH l)=(l.1:Rat)*(l.1:Rat)+(l.2.1:Rat)*(l.2.1:Rat):=rfl
 rw [this]
 refine XU ?_
 rcases h with h|h
 ·exact .inr h
 ·left;intro e;apply h;show -(l.1:Rat)=0;rw [e];grind
theorem BZ {M:List L3}(hd:UO M)(hn:∀m∈M,(au m).1≠0\/(au m).2≠0){q:V2}(hq:pos M q)(h0:M≠[]):∃l∈M,Es M l:=by
 obtain ⟨l,a⟩:=List.exists_mem_of_ne_nil M h0
 by_cases c:∃l∈M,Es M l
 ·exact c
 exfalso
 have d:=Gu (hn l a)
 have e:=inv_mul (show nv l (iH l)≠0 by grind) (ar l q.1 q.2)
 have b:=Y9 hd hn hq (p:=(q.1+-(ar l q.1 q.2*(nv l (iH l))⁻¹)*(iH l).1,q.2+-(ar l q.1 q.2*(nv l (iH l))⁻¹)*(iH l).2)) (fun m hm he=>absurd ⟨m,hm,he⟩ c) l a
 rw [fP] at b
 grind
theorem BX {M:List L3}{l:L3}(hn:(au l).1≠0\/(au l).2≠0){x:V2}(hx:ar l x.1 x.2=0)(h:∀m∈M,m≠l->ar m x.1 x.2>0)(L:List L3)(hL:∀m∈L,ar m x.1 x.2>0):∃q:V2,pos M q/\ar l q.1 q.2>0/\pos L q:=by
 have c:=Gu hn
 obtain ⟨s,d,a⟩:=Cx (((M.filter fun m=>decide (m≠l))++L).map fun m=>(ar m x.1 x.2,nv m (iH l))) (fun y f=>by
  obtain ⟨m,hm,rfl⟩:=List.mem_map.1 f
  rcases List.mem_append.1 hm with hm|hm
  ·have:=List.mem_filter.1 hm
   exact h m this.1 (by simpa using this.2)
  ·exact hL m hm)
 have b:ar l (x.1+s*(iH l).1) (x.2+s*(iH l).2)>0:=by rw [fP,hx];have:=mp d c;grind
 refine ⟨(x.1+s*(iH l).1,x.2+s*(iH l).2),fun m hm=>?_,b,fun m hm=>?_⟩
 ·by_cases e:m=l
  ·rw [e];exact b
  ·rw [fP]
   exact a (ar m x.1 x.2,nv m (iH l)) (List.mem_map.2 ⟨m,List.mem_append_left _ (List.mem_filter.2 ⟨hm,by simpa using e⟩),rfl⟩)
 ·rw [fP]
  exact a (ar m x.1 x.2,nv m (iH l)) (List.mem_map.2 ⟨m,List.mem_append_right _ hm,rfl⟩)
theorem En {M:List L3}{l:L3}(hno:∀x:V2,ar l x.1 x.2=0->¬pos M x){q p:V2}(hq:pos M q)(hp:pos M p):ar l q.1 q.2>0->ar l p.1 p.2>0:=by
 intro h
 by_cases c:ar l p.1 p.2>0
 ·exact c
 exfalso
 obtain ⟨t,t0,t1,e⟩:=vd (y:=(ar l q.1 q.2,ar l p.1 p.2)) h (s:=1) (by decide) (by unfold mx;grind)
 refine hno (q.1+t*(p.1-q.1),q.2+t*(p.2-q.2)) ?_ fun m hm=>?_
 ·rw [rf];exact e
 ·rw [rf];exact Gs (x:=(ar m q.1 q.2,ar m p.1 p.2)) (hq m hm) (hp m hm) t0 t1
end Go.Proofs.Tryz.ai
