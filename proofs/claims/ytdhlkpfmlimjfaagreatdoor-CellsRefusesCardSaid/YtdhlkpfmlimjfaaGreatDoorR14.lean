import Derived.Test.YtdhlkpfmlimjfaaGreatDoorR13
import Derived.Test.YtdhlkpfmlimjfaaGreatDoorR8
import Derived.Test.YtdhlkpfmlimjfaaGreatDoorR6
import Derived.Test.YtdhlkpfmlimjfaaGreatDoorR10
set_option linter.unusedVariables false
open Go.IntKind (i64 u64 u32)
namespace Go.Eng
open Go.Big
theorem RR.zero (V:View):RR V (.agg #[.int .i64 0,.int .i64 0,.pointer none]) 0:=.inl ⟨rfl,by unfold Wd;decide⟩
end Go.Eng
namespace Go.Proofs.Tryz
open Go.Eng Go.Big
structure Sp where
 lo:Rat
 hi:Rat
 a:Bool
 b:Bool
def Sp.can (s:Sp):Prop:=(s.a=true->s.lo=0)/\(s.b=true->s.hi=0)
def Sp.sz (k:Nat)(s:Sp):Prop:=Sz k s.lo/\Sz k s.hi
def Sp.zero:Sp:=⟨0,0,false,false⟩
def ni (k:Nat)(l:L3):Prop:=Sz k (l.1:Rat)/\Sz k (l.2.1:Rat)/\Sz k (l.2.2:Rat)
def BE (V:View)(v:Value)(s:Sp):Prop:=∃(x1 x2:Int)(p:OA)(y1 y2:Int)(q:OA),v=.agg #[.int .i64 x1,.int .i64 x2,.pointer p,.int .i64 y1,.int .i64 y2,.pointer q,.bool s.a,.bool s.b] /\
 RR V (.agg #[.int .i64 x1,.int .i64 x2,.pointer p]) s.lo/\RR V (.agg #[.int .i64 y1,.int .i64 y2,.pointer q]) s.hi
theorem BE.le {V V':View}{v:Value}{s:Sp}(h:BE V v s)(l:V.Le V'):BE V' v s:=by
 obtain ⟨a,b,p,c,d,q,e,f,g⟩:=h
 exact ⟨a,b,p,c,d,q,e,f.le l,g.le l⟩
def RLi (V:View)(v:Value)(l:L3):Prop:=pt V v (l.1:Rat) (l.2.1:Rat) (l.2.2:Rat)
theorem RLi.le {V V':View}{v:Value}{l:L3}(h:RLi V v l)(e:V.Le V'):RLi V' v l:=pt.le h e
def HN (V:View)(v:Value)(l:L3)(s:Sp):Prop:=∃(x1 x2:Int)(p:OA)(y1 y2:Int)(q:OA)(z1 z2:Int)(r:OA)(u1 u2:Int)(t:OA)(w1 w2:Int)(o:OA),
 v=.agg #[.int .i64 x1,.int .i64 x2,.pointer p,.int .i64 y1,.int .i64 y2,.pointer q,.int .i64 z1,.int .i64 z2,.pointer r,.int .i64 u1,.int .i64 u2,.pointer t,.int .i64 w1,.int .i64 w2,.pointer o,.bool s.a,.bool s.b] /\
 RLi V (.agg #[.int .i64 x1,.int .i64 x2,.pointer p,.int .i64 y1,.int .i64 y2,.pointer q,.int .i64 z1,.int .i64 z2,.pointer r]) l /\
 BE V (.agg #[.int .i64 u1,.int .i64 u2,.pointer t,.int .i64 w1,.int .i64 w2,.pointer o,.bool s.a,.bool s.b]) s
theorem HN.le {V V':View}{v:Value}{l:L3}{s:Sp}(h:HN V v l s)(e:V.Le V'):HN V' v l s:=by
 obtain ⟨a,b,p,c,d,q,f,g,r,i,j,t,k,m,o,rfl,n,u⟩:=h
 exact ⟨a,b,p,c,d,q,f,g,r,i,j,t,k,m,o,rfl,n.le e,u.le e⟩
def FJ (V:View)(v:Value)(b:Bool)(xs ys:List Nat):Prop:=∃p n c p' n' c',v=.agg #[.bool b,.slice p n c,.slice p' n' c']/\RD V p n c xs/\RD V p' n' c' ys
theorem FJ.le {V V':View}{v:Value}{b:Bool}{xs ys:List Nat}(h:FJ V v b xs ys)(l:V.Le V'):FJ V' v b xs ys:=by
 obtain ⟨p,n,c,a,d,f,e,g,i⟩:=h;exact ⟨p,n,c,a,d,f,e,g.le l,i.le l⟩
theorem FJ.nil {V:View}:FJ V (.agg #[.bool false,.slice none 0 0,.slice none 0 0]) false [] []:=⟨_,_,_,_,_,_,rfl,RD.nil,RD.nil⟩
def RE (V:View)(v:Value)(q:Rat)(no:Bool):Prop:=(no=true->FJ V v false [] [])/\(no=false->RA V v q)
theorem RE.le {V V':View}{v:Value}{q:Rat}{no:Bool}(h:RE V v q no)(l:V.Le V'):RE V' v q no:=⟨fun e=>(h.1 e).le l,fun e=>(h.2 e).le l⟩
theorem RE.shape {V:View}{v:Value}{q:Rat}{no:Bool}(h:RE V v q no):∃b p n c p' n' c',v=.agg #[.bool b,.slice p n c,.slice p' n' c']:=by
 cases no with
 | true=>obtain ⟨_,_,_,_,_,_,e,-⟩:=h.1 rfl;exact ⟨_,_,_,_,_,_,_,e⟩
 | false=>exact (h.2 rfl).shape
def LH (V:View)(v:Value)(s:Sp):Prop:=∃b p n c p' n' c' d q m e q' m' e',v=.agg #[.bool b,.slice p n c,.slice p' n' c',.bool d,.slice q m e,.slice q' m' e',.bool s.a,.bool s.b] /\
 RE V (.agg #[.bool b,.slice p n c,.slice p' n' c']) s.lo s.a/\RE V (.agg #[.bool d,.slice q m e,.slice q' m' e']) s.hi s.b
theorem LH.le {V V':View}{v:Value}{s:Sp}(h:LH V v s)(l:V.Le V'):LH V' v s:=by
 obtain ⟨b,p,n,c,g,i,j,d,q,m,e,k,o,r,rfl,a,f⟩:=h
 exact ⟨_,_,_,_,_,_,_,_,_,_,_,_,_,_,rfl,a.le l,f.le l⟩
def I8 (V:View)(v:Value)(l:L3)(s:Sp):Prop:=∃b1 p1 n1 c1 b2 p2 n2 c2 b3 p3 n3 c3 b p n c p' n' c' d q m e q' m' e',
 v=.agg #[.bool b1,.slice p1 n1 c1,.bool b2,.slice p2 n2 c2,.bool b3,.slice p3 n3 c3,.bool b,.slice p n c,.slice p' n' c',.bool d,.slice q m e,.slice q' m' e',.bool s.a,.bool s.b] /\
 RL V (.agg #[.bool b1,.slice p1 n1 c1,.bool b2,.slice p2 n2 c2,.bool b3,.slice p3 n3 c3]) l.1 l.2.1 l.2.2/\LH V (.agg #[.bool b,.slice p n c,.slice p' n' c',.bool d,.slice q m e,.slice q' m' e',.bool s.a,.bool s.b]) s
theorem I8.le {V V':View}{v:Value}{l:L3}{s:Sp}(h:I8 V v l s)(e:V.Le V'):I8 V' v l s:=by
 obtain ⟨b1,i,j,k,b2,o,r,t,b3,u,w,x,b,p,n,c,y,z,A,d,q,m,f,B,C,D,rfl,a,g⟩:=h
 exact ⟨_,_,_,_,_,_,_,_,_,_,_,_,_,_,_,_,_,_,_,_,_,_,_,_,_,_,rfl,a.le e,g.le e⟩
def Jw (V:View)(v:Value)(s:Sp):Prop:=∃b p n c p' n' c' d q m e q' m' e',v=.agg #[.bool b,.slice p n c,.slice p' n' c',.bool d,.slice q m e,.slice q' m' e',.bool s.a,.bool s.b] /\
 RQ V (.agg #[.bool b,.slice p n c,.slice p' n' c']) s.lo/\RQ V (.agg #[.bool d,.slice q m e,.slice q' m' e']) s.hi
theorem Jw.le {V V':View}{v:Value}{s:Sp}(h:Jw V v s)(l:V.Le V'):Jw V' v s:=by
 obtain ⟨b,p,n,c,g,i,j,d,q,m,e,k,o,r,rfl,a,f⟩:=h
 exact ⟨_,_,_,_,_,_,_,_,_,_,_,_,_,_,rfl,a.le l,f.le l⟩
def RF (V:View)(v:Value)(l:L3)(s:Sp):Prop:=∃b1 p1 n1 c1 b2 p2 n2 c2 b3 p3 n3 c3 b p n c p' n' c' d q m e q' m' e',
 v=.agg #[.bool b1,.slice p1 n1 c1,.bool b2,.slice p2 n2 c2,.bool b3,.slice p3 n3 c3,.bool b,.slice p n c,.slice p' n' c',.bool d,.slice q m e,.slice q' m' e',.bool s.a,.bool s.b] /\
 RL V (.agg #[.bool b1,.slice p1 n1 c1,.bool b2,.slice p2 n2 c2,.bool b3,.slice p3 n3 c3]) l.1 l.2.1 l.2.2/\Jw V (.agg #[.bool b,.slice p n c,.slice p' n' c',.bool d,.slice q m e,.slice q' m' e',.bool s.a,.bool s.b]) s
theorem RF.le {V V':View}{v:Value}{l:L3}{s:Sp}(h:RF V v l s)(e:V.Le V'):RF V' v l s:=by
 obtain ⟨b1,i,j,k,b2,o,r,t,b3,u,w,x,b,p,n,c,y,z,A,d,q,m,f,B,C,D,rfl,a,g⟩:=h
 exact ⟨_,_,_,_,_,_,_,_,_,_,_,_,_,_,_,_,_,_,_,_,_,_,_,_,_,_,rfl,a.le e,g.le e⟩
def ar (l:L3)(x y:Rat):Rat:=(l.1:Rat)*x+(l.2.1:Rat)*y+(l.2.2:Rat)
def g_ (l:L3):Rat:=(l.1:Rat)*(l.1:Rat)+(l.2.1:Rat)*(l.2.1:Rat)
def E0 (l:L3)(x y:Rat):Rat:=((l.2.1:Rat)*x-(l.1:Rat)*y)*(g_ l)⁻¹
def jN (l:L3)(t:Rat):Rat:=(l.2.1:Rat)*t-(l.1:Rat)*(l.2.2:Rat)*(g_ l)⁻¹
def jO (l:L3)(t:Rat):Rat:=-((l.1:Rat)*t)-(l.2.1:Rat)*(l.2.2:Rat)*(g_ l)⁻¹
def revL (l:L3):L3:=(-l.1,-l.2.1,-l.2.2)
def Sp.neg (s:Sp):Sp:=⟨if s.b then 0 else -s.hi,if s.a then 0 else -s.lo,s.b,s.a⟩
def Sp.emp (s:Sp):Bool:=!s.a&&!s.b&&decide (fv s.lo s.hi≥0)
def Nz (l:L3):Prop:=¬(l.1=0/\l.2.1=0)
theorem sq_nonneg (x:Int):0<=x*x:=by
 rw [←Int.natAbs_mul_self];exact Int.natCast_nonneg _
theorem EN (l:L3):g_ l=((l.1*l.1+l.2.1*l.2.1:Int):Rat):=by unfold g_;simp
theorem Nz.norm {l:L3}(h:Nz l):g_ l≠0:=by
 rw [EN]
 have d:=sq_nonneg l.1
 have f:=sq_nonneg l.2.1
 have a:l.1*l.1+l.2.1*l.2.1≠0:=by
  intro e
  have b:l.1*l.1=0:=by omega
  have c:l.2.1*l.2.1=0:=by omega
  exact h ⟨(Int.mul_eq_zero.1 b).elim id id,(Int.mul_eq_zero.1 c).elim id id⟩
 exact_mod_cast a
theorem Nk {V:View}{l t:Value}{L:L3}{x:Rat}(hl:RLi V l L)(ht:RR V t x){k:Nat}(sl:ni k L)(s1:Sz k x)(hk:20*k+19<274877906944) :
  Acts prog 210 #[l,t] V fun r V'=>RPt V' r (jN L x) (jO L x):=by
 refine (xK hl ht sl.1 sl.2.1 sl.2.2 s1 hk).mono ?_
 rintro r V2 c g
 have a:jN L x=((L.1:Rat)*((-(L.2.2:Rat))*((L.1:Rat)*(L.1:Rat)+(L.2.1:Rat)*(L.2.1:Rat))⁻¹))+((L.2.1:Rat)*x):=by unfold jN g_;grind
 have b:jO L x=((L.2.1:Rat)*((-(L.2.2:Rat))*((L.1:Rat)*(L.1:Rat)+(L.2.1:Rat)*(L.2.1:Rat))⁻¹))+((-(L.1:Rat))*x):=by unfold jO g_;grind
 rw [a,b];exact g
theorem I0 {L:L3}{x:Rat}{k:Nat}(sl:ni k L)(s1:Sz k x):Sz (20*k+19) (jN L x):=by
 have a:jN L x=((L.1:Rat)*((-(L.2.2:Rat))*((L.1:Rat)*(L.1:Rat)+(L.2.1:Rat)*(L.2.1:Rat))⁻¹))+((L.2.1:Rat)*x):=by unfold jN g_;grind
 rw [a];exact tW sl.1 sl.2.1 sl.2.2 s1
theorem I1 {L:L3}{x:Rat}{k:Nat}(sl:ni k L)(s1:Sz k x):Sz (20*k+19) (jO L x):=by
 have a:jO L x=((L.2.1:Rat)*((-(L.2.2:Rat))*((L.1:Rat)*(L.1:Rat)+(L.2.1:Rat)*(L.2.1:Rat))⁻¹))+((-(L.1:Rat))*x):=by unfold jO g_;grind
 rw [a];exact tX sl.1 sl.2.1 sl.2.2 s1
theorem Is {V:View}{l p:Value}{L:L3}{x y:Rat}(hl:RLi V l L)(hp:RPt V p x y){k:Nat}(sl:ni k L)(s1:Sz k x)(s2:Sz k y)(hk:16*k+16<274877906944) :
  Acts prog 106 #[l,p] V fun r V'=>r=.int .i64 (ar L x y).num.sign:=s_ hl hp sl.1 sl.2.1 sl.2.2 s1 s2 hk
theorem k_Reverse {V:View}{l:Value}{L:L3}(hl:RLi V l L){k:Nat}(sl:ni k L)(hk:1*k+1<274877906944) :
  Acts prog 198 #[l] V fun r V'=>RLi V' r (revL L):=by
 refine (nC hl sl.1 sl.2.1 sl.2.2 hk).mono ?_
 rintro r V2 a g
 unfold RLi revL
 simpa using g
theorem ni.rev {k:Nat}{L:L3}(h:ni k L):ni k (revL L):=by
 unfold ni revL
 simp only [Rat.intCast_neg]
 exact ⟨h.1.neg,h.2.1.neg,h.2.2.neg⟩
structure Ms (V:View) (vs:List Value) (i:Int) (f a b c:Rat):Prop where
 h0:0<=i
 h3:i<=3
 row:∃(x1 x2:Int)(p:OA)(y1 y2:Int)(q:OA)(z1 z2:Int)(r:OA),vs=[.int .i64 x1,.int .i64 x2,.pointer p,.int .i64 y1,.int .i64 y2,.pointer q,.int .i64 z1,.int .i64 z2,.pointer r] /\
  RR V (.agg #[.int .i64 x1,.int .i64 x2,.pointer p]) (if 0<i then a*f else a)/\RR V (.agg #[.int .i64 y1,.int .i64 y2,.pointer q]) (if 1<i then b*f else b)/\RR V (.agg #[.int .i64 z1,.int .i64 z2,.pointer r]) (if 2<i then c*f else c)
theorem Ms.le {V V':View}{vs:List Value}{i:Int}{f a b c:Rat}(h:Ms V vs i f a b c)(l:V.Le V'):Ms V' vs i f a b c:=by
 obtain ⟨d,g,j,k,p,m,n,q,o,s,r,e,t,u,v⟩:=h
 exact ⟨d,g,j,k,p,m,n,q,o,s,r,e,t.le l,u.le l,v.le l⟩
def IP (b:Bool)(xs ys:List Nat):Rat:=mkRat (aq b xs) (val ys)
def IA (b:Bool)(xs ys:List Nat):Bool:=eo b xs&&decide (ae (val ys)=ys)&&!decide (ys=[])&&decide (Nat.gcd (val xs) (val ys)=1)
def Om (b:Bool)(xs ys:List Nat):Bool:=!b&&decide (xs=[])&&decide (ys=[])
def H0 (b:Bool)(xs ys:List Nat)(no:Bool):Rat:=if no then 0 else IP b xs ys
def D6 (b:Bool)(xs ys:List Nat)(no:Bool):Bool:=if no then Om b xs ys else IA b xs ys
theorem B2 {q:Rat}:IA (decide (q.num<0)) (ae q.num.natAbs) (ae q.den)=true/\IP (decide (q.num<0)) (ae q.num.natAbs) (ae q.den)=q:=by
 constructor
 ·unfold IA
  have a:eo (decide (q.num<0)) (ae q.num.natAbs)=true:=by
   unfold eo
   rw [ab]
   by_cases h:q.num<0
   ·have:ae q.num.natAbs≠[]:=fun e=>by have:=aT.1 e;omega
    simp [h,this]
   ·simp [h]
  have b:ae q.den≠[]:=fun e=>q.den_nz (aT.1 e)
  rw [a,ab,ab]
  simp [b,q.reduced]
 ·unfold IP
  rw [au,ab,Rat.mkRat_self]
theorem Ae {V:View}{v:Value}{s:Sp}(h:BE V v s){k:Nat}(hs:s.sz k)(hk:2*k<1099511627776) :
  Acts prog 202 #[v] V fun r V'=>r=.bool s.emp:=by
 obtain ⟨f,g,p,i,j,q,rfl,l,m⟩:=h
 refine pM f g p i j q s.a s.b V _ ⟨fun c=>⟨fun d n e=>(jc (l.le e) (m.le e) hs.1 hs.2 (by omega)).mono ?_,fun d o t=>?_⟩,fun c u w=>?_⟩
 ·rintro r V2 x rfl
  exact ⟨_,rfl,fun y z=>by rw [Bool.not_eq_true'] at c d;simp [Sp.emp,c,d]⟩
 ·rw [Bool.not_eq_false'] at d;simp [Sp.emp,d]
 ·rw [Bool.not_eq_false'] at c;simp [Sp.emp,c]
def LI (V:View)(v:Value)(b1:Bool)(G_ Hb:List Nat)(b2:Bool)(Ha Hc:List Nat)(na nb:Bool):Prop:=∃p n c p' n' c' q m e q' m' e',v=.agg #[.bool b1,.slice p n c,.slice p' n' c',.bool b2,.slice q m e,.slice q' m' e',.bool na,.bool nb] /\
 FJ V (.agg #[.bool b1,.slice p n c,.slice p' n' c']) b1 G_ Hb/\FJ V (.agg #[.bool b2,.slice q m e,.slice q' m' e']) b2 Ha Hc
theorem LI.le {V V':View}{v:Value}{b1:Bool}{G_ Hb:List Nat}{b2:Bool}{Ha Hc:List Nat}{na nb:Bool}(h:LI V v b1 G_ Hb b2 Ha Hc na nb)(l:V.Le V'):LI V' v b1 G_ Hb b2 Ha Hc na nb:=by
 obtain ⟨p,n,c,d,f,g,q,m,e,i,j,k,rfl,a,b⟩:=h
 exact ⟨_,_,_,_,_,_,_,_,_,_,_,_,rfl,a.le l,b.le l⟩
def Lg (b1:Bool)(G_ Hb:List Nat)(b2:Bool)(Ha Hc:List Nat)(na nb:Bool):Sp:=⟨H0 b1 G_ Hb na,H0 b2 Ha Hc nb,na,nb⟩
def okW (b1:Bool)(G_ Hb:List Nat)(b2:Bool)(Ha Hc:List Nat)(na nb:Bool):Bool:=D6 b1 G_ Hb na&&D6 b2 Ha Hc nb&&!(Lg b1 G_ Hb b2 Ha Hc na nb).emp
def PU (l:L3)(s:Sp):Prop:=okL l=true/\s.can/\s.emp=false
theorem RE.raw {V:View}{v:Value}{q:Rat}{no:Bool}(h:RE V v q no)(hc:no=true->q=0):∃b xs ys,FJ V v b xs ys/\D6 b xs ys no=true/\H0 b xs ys no=q/\(∀k,Sz k q->xs.length<=k/\ys.length<=k):=by
 cases no with
 | true=>
  exact ⟨false,[],[],h.1 rfl,rfl,by rw [hc rfl];rfl,fun k _=>⟨Nat.zero_le _,Nat.zero_le _⟩⟩
 | false=>
  obtain ⟨p,n,c,f,g,i,rfl,d,e⟩:=h.2 rfl
  exact ⟨_,_,_,⟨_,_,_,_,_,_,rfl,d,e⟩,B2.1,B2.2,fun k a=>⟨af a.1,af a.2⟩⟩
theorem RLi.api {V:View}{r:Value}{l:L3}(h:RL V r ((l.1:Rat)).num ((l.2.1:Rat)).num ((l.2.2:Rat)).num):RL V r l.1 l.2.1 l.2.2:=by
 simpa [Rat.num_intCast] using h
theorem ni.ae {k:Nat}{l:L3}(h:ni k l)(hk:k<=1099511627776):(ae l.1.natAbs).length<=1099511627776/\(ae l.2.1.natAbs).length<=1099511627776/\(ae l.2.2.natAbs).length<=1099511627776:=by
 have d1:=af (show l.1.natAbs<2^k from h.1.1)
 have d2:=af (show l.2.1.natAbs<2^k from h.2.1.1)
 have d3:=af (show l.2.2.natAbs<2^k from h.2.2.1)
 exact ⟨by omega,by omega,by omega⟩
def LD (V:View)(ad:Addr)(l:L3)(s:Sp):Prop:=∃xs:List Value,I8 V (.agg xs.toArray) l s/\∀i x,xs[i]?=some x->V.at (ad.add i) x
theorem LD.le {V V':View}{ad:Addr}{l:L3}{s:Sp}(h:LD V ad l s)(e:V.Le V'):LD V' ad l s:=by
 obtain ⟨xs,a,b⟩:=h;exact ⟨xs,a.le e,fun i x c=>e.at (b i x c)⟩
structure HM (V:View) (p:OA) (n:Nat) (fs:List (L3×Sp)):Prop where
 len:n=fs.length
 at_:∀(i:Nat)(h:i<fs.length),∃ad,addrAdd p (i*14)=some ad/\LD V ad fs[i].1 fs[i].2
theorem HM.le {V V':View}{p:OA}{n:Nat}{fs:List (L3×Sp)}(h:HM V p n fs)(e:V.Le V'):HM V' p n fs:=⟨h.len,fun i a=>by obtain ⟨b,c,d⟩:=h.at_ i a;exact ⟨b,c,d.le e⟩⟩
theorem yA {p:OA}{j:Nat}{ad:Addr}(h:addrAdd p j=some ad):p.isSome=true:=by
 cases p with
 | none=>cases h
 | some a=>rfl
def LJ (V:View)(ad:Addr)(s:Sp):Prop:=∃xs:List Value,Jw V (.agg xs.toArray) s/\∀i x,xs[i]?=some x->V.at (ad.add i) x
theorem LJ.le {V V':View}{ad:Addr}{s:Sp}(h:LJ V ad s)(e:V.Le V'):LJ V' ad s:=by
 obtain ⟨xs,a,b⟩:=h;exact ⟨xs,a.le e,fun i x c=>e.at (b i x c)⟩
structure Mq (V:View) (p:OA) (n:Nat) (ss:List Sp):Prop where
 len:n=ss.length
 at_:∀(i:Nat)(h:i<ss.length),∃ad,addrAdd p (i*8)=some ad/\LJ V ad ss[i]
theorem Mq.le {V V':View}{p:OA}{n:Nat}{ss:List Sp}(h:Mq V p n ss)(e:V.Le V'):Mq V' p n ss:=⟨h.len,fun i a=>by obtain ⟨b,c,d⟩:=h.at_ i a;exact ⟨b,c,d.le e⟩⟩
def Sp.la (s:Sp)(t:Rat):Int:=if s.a then 1 else fv t s.lo
def Sp.lb (s:Sp)(t:Rat):Int:=if s.b then -1 else fv t s.hi
theorem CE {V:View}{p:OA}{n c:Nat}{ds:List Nat}(h:RD V p n c ds)(hm:ds.length<=1099511627776) :
  Acts prog 190 #[.slice p n c] V fun r V'=>∃p1 n1 c1,r=.slice p1 n1 c1/\RN V' p1 n1 c1 (val ds):=by
 have a:=h.len
 refine BA p n c V _ ⟨aA ds,h.sl,by simp [a],by omega,by omega,by simp,by simp [a],?_,?_⟩
 ·intro v e
  simp only [aA,List.mem_map] at e
  obtain ⟨d,-,rfl⟩:=e
  rfl
 ·intro l J sp m f o q s b i
  simp only [Nat.zero_add,Nat.zero_mul,List.take_zero,List.nil_append] at i f ⊢
  refine (bZ (copied h.cI a f i) (by omega)).mono ?_
  rintro r V2 t ⟨k,rfl,g⟩
  rw [aI h.cI] at g
  exact ⟨_,_,_,rfl,fun u w j=>⟨_,_,_,rfl,g.le j⟩⟩
theorem nE {V:View}(b:Bool){p:OA}{n c:Nat}{ds:List Nat}(h:RD V p n c ds)(hm:ds.length<=1099511627776) :
  Acts prog 149 #[.agg #[.bool b,.slice p n c]] V fun r V'=>RI V' r (aq b ds):=by
 refine Bz b p n c V _ fun i a=>(CE (h.le a) hm).mono ?_
 rintro r V2 j ⟨k,l,m,rfl,g⟩
 refine ⟨_,_,_,rfl,fun o d=>(dO b (g.le d)).mono ?_⟩
 rintro r q s ⟨t,u,v,rfl,e⟩
 exact ⟨_,_,_,_,rfl,fun w f=>⟨_,_,_,rfl,e.le f⟩⟩
theorem rk {b:Bool}{ds:List Nat}(h:bl ds):(ae (aq b ds).natAbs).length<=ds.length:=by
 rw [cx];exact aU h
theorem pB {V:View}{p:OA}{n c:Nat}{ds:List Nat}(h:RD V p n c ds)(hm:ds.length<=1099511627776) :
  Acts prog 189 #[.slice p n c] V fun r V'=>r=.bool (decide (ae (val ds)=ds)):=by
 have d:=h.len
 refine oq p n c V _ ⟨fun a e f=>?_,fun a=>?_⟩
 ·have:ds=[]:=List.length_eq_zero_iff.1 (by simp at a;omega)
  subst this;rfl
 ·have a:0<n:=by simp at a;omega
  simp (disch:=omega) only [i64w]
  refine h.rd (n-1) (by omega) (by omega) fun e f=>?_
  congr 1
  rw [Bool.eq_iff_iff]
  simp only [bne_iff_ne,ne_eq,decide_eq_true_eq]
  subst d
  constructor
  ·intro b
   exact mc h.cI (oP fun _=>by simpa using b)
  ·intro he b
   have:oz ds:=by rw [←he];exact fo _
   exact this.last (by omega) (by simpa using b)
theorem fu {V:View}(b:Bool){p:OA}{n c:Nat}{ds:List Nat}(h:RD V p n c ds)(hm:ds.length<=1099511627776) :
  Acts prog 148 #[.agg #[.bool b,.slice p n c]] V fun r V'=>r=.bool (eo b ds):=by
 have g:=h.len
 refine oo b p n c V _ fun i f=>(pB (h.le f) hm).mono ?_
 rintro r V2 j rfl
 refine ⟨_,rfl,fun d=>⟨fun a k l=>?_,fun a m o=>?_⟩,fun d q s=>?_⟩
 ·rw [Bool.not_eq_true'] at a
  simp [eo,d,a]
 ·rw [Bool.not_eq_false'] at a
  have e:decide (((n:Nat):Int)>0)=!decide (ds=[]):=by
   rw [Bool.eq_iff_iff,decide_eq_true_eq,Bool.not_eq_true',decide_eq_false_iff_not,←List.length_eq_zero_iff];omega
  rw [e]
  simp [eo,d,a]
 ·simp [eo,d]
def I9 (V:View)(v:Value)(b1:Bool)(xs:List Nat)(b2:Bool)(ys:List Nat)(b3:Bool)(zs:List Nat):Prop:=∃p n c q m e s i j,v=.agg #[.bool b1,.slice p n c,.bool b2,.slice q m e,.bool b3,.slice s i j]/\RD V p n c xs/\RD V q m e ys/\RD V s i j zs
theorem I9.le {V V':View}{v:Value}{b1:Bool}{xs:List Nat}{b2:Bool}{ys:List Nat}{b3:Bool}{zs:List Nat}(h:I9 V v b1 xs b2 ys b3 zs)(l:V.Le V'):I9 V' v b1 xs b2 ys b3 zs:=by
 obtain ⟨p,n,c,q,m,e,s,i,j,rfl,a,b,d⟩:=h
 exact ⟨_,_,_,_,_,_,_,_,_,rfl,a.le l,b.le l,d.le l⟩
def Mo (v:Value):Prop:=∃b1 p1 n1 c1 b2 p2 n2 c2 b3 p3 n3 c3,v=.agg #[.bool b1,.slice p1 n1 c1,.bool b2,.slice p2 n2 c2,.bool b3,.slice p3 n3 c3]
def AK (b1:Bool)(xs:List Nat)(b2:Bool)(ys:List Nat)(b3:Bool)(zs:List Nat):L3:=(aq b1 xs,aq b2 ys,aq b3 zs)
theorem kd {b1:Bool}{xs:List Nat}{b2:Bool}{ys:List Nat}{b3:Bool}{zs:List Nat}:gP b1 xs b2 ys b3 zs=(eo b1 xs&&eo b2 ys&&eo b3 zs&&okL (AK b1 xs b2 ys b3 zs)):=by
 have e:=mw (a:=aq b1 xs) (b:=aq b2 ys) (c:=aq b3 zs)
 have d:∀z:Int,eo (decide (z<0)) (ae z.natAbs)=true:=by
  intro z
  unfold eo
  rw [ab]
  by_cases h:z<0
  ·have:ae z.natAbs≠[]:=fun e=>by have:=aT.1 e;omega
   simp [h,this]
  ·simp [h]
 unfold gP at e ⊢
 rw [d,d,d,au,au,au] at e
 simp only [Bool.true_and] at e
 unfold AK
 rw [←e]
 simp only [Bool.and_assoc]
theorem qF {V:View}{v:Value}{b1:Bool}{xs:List Nat}{b2:Bool}{ys:List Nat}{b3:Bool}{zs:List Nat}(h:I9 V v b1 xs b2 ys b3 zs)(m1:xs.length<=1000000)(m2:ys.length<=1000000)(m3:zs.length<=1000000) :
  Acts prog 111 #[v] V fun r V'=>∃w,r=.tuple #[w,.bool (gP b1 xs b2 ys b3 zs)]/\Mo w/\(gP b1 xs b2 ys b3 zs=true->RL V' w (aq b1 xs) (aq b2 ys) (aq b3 zs)):=by
 obtain ⟨p,n,c,q,m,e,s,i,j,rfl,C,D,E⟩:=h
 have d1:=rk (b:=b1) C.cI
 have d2:=rk (b:=b2) D.cI
 have d3:=rk (b:=b3) E.cI
 have bad:∀{V':View},gP b1 xs b2 ys b3 zs=false->∃w,Value.tuple #[.agg #[.bool false,.slice none 0 0,.bool false,.slice none 0 0,.bool false,.slice none 0 0],.bool false]=.tuple #[w,.bool (gP b1 xs b2 ys b3 zs)]/\Mo w/\(gP b1 xs b2 ys b3 zs=true->RL V' w (aq b1 xs) (aq b2 ys) (aq b3 zs)):=fun h=>by
  rw [h];exact ⟨_,rfl,⟨_,_,_,_,_,_,_,_,_,_,_,_,rfl⟩,(fun h=>nomatch h)⟩
 refine zU b1 p n c b2 q m e b3 s i j V _ fun V1 F=>(fu b1 (C.le F) (by omega)).mono ?_
 rintro r V2 N rfl
 refine ⟨_,rfl,fun k V3 l3=>bad (by rw [Bool.not_eq_true'] at k;rw [kd];simp [k]),fun k V4 O=>(fu b2 (D.le (F.trans (N.trans O))) (by omega)).mono ?_⟩
 rintro r V5 Z rfl
 refine ⟨_,rfl,fun l V6 l6=>bad (by rw [Bool.not_eq_true'] at l;rw [kd];simp [l]),fun l V7 l7=>?_⟩
 have P:V.Le V7:=F.trans (N.trans (O.trans (Z.trans l7)))
 refine (fu b3 (E.le P) (by omega)).mono ?_
 rintro r V8 l8 rfl
 refine ⟨_,rfl,fun o V9 l9=>bad (by rw [Bool.not_eq_true'] at o;rw [kd];simp [o]),fun o G H=>?_⟩
 rw [Bool.not_eq_false'] at k l o
 have I:V.Le G:=P.trans (l8.trans H)
 refine (nE b1 (C.le I) (by omega)).mono ?_
 rintro r a0 t ⟨pa,na,ca,rfl,Q⟩
 refine ⟨_,_,_,_,rfl,fun a1 d=>(nE b2 (D.le (I.trans (t.trans d))) (by omega)).mono ?_⟩
 rintro r a2 f ⟨pb,nb,cb,rfl,R⟩
 refine ⟨_,_,_,_,rfl,fun a3 u=>(nE b3 (E.le (I.trans (t.trans (d.trans (f.trans u))))) (by omega)).mono ?_⟩
 rintro r a4 z ⟨pc,nc,cc,rfl,gc⟩
 refine ⟨_,_,_,_,rfl,fun lV g=>(eF (x:=(aq b1 xs).natAbs) (y:=(aq b2 ys).natAbs) (Q.le (d.trans (f.trans (u.trans (z.trans g))))) (R.le (u.trans (z.trans g))) (by omega) (by omega)).mono ?_⟩
 rintro r oB A ⟨pg,J,cg,rfl,S⟩
 have hg:=S.len
 have Ry:(ae (Nat.gcd (aq b1 xs).natAbs (aq b2 ys).natAbs)).length<=274877906944:=by
  by_cases T:(aq b1 xs).natAbs=0
  ·rw [T,Nat.gcd_zero_left];omega
  ·have:=ay (Nat.gcd_le_left (aq b2 ys).natAbs (Nat.pos_of_ne_zero T));omega
 have ok:gP b1 xs b2 ys b3 zs=okL (AK b1 xs b2 ys b3 zs):=by rw [kd,k,l,o];rfl
 have rl:∀V':View,oB.Le V'->RL V' (.agg #[.bool (decide (aq b1 xs<0)),.slice pa na ca,.bool (decide (aq b2 ys<0)),.slice pb nb cb,.bool (decide (aq b3 zs<0)),.slice pc nc cc]) (aq b1 xs) (aq b2 ys) (aq b3 zs):=fun V' K=>
  ⟨_,_,_,_,_,_,_,_,_,rfl,Q.le (d.trans (f.trans (u.trans (z.trans (g.trans (A.trans K)))))),R.le (u.trans (z.trans (g.trans (A.trans K)))),gc.le (g.trans (A.trans K))⟩
 have U:(Nat.gcd (aq b1 xs).natAbs (aq b2 ys).natAbs=0)↔(aq b1 xs=0/\aq b2 ys=0):=by rw [Nat.gcd_eq_zero_iff];omega
 have W:J=0↔(aq b1 xs=0/\aq b2 ys=0):=by
  rw [←U,←@aT (Nat.gcd (aq b1 xs).natAbs (aq b2 ys).natAbs),←List.length_eq_zero_iff];omega
 refine ⟨_,_,_,rfl,fun a qj L=>?_,fun a FL a5=>?_⟩
 ·have a:¬J=0:=by have:=of_decide_eq_true a;omega
  rw [W] at a
  refine (eF (x:=Nat.gcd (aq b1 xs).natAbs (aq b2 ys).natAbs) (y:=(aq b3 zs).natAbs) (S.le L) (gc.le (g.trans (A.trans L))) Ry (by omega)).mono ?_
  rintro r vl fW ⟨ph,nh,ch,rfl,gh⟩
  refine ⟨_,_,_,rfl,fun BF X=>iI.mono ?_⟩
  rintro r sZ Y ⟨po,no,co,rfl,go⟩
  have Rx:(ae (Nat.gcd (Nat.gcd (aq b1 xs).natAbs (aq b2 ys).natAbs) (aq b3 zs).natAbs)).length<=1099511627776:=by
   have:=ay (Nat.gcd_le_left (aq b3 zs).natAbs (Nat.pos_of_ne_zero fun e=>a (U.1 e)));omega
  refine ⟨_,_,_,rfl,fun xo M=>(eW (x:=Nat.gcd (Nat.gcd (aq b1 xs).natAbs (aq b2 ys).natAbs) (aq b3 zs).natAbs) (y:=1) (gh.le (X.trans (Y.trans M))) (go.le M) Rx (by decide)).mono ?_⟩
  rintro r xp jP rfl
  have B:(ig (Nat.gcd (Nat.gcd (aq b1 xs).natAbs (aq b2 ys).natAbs) (aq b3 zs).natAbs) 1==0)=okL (AK b1 xs b2 ys b3 zs):=by
   unfold okL AK ij
   dsimp only
   rw [decide_eq_true a,Bool.true_and]
   rw [Bool.eq_iff_iff,beq_iff_eq,decide_eq_true_eq]
   exact fV
  refine ⟨_,rfl,fun FK Ex=>⟨_,by rw [ok,←B],⟨_,_,_,_,_,_,_,_,_,_,_,_,rfl⟩,fun _=>rl FK (L.trans (fW.trans (X.trans (Y.trans (M.trans (jP.trans Ex))))))⟩⟩
 ·have a:J=0:=by have:=of_decide_eq_false a;omega
  rw [W] at a
  have B:okL (AK b1 xs b2 ys b3 zs)=false:=by unfold okL AK;simp [a.1,a.2]
  exact ⟨_,by rw [ok,B],⟨_,_,_,_,_,_,_,_,_,_,_,_,rfl⟩,fun h=>by rw [ok,B] at h;cases h⟩
structure FW where
 b1:Bool
 xs:List Nat
 b2:Bool
 ys:List Nat
 b3:Bool
 zs:List Nat
 c1:Bool
 us:List Nat
 vs:List Nat
 c2:Bool
 ws:List Nat
 ts:List Nat
 na:Bool
 nb:Bool
def FW.ln (f:FW):L3:=AK f.b1 f.xs f.b2 f.ys f.b3 f.zs
def FW.sp (f:FW):Sp:=Lg f.c1 f.us f.vs f.c2 f.ws f.ts f.na f.nb
def FW.ok (f:FW):Bool:=gP f.b1 f.xs f.b2 f.ys f.b3 f.zs&&okW f.c1 f.us f.vs f.c2 f.ws f.ts f.na f.nb
structure FW.short (f:FW):Prop where
 x:f.xs.length<=1000000
 y:f.ys.length<=1000000
 z:f.zs.length<=1000000
 u:f.us.length<=1000000
 v:f.vs.length<=1000000
 w:f.ws.length<=1000000
 t:f.ts.length<=1000000
def LG (V:View)(v:Value)(f:FW):Prop:=∃p1 n1 d1 p2 n2 d2 p3 n3 d3 p n c p' n' c' q m e q' m' e',
 v=.agg #[.bool f.b1,.slice p1 n1 d1,.bool f.b2,.slice p2 n2 d2,.bool f.b3,.slice p3 n3 d3,.bool f.c1,.slice p n c,.slice p' n' c',.bool f.c2,.slice q m e,.slice q' m' e',.bool f.na,.bool f.nb] /\
 I9 V (.agg #[.bool f.b1,.slice p1 n1 d1,.bool f.b2,.slice p2 n2 d2,.bool f.b3,.slice p3 n3 d3]) f.b1 f.xs f.b2 f.ys f.b3 f.zs /\
 LI V (.agg #[.bool f.c1,.slice p n c,.slice p' n' c',.bool f.c2,.slice q m e,.slice q' m' e',.bool f.na,.bool f.nb]) f.c1 f.us f.vs f.c2 f.ws f.ts f.na f.nb
theorem LG.le {V V':View}{v:Value}{f:FW}(h:LG V v f)(l:V.Le V'):LG V' v f:=by
 obtain ⟨d,g,d1,i,j,d2,k,o,d3,p,n,c,r,s,t,q,m,e,u,w,x,rfl,a,b⟩:=h
 exact ⟨_,_,_,_,_,_,_,_,_,_,_,_,_,_,_,_,_,_,_,_,_,rfl,a.le l,b.le l⟩
theorem we {b:Bool}{xs:List Nat}(h:eo b xs=true):b=decide (aq b xs<0)/\xs=ae (aq b xs).natAbs:=by
 unfold eo at h
 simp only [Bool.and_eq_true,decide_eq_true_eq,Bool.or_eq_true,Bool.not_eq_true'] at h
 obtain ⟨a,c⟩:=h
 refine ⟨?_,by rw [cx,a]⟩
 cases b with
 | false=>simp [aq]
 | true=>
  have:xs≠[]:=by simpa using c
  have:val xs≠0:=fun e=>this (by rw [←a,e];rfl)
  simp [aq]
  omega
structure Ju (V:View) (p:OA) (n:Nat) (l:List Nat):Prop where
 len:n=l.length
 at_:∀(i:Nat)(h:i<l.length),∃ad q e,addrAdd p (i*1)=some ad/\V.at ad (.slice q l[i] e)
theorem Ju.le {V V':View}{p:OA}{n:Nat}{l:List Nat}(h:Ju V p n l)(e:V.Le V'):Ju V' p n l:=⟨h.len,fun i a=>by obtain ⟨b,q,c,d,f⟩:=h.at_ i a;exact ⟨b,q,c,d,e.at f⟩⟩
theorem FY {V:View}{p:OA}{n c:Nat}{l:List Nat}(N:Int)(h:Ju V p n l)(hn:l.length<1000000) :
  Acts prog 59 #[.int .i64 N,.slice p n c] V fun r V'=>∃b,r=.bool b/\(b=true->∀m∈l,(m:Int)<=N):=by
 obtain rfl:=h.len
 refine sM N p _ c V _ ⟨fun z _=>0<=z/\z<=l.length/\∀i (d:i<l.length),(i:Int)<z->((l[i]:Nat):Int)<=N,fun z=>(l.length-z).toNat,⟨0,by and_intros<;>rfl,by omega,by omega,fun i d h=>by omega⟩,?_⟩
 rintro z x o ⟨y,A,g⟩
 refine ⟨rfl,fun a=>?_,fun a B C=>⟨true,rfl,fun _ m hm=>?_⟩⟩
 ·have a:z<l.length:=of_decide_eq_true a
  obtain ⟨i,rfl⟩:∃i:Nat,z=i:=⟨z.toNat,by omega⟩
  have d:i<l.length:=by omega
  rw [Int.toNat_natCast]
  have w:i64.wrap ((i:Int)+1)=(i:Int)+1:=i64w (by omega)
  rw [w]
  obtain ⟨s,q,e,k,t⟩:=(h.le o).at_ i d
  refine ⟨yA k,⟨by omega,a⟩,q,l[i],e,⟨s,k,t⟩,fun f V2 D=>⟨false,rfl,(fun h=>nomatch h)⟩,fun f=>⟨(i:Int)+1,by dsimp only;omega,by and_intros<;>rfl,by omega,by omega,fun j u v=>?_⟩⟩
  have f:¬((l[i]:Nat):Int)>N:=of_decide_eq_false f
  by_cases e:j=i
  ·subst e;omega
  ·exact g j u (by omega)
 ·have a:¬z<l.length:=of_decide_eq_false a
  obtain ⟨i,d,rfl⟩:=List.mem_iff_getElem.1 hm
  exact g i d (by omega)
structure HK (V:View) (p:OA) (n:Nat) (l:List (Nat×Nat)):Prop where
 len:n=l.length
 at_:∀(i:Nat)(h:i<l.length),∃ad b q e q' e',addrAdd p (i*3)=some ad/\V.at (ad.add 0) (.bool b)/\V.at (ad.add 1) (.slice q l[i].1 e)/\V.at (ad.add 2) (.slice q' l[i].2 e')
theorem HK.le {V V':View}{p:OA}{n:Nat}{l:List (Nat×Nat)}(h:HK V p n l)(e:V.Le V'):HK V' p n l:=⟨h.len,fun i a=>by obtain ⟨d,b,q,c,f,g,j,k,m,o⟩:=h.at_ i a;exact ⟨d,b,q,c,f,g,j,e.at k,e.at m,e.at o⟩⟩
theorem DW {V:View}{bk c:Nat}{b1:Bool}{p1 n1 c1 b2 p2 n2 c2 b3 p3 n3 c3}{ty:TypeId}(N:Int)(h:V.aZ bk (.cells #[.bool b1,.slice p1 n1 c1,.bool b2,.slice p2 n2 c2,.bool b3,.slice p3 n3 c3] ty (0,0))) :
  Acts prog 25 #[.int .i64 N,.slice (some ⟨bk,0,none⟩) 1 c] V fun r V'=>∃b,r=.bool b/\(b=true->(n1:Int)<=N/\(n2:Int)<=N/\(n3:Int)<=N):=by
 have a:∀{g:View},V.Le g->∀(i:Nat)(x:Value),([Value.bool b1,.slice p1 n1 c1,.bool b2,.slice p2 n2 c2,.bool b3,.slice p3 n3 c3]:List Value)[i]?=some x->g.at ((⟨bk,0,none⟩:Addr).add i) x:=fun l i x j=>by rw [add_zero'];exact l.at (blk_at (xs:=[Value.bool b1,.slice p1 n1 c1,.bool b2,.slice p2 n2 c2,.bool b3,.slice p3 n3 c3]) h j)
 refine pU N _ 1 c V _ ⟨fun z _=>z=0\/(z=1/\((n1:Int)<=N/\(n2:Int)<=N/\(n3:Int)<=N)),fun z=>(1-z).toNat,⟨0,by and_intros<;>rfl,.inl rfl⟩,?_⟩
 rintro z g f p
 refine ⟨rfl,fun d=>?_,fun d t u=>⟨true,rfl,fun _=>?_⟩⟩
 ·have d:z<1:=of_decide_eq_true d
  obtain rfl:z=0:=by rcases p with h|h<;>omega
  have w:i64.wrap ((0:Int)+1)=1:=i64w (by omega)
  rw [w]
  refine ⟨rfl,⟨by omega,by omega⟩,_,_,_,_,_,_,_,_,_,_,_,_,(⟨bk,0,none⟩:Addr),by rfl,a f 0 _ rfl,a f 1 _ rfl,a f 2 _ rfl,a f 3 _ rfl,a f 4 _ rfl,a f 5 _ rfl,fun V2 y e k=>?_⟩
  have q:Ju V2 (some ⟨e,0,none⟩) 3 [n1,n2,n3]:=by
   refine ⟨rfl,fun i m=>?_⟩
   have n:=fun x j=>blk_at (i:=i) (v:=x) (xs:=[Value.slice p1 n1 c1,.slice p2 n2 c2,.slice p3 n3 c3]) k j
   have o:addrAdd (some ⟨e,0,none⟩) (i*1)=some ⟨e,i,none⟩:=by simp [addrAdd,add_zero']
   have m:i=0\/i=1\/i=2:=by have:i<3:=m;omega
   rcases m with rfl|rfl|rfl
   ·exact ⟨_,_,_,o,n _ rfl⟩
   ·exact ⟨_,_,_,o,n _ rfl⟩
   ·exact ⟨_,_,_,o,n _ rfl⟩
  refine (FY N q (by simp)).mono ?_
  rintro r A B ⟨b,rfl,s⟩
  refine ⟨_,rfl,fun J=>⟨fun h C D=>⟨false,rfl,(fun h=>nomatch h)⟩,fun h=>⟨1,by dsimp only;omega,by and_intros<;>rfl,.inr ⟨rfl,?_⟩⟩⟩⟩
  rw [Bool.not_eq_false'] at h
  have:=s h
  exact ⟨this n1 (by simp),this n2 (by simp),this n3 (by simp)⟩
 ·have d:¬z<1:=of_decide_eq_false d
  rcases p with h|h
  ·omega
  ·exact h.2
theorem mz (l:List Nd):∀(f:Nat)(n:Int)(s:RS),s.bad=true->(bO l f n s).2.bad=true
 | 0,_,_,h=>h
 | f+1,n,s,h=>by
  simp only [bO]
  split
  ·exact h
  ·split
   ·exact h
   ·split
    ·rfl
    ·split
     ·split
      ·exact mz l f _ _ (mz l f _ _ h)
      ·rfl
     ·rfl
def Rp (l:List Nd):Int->Tr->Prop
 | n,.leaf i=>n=(if i then -2 else -1)
 | n,.node ln a b=>∃(k:Nat)(x:Nd),n=(k:Int)/\l[k]?=some x/\x.ln=ln/\okL ln=true/\Rp l x.left a/\Rp l x.right b
theorem AW (l:List Nd):∀(f:Nat)(n:Int)(s:RS),s.seen.count false<f->(bO l f n s).2.bad=false->Rp l n (bO l f n s).1/\(bO l f n s).2.fH=s.fH+(bO l f n s).1.size
 | 0,_,_,h,_=>by omega
 | f+1,n,s,hf,h=>by
  simp only [bO] at h ⊢
  by_cases n2:n=-2
  ·rw [if_pos n2];exact ⟨n2,rfl⟩
  rw [if_neg n2] at h ⊢
  by_cases n1:n=-1
  ·rw [if_pos n1];exact ⟨n1,rfl⟩
  rw [if_neg n1] at h ⊢
  by_cases n0:n<0
  ·rw [if_pos n0] at h;cases h
  rw [if_neg n0] at h ⊢
  split at h
  ·rename_i x hx hs
   by_cases ho:okL x.ln=true
   ·rw [if_pos ho] at h ⊢
    dsimp only at h ⊢
    have hb:(bO l f x.left ⟨s.seen.set n.toNat true,s.fH+1,s.bad⟩).2.bad=false:=by
     cases e:(bO l f x.left ⟨s.seen.set n.toNat true,s.fH+1,s.bad⟩).2.bad
     ·rfl
     ·have:=mz l f x.right _ e
      rw [h] at this;cases this
    have b:=count_set hs
    obtain ⟨i1,i2⟩:=AW l f x.left _ (by dsimp only;omega) hb
    have hm:=(iP l f x.left ⟨s.seen.set n.toNat true,s.fH+1,s.bad⟩).1
    dsimp only at i2 hm
    obtain ⟨a,c⟩:=AW l f x.right _ (by omega) h
    exact ⟨⟨n.toNat,x,by omega,hx,rfl,ho,i1,a⟩,by simp only [Tr.size];omega⟩
   ·rw [if_neg ho] at h;cases h
  ·cases h
theorem IF {l:List Nd}{root:Int}{t:Tr}(h:ofT l root=some t):Rp l root t/\l.length=t.size/\t.All fun x=>okL x=true:=by
 unfold ofT at h
 split at h
 ·cases h
 ·dsimp only at h
  split at h
  ·cases h
  ·rename_i d
   cases h
   have c:(bO l (l.length+1) root ⟨List.replicate l.length false,0,false⟩).2.bad=false/\(bO l (l.length+1) root ⟨List.replicate l.length false,0,false⟩).2.fH=l.length:=by
    constructor
    ·cases e:(bO l (l.length+1) root ⟨List.replicate l.length false,0,false⟩).2.bad
     ·rfl
     ·exact absurd (.inl e) d
    ·by_cases e:(bO l (l.length+1) root ⟨List.replicate l.length false,0,false⟩).2.fH=l.length
     ·exact e
     ·exact absurd (.inr e) d
   obtain ⟨f,g⟩:=AW l (l.length+1) root ⟨List.replicate l.length false,0,false⟩ (by simp) c.1
   have ok:∀{t:Tr} {n:Int},Rp l n t->t.All fun x=>okL x=true:=by
    intro t
    induction t with
    | leaf i=>intro n _;trivial
    | node ln a b iha ihb=>rintro n ⟨k,x,_,_,_,j,m,d⟩;exact ⟨j,iha m,ihb d⟩
   refine ⟨f,?_,ok f⟩
   have:=c.2
   rw [g] at this
   dsimp only at this
   omega
theorem yO {l:List Nd}{root:Int}(hl:l.length<=65536):ofT l root=if (bO l (l.length+1) root ⟨List.replicate l.length false,0,false⟩).2.bad=false/\((bO l (l.length+1) root ⟨List.replicate l.length false,0,false⟩).2.seen.all id)=true then some (bO l (l.length+1) root ⟨List.replicate l.length false,0,false⟩).1 else none:=by
 have d:=qa l (l.length+1) root ⟨List.replicate l.length false,0,false⟩
 have c:(List.replicate l.length false).count false=l.length:=by simp
 dsimp only at d
 rw [c] at d
 unfold ofT
 rw [if_neg (by omega)]
 generalize bO l (l.length+1) root ⟨List.replicate l.length false,0,false⟩=r at *
 have e:(r.2.seen.all id)=true↔r.2.fH=l.length:=by
  have f:(r.2.seen.all id)=true↔r.2.seen.count false=0:=by
   rw [List.count_eq_zero,List.all_eq_true]
   constructor
   ·intro h hm;have:=h false hm;cases this
   ·intro h x g;cases x
    ·exact absurd g h
    ·rfl
  rw [f];omega
 dsimp only
 by_cases a:r.2.bad=true
 ·rw [if_pos (.inl a),if_neg (fun h=>by rw [a] at h;cases h.1)]
 ·have a:r.2.bad=false:=by simpa using a
  by_cases b:r.2.fH=l.length
  ·rw [if_neg (by rintro (h|h);rw [a] at h;cases h;exact h b),if_pos ⟨a,e.2 b⟩]
  ·rw [if_pos (.inr b),if_neg (fun h=>b (e.1 h.2))]
def jQ (l:List Nd):Nat->Int->List Bool->Option Tr×List Bool
 | 0,_,s=>(none,s)
 | f+1,n,s=>
  if n=-2 then (some (.leaf true),s) else if n=-1 then (some (.leaf false),s) else if n<0 then (none,s)
  else match l[n.toNat]?,s[n.toNat]? with
   | some x,some false=>
    if okL x.ln then
     match jQ l f x.left (s.set n.toNat true) with
     | (none,s1)=>(none,s1)
     | (some a,s1)=>match jQ l f x.right s1 with
      | (none,s2)=>(none,s2)
      | (some b,s2)=>(some (.node x.ln a b),s2)
    else (none,s.set n.toNat true)
   | _,_=>(none,s)
theorem wD (l:List Nd):∀(f:Nat)(n:Int)(s:List Bool)(c:Nat),s.count false<f ->
  ((bO l f n ⟨s,c,false⟩).2.bad=true->(jQ l f n s).1=none)/\((bO l f n ⟨s,c,false⟩).2.bad=false->jQ l f n s=(some (bO l f n ⟨s,c,false⟩).1,(bO l f n ⟨s,c,false⟩).2.seen))
 | 0,_,_,_,h=>by omega
 | f+1,n,s,c,hf=>by
  simp only [bO,jQ]
  by_cases n2:n=-2
  ·rw [if_pos n2,if_pos n2];exact ⟨(fun h=>by cases h),fun _=>rfl⟩
  rw [if_neg n2,if_neg n2]
  by_cases n1:n=-1
  ·rw [if_pos n1,if_pos n1];exact ⟨(fun h=>by cases h),fun _=>rfl⟩
  rw [if_neg n1,if_neg n1]
  by_cases n0:n<0
  ·rw [if_pos n0,if_pos n0];exact ⟨fun _=>rfl,(fun h=>by cases h)⟩
  rw [if_neg n0,if_neg n0]
  cases hx:l[n.toNat]? with
  | none=>dsimp only;exact ⟨fun _=>rfl,(fun h=>by cases h)⟩
  | some x=>
  cases hs:s[n.toNat]? with
  | none=>dsimp only;exact ⟨fun _=>rfl,(fun h=>by cases h)⟩
  | some b=>
  cases b with
  | true=>dsimp only;exact ⟨fun _=>rfl,(fun h=>by cases h)⟩
  | false=>
   dsimp only
   by_cases ho:okL x.ln=true
   ·rw [if_pos ho,if_pos ho]
    dsimp only
    have hc:=count_set hs
    obtain ⟨i1,i2⟩:=wD l f x.left (s.set n.toNat true) (c+1) (by omega)
    have hm:=(iP l f x.left ⟨s.set n.toNat true,c+1,false⟩).1
    dsimp only at hm
    generalize bO l f x.left ⟨s.set n.toNat true,c+1,false⟩=r1 at *
    obtain ⟨t1,s1,a,b1⟩:=r1
    dsimp only at i1 i2 hm ⊢
    cases b1 with
    | true=>
     have e:=i1 rfl
     have g:=mz l f x.right ⟨s1,a,true⟩ rfl
     refine ⟨fun _=>?_,fun h=>by rw [g] at h;cases h⟩
     generalize jQ l f x.left (s.set n.toNat true)=q at *
     obtain ⟨i,j⟩:=q
     dsimp only at e
     subst e
     rfl
    | false=>
     have e:=i2 rfl
     rw [e]
     dsimp only
     obtain ⟨k,m⟩:=wD l f x.right s1 a (by omega)
     refine ⟨fun h=>?_,fun h=>?_⟩
     ·have d:=k h
      generalize jQ l f x.right s1=q at *
      obtain ⟨i,j⟩:=q
      dsimp only at d
      subst d
      rfl
     ·rw [m h]
   ·rw [if_neg ho,if_neg ho]
    exact ⟨fun _=>rfl,(fun h=>by cases h)⟩
theorem Fc {l:List Nd}{root:Int}(hl:l.length<=65536):ofT l root=if (jQ l (l.length+1) root (List.replicate l.length false)).2.all id=true then (jQ l (l.length+1) root (List.replicate l.length false)).1 else none:=by
 rw [yO hl]
 obtain ⟨a,b⟩:=wD l (l.length+1) root (List.replicate l.length false) 0 (by simp)
 cases hb:(bO l (l.length+1) root ⟨List.replicate l.length false,0,false⟩).2.bad
 ·rw [b hb]
  dsimp only
  by_cases c:((bO l (l.length+1) root ⟨List.replicate l.length false,0,false⟩).2.seen.all id)=true
  ·rw [if_pos ⟨rfl,c⟩,if_pos c]
  ·rw [if_neg (fun h=>c h.2),if_neg c]
 ·rw [if_neg (fun h=>by cases h.1),a hb]
  split<;>rfl
theorem qc (l:List Nd):∀(f:Nat)(n:Int)(s:List Bool),(jQ l f n s).2.length=s.length/\(jQ l f n s).2.count false<=s.count false
 | 0,_,_=>⟨rfl,Nat.le_refl _⟩
 | f+1,n,s=>by
  simp only [jQ]
  split
  ·exact ⟨rfl,Nat.le_refl _⟩
  split
  ·exact ⟨rfl,Nat.le_refl _⟩
  split
  ·exact ⟨rfl,Nat.le_refl _⟩
  split
  ·rename_i x hx hs
   have hc:=count_set hs
   split
   ·have i1:=qc l f x.left (s.set n.toNat true)
    generalize jQ l f x.left (s.set n.toNat true)=q at *
    obtain ⟨d,c⟩:=q
    rw [List.length_set] at i1
    dsimp only at i1
    cases d with
    | none=>exact ⟨i1.1,by dsimp only;omega⟩
    | some a=>
     dsimp only
     have i2:=qc l f x.right c
     generalize jQ l f x.right c=r at *
     obtain ⟨e,g⟩:=r
     dsimp only at i2
     cases e with
     | none=>exact ⟨i2.1.trans i1.1,by dsimp only;omega⟩
     | some b=>exact ⟨i2.1.trans i1.1,by dsimp only;omega⟩
   ·exact ⟨List.length_set ..,by dsimp only;omega⟩
  ·exact ⟨rfl,Nat.le_refl _⟩
theorem wo (l:List Nd):∀(f:Nat)(n:Int)(s:RS),(bO l f n s).2.bad=false->∀i:Nat,(bO l f n s).2.seen[i]?=some true->s.seen[i]?=some true\/∃x:Nd,l[i]?=some x/\okL x.ln=true
 | 0,_,_,_,_,h=>.inl h
 | f+1,n,s,h,i,hi=>by
  simp only [bO] at h hi
  by_cases n2:n=-2
  ·rw [if_pos n2] at hi;exact .inl hi
  rw [if_neg n2] at h hi
  by_cases n1:n=-1
  ·rw [if_pos n1] at hi;exact .inl hi
  rw [if_neg n1] at h hi
  by_cases n0:n<0
  ·rw [if_pos n0] at h;cases h
  rw [if_neg n0] at h hi
  cases hx:l[n.toNat]? with
  | none=>rw [hx] at h;cases h
  | some x=>
  cases hs:s.seen[n.toNat]? with
  | none=>rw [hx,hs] at h;cases h
  | some b=>
  cases b with
  | true=>rw [hx,hs] at h;cases h
  | false=>
   rw [hx,hs] at h hi
   dsimp only at h hi
   by_cases ho:okL x.ln=true
   ·rw [if_pos ho] at h hi
    dsimp only at h hi
    have hb:(bO l f x.left ⟨s.seen.set n.toNat true,s.fH+1,s.bad⟩).2.bad=false:=by
     cases e:(bO l f x.left ⟨s.seen.set n.toNat true,s.fH+1,s.bad⟩).2.bad
     ·rfl
     ·have:=mz l f x.right _ e
      rw [h] at this;cases this
    rcases wo l f x.right _ h i hi with g|g
    ·rcases wo l f x.left _ hb i g with g|g
     ·dsimp only at g
      rw [List.getElem?_set] at g
      split at g
      ·rename_i e;subst e;exact .inr ⟨x,hx,ho⟩
      ·exact .inl g
     ·exact .inr g
    ·exact .inr g
   ·rw [if_neg ho] at h;cases h
theorem ofT_okl {l:List Nd}{root:Int}{t:Tr}(h:ofT l root=some t):∀x∈l,okL x.ln=true:=by
 have f:l.length<=65536:=by
  rcases Nat.lt_or_ge 65536 l.length with b|b
  ·unfold ofT at h;rw [if_pos b] at h;cases h
  ·exact b
 rw [yO f] at h
 split at h
 ·rename_i d
  intro x j
  obtain ⟨i,c,rfl⟩:=List.mem_iff_getElem.1 j
  have hm:=(iP l (l.length+1) root ⟨List.replicate l.length false,0,false⟩).2
  have k:(bO l (l.length+1) root ⟨List.replicate l.length false,0,false⟩).2.seen[i]?=some true:=by
   have a:i<(bO l (l.length+1) root ⟨List.replicate l.length false,0,false⟩).2.seen.length:=by rw [hm];simpa using c
   rw [List.getElem?_eq_getElem a]
   have:=List.all_eq_true.1 d.2 _ (List.getElem_mem a)
   exact congrArg some this
  rcases wo l _ root _ d.1 i k with g|⟨y,e,m⟩
  ·simp [c] at g
  ·rw [List.getElem?_eq_getElem c] at e;cases e;exact m
 ·cases h
def RT (V:View):OA->Tr->Prop
 | p,.leaf i=>∃(b:Nat)(c0 c1 c2 c3 c4 c5 c6 c7 c8:Value)(r:OA),p=some ⟨b,0,none⟩/\V.aZ b (.cells #[c0,c1,c2,c3,c4,c5,c6,c7,c8,.pointer none,.pointer r,.bool i] 122 (0,0))
 | p,.node l x y=>∃(b:Nat)(x1 x2:Int)(x3:OA)(y1 y2:Int)(y3:OA)(z1 z2:Int)(z3:OA)(pl pr:OA)(i:Bool),p=some ⟨b,0,none⟩ /\
   V.aZ b (.cells #[.int .i64 x1,.int .i64 x2,.pointer x3,.int .i64 y1,.int .i64 y2,.pointer y3,.int .i64 z1,.int .i64 z2,.pointer z3,.pointer pl,.pointer pr,.bool i] 122 (0,0)) /\
   pt V (.agg #[.int .i64 x1,.int .i64 x2,.pointer x3,.int .i64 y1,.int .i64 y2,.pointer y3,.int .i64 z1,.int .i64 z2,.pointer z3]) l.1 l.2.1 l.2.2/\RT V pl x/\RT V pr y
theorem RT.le {V V':View}(h:V.Le V'):∀{t:Tr} {p:OA},RT V p t->RT V' p t
 | .leaf i,p,⟨b,c0,c1,c2,c3,c4,c5,c6,c7,c8,r,e,hb⟩=>⟨b,c0,c1,c2,c3,c4,c5,c6,c7,c8,r,e,h _ _ hb⟩
 | .node l x y,p,⟨b,x1,x2,x3,y1,y2,y3,z1,z2,z3,pl,pr,i,e,hb,hl,hx,hy⟩=>⟨b,x1,x2,x3,y1,y2,y3,z1,z2,z3,pl,pr,i,e,h _ _ hb,hl.le h,RT.le h hx,RT.le h hy⟩
theorem RT.Jk {V:View}{t:Tr}{p:OA}(h:RT V p t):p.isSome=true:=by
 cases t with
 | leaf i=>obtain ⟨b,a,c,d,e,f,g,j,k,m,r,rfl,n⟩:=h;rfl
 | node l x y=>obtain ⟨b,o,q,s,u,v,w,z,A,B,pl,C,i,rfl,-⟩:=h;rfl
theorem eT {V:View}(i:Bool):Acts prog 175 #[.bool i] V fun r V'=>∃p,r=.pointer p/\RT V' p (.leaf i):=
 zw i V _ fun c d b a=>⟨_,rfl,b,_,_,_,_,_,_,_,_,_,_,rfl,a⟩
theorem c_bsp_IsLeaf {V:View}{p:OA}{t:Tr}(h:RT V p t):Acts prog 137 #[.pointer p] V fun r V'=>r=.bool t.Iq:=by
 cases t with
 | leaf i=>
  obtain ⟨b,g,j,k,m,n,o,q,s,u,r,rfl,c⟩:=h
  exact jI _ V _ ⟨rfl,rfl,_,rdc c 9 rfl,fun d e=>rfl⟩
 | node l x y=>
  obtain ⟨b,v,w,z,A,B,C,D,E,F,pl,G,i,rfl,c,H,f,I⟩:=h
  refine jI _ V _ ⟨rfl,rfl,_,rdc c 9 rfl,fun d e=>?_⟩
  have:=f.Jk
  cases pl with
  | none=>cases this
  | some a=>rfl
theorem Cx {V:View}{v:Value}{l:L3}{p q:OA}{x y:Tr}(hl:pt V v l.1 l.2.1 l.2.2)(hx:RT V p x)(hy:RT V q y) :
  Acts prog 176 #[v,.pointer p,.pointer q] V fun r V'=>∃p',r=.pointer p'/\RT V' p' (.node l x y):=by
 have a:=hl
 obtain ⟨e,f,g,h,i,j,k,m,n,rfl,-⟩:=hl
 exact Bf _ _ _ _ _ _ _ _ _ p q V _ fun o c b d=>⟨_,rfl,b,_,_,_,_,_,_,_,_,_,_,_,_,rfl,d,a.le c,hx.le c,hy.le c⟩
def DD (V:View)(v:Value)(l:L3):Prop:=RL V v l.1 l.2.1 l.2.2\/okL l=false/\∃b1 p n c xs b2 q m e ys b3 s i j zs,v=.agg #[.bool b1,.slice p n c,.bool b2,.slice q m e,.bool b3,.slice s i j]/\RD V p n c xs/\RD V q m e ys/\RD V s i j zs /\
 gP b1 xs b2 ys b3 zs=false/\(xs.length<=1000000/\ys.length<=1000000/\zs.length<=1000000)/\Sz 1000000 (aq b1 xs:Rat)/\Sz 1000000 (aq b2 ys:Rat)/\Sz 1000000 (aq b3 zs:Rat)
theorem DD.le {V V':View}{v:Value}{l:L3}(h:DD V v l)(e:V.Le V'):DD V' v l:=by
 rcases h with h|⟨a,b1,p,n,c,xs,b2,q,m,b,d,b3,s,i,j,f,g,k,o,r,t⟩
 ·exact .inl (h.le e)
 ·exact .inr ⟨a,b1,p,n,c,xs,b2,q,m,b,d,b3,s,i,j,f,g,k.le e,o.le e,r.le e,t⟩
theorem DD.ok {V:View}{v:Value}{l:L3}(h:DD V v l)(ho:okL l=true):RL V v l.1 l.2.1 l.2.2:=by
 rcases h with h|⟨h,-⟩
 ·exact h
 ·rw [ho] at h;cases h
theorem vG {V:View}{v:Value}{x:L3}(h:DD V v x)(hb:Bd x) :
  Acts prog 132 #[v] V fun r V'=>∃w,r=.tuple #[w,.bool (okL x)]/\FH w/\(okL x=true->pt V' w x.1 x.2.1 x.2.2):=by
 rcases h with h|⟨a,b1,p,n,c,xs,b2,q,m,l,o,b3,s,i,j,t,rfl,b,d,e,f,⟨u,y,z⟩,s1,s2,s3⟩
 ·exact xJ h hb
 ·refine (qB b1 b2 b3 b d e (by omega) (by omega) (by omega) s1 s2 s3 (by omega)).mono ?_
  rintro r V2 A ⟨w,rfl,g,k⟩
  rw [f] at k ⊢
  rw [a]
  exact ⟨w,rfl,g,fun h=>by cases h⟩
def NR (V:View)(vs:List Value)(l:List Nd):Prop:=∀(i:Nat)(d:Nd),l[i]?=some d->∃(b1:Bool)(p1:OA)(n1 c1:Nat)(b2:Bool)(p2:OA)(n2 c2:Nat)(b3:Bool)(p3:OA)(n3 c3:Nat),
 (∀j v,([.bool b1,.slice p1 n1 c1,.bool b2,.slice p2 n2 c2,.bool b3,.slice p3 n3 c3,.int .i64 d.left,.int .i64 d.right]:List Value)[j]?=some v->vs[i*8+j]?=some v) /\
 DD V (.agg #[.bool b1,.slice p1 n1 c1,.bool b2,.slice p2 n2 c2,.bool b3,.slice p3 n3 c3]) d.ln
theorem NR.le {V V':View}{vs:List Value}{l:List Nd}(h:NR V vs l)(hl:V.Le V'):NR V' vs l:=fun i d a=>by
 obtain ⟨b1,b,c,e,b2,f,g,j,b3,k,m,n,o,p⟩:=h i d a
 exact ⟨b1,b,c,e,b2,f,g,j,b3,k,m,n,o,p.le hl⟩
structure NS (V:View) (p:OA) (n c:Nat) (l:List Nd):Prop where
 len:n=l.length
 cap:n<=c
 row:∃vs,V.sl p vs/\NR V vs l
 C2:p.isNone=true->c=0
theorem NS.le {V V':View}{p:OA}{n c:Nat}{l:List Nd}(h:NS V p n c l)(hl:V.Le V'):NS V' p n c l:=by
 obtain ⟨a,b,⟨d,e,f⟩,g⟩:=h
 exact ⟨a,b,⟨d,hl.sl e,f.le hl⟩,g⟩
theorem NS.nil {V:View}:NS V none 0 0 []:=⟨rfl,Nat.le_refl _,⟨[],fun i v h=>by simp at h,fun i d h=>by simp at h⟩,fun _=>rfl⟩
theorem NS.Jk {V:View}{p:OA}{n c:Nat}{l:List Nd}(h:NS V p n c l)(hn:n≠0):p.isSome=true:=by
 cases p with
 | none=>have:=h.C2 rfl;have:=h.cap;omega
 | some a=>rfl
def dU (l:List Bool):List Value:=l.map .bool
theorem nA {l:List Bool}{i:Nat}{b:Bool}(h:l[i]?=some b):(dU l)[i]?=some (.bool b):=by simp [dU,h]
theorem NS.rd {V:View}{p:OA}{n c:Nat}{l:List Nd}(h:NS V p n c l){k:Nat}{d:Nd}(hd:l[k]?=some d) :
  ∃(b1:Bool)(p1:OA)(n1 c1:Nat)(b2:Bool)(p2:OA)(n2 c2:Nat)(b3:Bool)(p3:OA)(n3 c3:Nat)(a:Addr),addrAdd p (k*8)=some a /\
   V.at (a.add 0) (.bool b1)/\V.at (a.add 1) (.slice p1 n1 c1)/\V.at (a.add 2) (.bool b2)/\V.at (a.add 3) (.slice p2 n2 c2)/\V.at (a.add 4) (.bool b3)/\V.at (a.add 5) (.slice p3 n3 c3)/\V.at (a.add 6) (.int .i64 d.left)/\V.at (a.add 7) (.int .i64 d.right) /\
   DD V (.agg #[.bool b1,.slice p1 n1 c1,.bool b2,.slice p2 n2 c2,.bool b3,.slice p3 n3 c3]) d.ln:=by
 obtain ⟨s,b,g⟩:=h.row
 obtain ⟨b1,p1,n1,c1,b2,p2,n2,c2,b3,p3,n3,c3,f,i⟩:=g k d hd
 obtain ⟨m,rfl,-⟩:=b _ _ (f 0 _ rfl)
 have key:∀j v,([.bool b1,.slice p1 n1 c1,.bool b2,.slice p2 n2 c2,.bool b3,.slice p3 n3 c3,.int .i64 d.left,.int .i64 d.right]:List Value)[j]?=some v->V.at ((m.add (k*8)).add j) v:=by
  intro j v o
  obtain ⟨q,e,r⟩:=b _ _ (f j v o)
  cases e
  rw [addadd]
  exact r
 exact ⟨b1,p1,n1,c1,b2,p2,n2,c2,b3,p3,n3,c3,_,rfl,key 0 _ rfl,key 1 _ rfl,key 2 _ rfl,key 3 _ rfl,key 4 _ rfl,key 5 _ rfl,key 6 _ rfl,key 7 _ rfl,i⟩
theorem Af {l:List Nd}(hb:∀x∈l,Bd x.ln)(hlen:l.length<=65536):∀(f:Nat) (n:Int) (s:RS) {V:View} {rb sb:Nat} {FE:OA} {nc:Nat},NS V FE l.length nc l ->
  V.w.heap[rb]?=some (.cells #[.slice FE l.length nc,.slice (some ⟨sb,0,none⟩) l.length l.length,.int .i64 (s.fH:Int),.bool s.bad] 252 (0,0))->V.X rb ->
  V.w.heap[sb]?=some (.cells (dU s.seen).toArray 4 (0,0))->V.X sb->rb≠sb->s.seen.length=l.length->s.seen.count false<f->s.fH+s.seen.count false<=l.length ->
  Acts prog 136 #[.pointer (some ⟨rb,0,none⟩),.int .i64 n] V fun r V'=>∃p,r=.pointer p/\RT V' p (bO l f n s).1 /\
   V'.w.heap[rb]?=some (.cells #[.slice FE l.length nc,.slice (some ⟨sb,0,none⟩) l.length l.length,.int .i64 ((bO l f n s).2.fH:Int),.bool (bO l f n s).2.bad] 252 (0,0)) /\
   V'.w.heap[sb]?=some (.cells (dU (bO l f n s).2.seen).toArray 4 (0,0)):=by
 intro f
 induction f with
 | zero=>intro n s V rb sb FE nc _ _ _ _ _ _ _ h;omega
 | succ f ih=>
  intro n s V rb sb FE nc m P Q R S T E b8 b9
  refine lL rb sb FE l.length nc l.length l.length s.fH s.bad (dU s.seen) n V _ P Q R S T ⟨fun y V1 l1=>(eT _).mono ?_,fun y=>⟨fun D V4 l4=>(eT _).mono ?_,fun D=>⟨fun F V7 l7=>(eT _).mono ?_,fun F=>⟨fun K c0 c4=>(eT _).mono ?_,fun K=>?_⟩⟩⟩⟩
  ·rintro r V2 G ⟨p,rfl,d⟩
   have W:n=-2:=by simpa using y
   have e:bO l (f+1) n s=(.leaf true,s):=by simp [bO,W]
   rw [y] at d
   exact ⟨p,rfl,fun I j g c=>⟨p,rfl,by rw [e];exact d.le j,by rw [e];exact g,by rw [e];exact c⟩⟩
  ·rintro r V2 G ⟨p,rfl,d⟩
   have W:n=-1:=by simpa using D
   have e:bO l (f+1) n s=(.leaf false,s):=by simp [bO,W]
   rw [y] at d
   exact ⟨p,rfl,fun I j g c=>⟨p,rfl,by rw [e];exact d.le j,by rw [e];exact g,by rw [e];exact c⟩⟩
  ·rintro r V2 G ⟨p,rfl,d⟩
   have B:¬n=-2:=by simpa using y
   have C:¬n=-1:=by simpa using D
   have z:n<0:=by simpa using F
   have e:bO l (f+1) n s=(.leaf false,{ s with bad:=true }):=by simp [bO,B,C,z]
   exact ⟨p,rfl,fun I j g c=>⟨p,rfl,by rw [e];exact d.le j,by rw [e];exact g,by rw [e];exact c⟩⟩
  ·rintro r V2 G ⟨p,rfl,d⟩
   have B:¬n=-2:=by simpa using y
   have C:¬n=-1:=by simpa using D
   have z:¬n<0:=by simpa using F
   have L:(l.length:Int)<=n:=by simpa using K
   have e:bO l (f+1) n s=(.leaf false,{ s with bad:=true }):=by
    simp only [bO,B,C,z,if_false]
    rw [List.getElem?_eq_none (by omega)]
   exact ⟨p,rfl,fun I j g c=>⟨p,rfl,by rw [e];exact d.le j,by rw [e];exact g,by rw [e];exact c⟩⟩
  ·have B:¬n=-2:=by simpa using y
   have C:¬n=-1:=by simpa using D
   have z:¬n<0:=by simpa using F
   have L:n<(l.length:Int):=by simpa using K
   clear y D F K
   obtain ⟨k,rfl⟩:=Int.eq_ofNat_of_zero_le (Int.not_lt.1 z)
   have hk:k<l.length:=by omega
   have Y:k<s.seen.length:=by omega
   simp only [Int.toNat_natCast,Nat.mul_one,Nat.zero_add]
   have i:s.seen[k]?=some s.seen[k]:=List.getElem?_eq_getElem Y
   have t:l[k]?=some l[k]:=List.getElem?_eq_getElem hk
   refine ⟨⟨by omega,L⟩,s.seen[k],nA i,fun Z c5 c6=>(eT _).mono ?_,fun Z=>⟨⟨by omega,L⟩,by simp [dU];omega,m.Jk (by omega),⟨by omega,L⟩,?_⟩⟩
   ·rintro r V2 G ⟨p,rfl,d⟩
    have e:bO l (f+1) (k:Int) s=(.leaf false,{ s with bad:=true }):=by
     simp only [bO,B,C,z,if_false,Int.toNat_natCast]
     rw [i,Z,t]
    exact ⟨p,rfl,fun I j g c=>⟨p,rfl,by rw [e];exact d.le j,by rw [e];exact g,by rw [e];exact c⟩⟩
   ·obtain ⟨b1,p1,m1,c1,b2,p2,m2,c2,b3,p3,m3,c3,a,ha,a0,a1,a2,a3,a4,a5,a6,a7,hL⟩:=m.rd t
    refine ⟨b1,p1,m1,c1,b2,p2,m2,c2,b3,p3,m3,c3,_,_,a,ha,a0,a1,a2,a3,a4,a5,a6,a7,fun lV dB=>(vG (hL.le dB) (hb _ (List.getElem_mem hk))).mono ?_⟩
    rintro r oB df ⟨w,rfl,⟨x1,x2,x3,y1,y2,y3,z1,z2,z3,rfl⟩,hw⟩
    rw [Z] at i
    have J:(dU s.seen).set k (.bool true)=dU (s.seen.set k true):=by simp [dU,List.map_set]
    have M:=count_set i
    have w1:i64.wrap ((s.fH:Int)+1)=((s.fH+1:Nat):Int):=by rw [i64w (by omega)];omega
    rw [J,w1]
    refine ⟨_,_,_,_,_,_,_,_,_,_,rfl,fun A qj eQ=>(eT _).mono ?_,fun A sZ gN a8 a9 g c g3 g4 g5=>?_⟩
    ·rintro r V2 G ⟨p,rfl,d⟩
     have A:okL l[k].ln=false:=by simpa using A
     have e:bO l (f+1) (k:Int) s=(.leaf false,⟨s.seen.set k true,s.fH+1,true⟩):=by
      simp only [bO,B,C,z,if_false,Int.toNat_natCast]
      rw [i,t]
      simp [A]
     exact ⟨p,rfl,fun I j g c=>⟨p,rfl,by rw [e];exact d.le j,by rw [e];exact g,by rw [e];exact c⟩⟩
    ·have A:okL l[k].ln=true:=by simpa using A
     have lv:V.Le sZ:=dB.trans (df.trans gN)
     have N:∀(U:View)(u v:Nat),U.H u->U.H v->(U.lend [u,v]).X u/\(U.lend [u,v]).X v:=fun U u v hu hv=>⟨⟨by simp,hu⟩,⟨by simp,hv⟩⟩
     have i1:=ih l[k].left ⟨s.seen.set k true,s.fH+1,s.bad⟩ (V:=sZ.lend [a8,a9]) (m.le lv) g (N _ _ _ c g4).1 g3 (N _ _ _ c g4).2 g5 (by simp [E]) (by dsimp only;omega) (by dsimp only;omega)
     have hm:=iP l f l[k].left ⟨s.seen.set k true,s.fH+1,s.bad⟩
     have b0:=qa l f l[k].left ⟨s.seen.set k true,s.fH+1,s.bad⟩
     have e:bO l (f+1) (k:Int) s=(.node l[k].ln (bO l f l[k].left ⟨s.seen.set k true,s.fH+1,s.bad⟩).1 (bO l f l[k].right (bO l f l[k].left ⟨s.seen.set k true,s.fH+1,s.bad⟩).2).1,(bO l f l[k].right (bO l f l[k].left ⟨s.seen.set k true,s.fH+1,s.bad⟩).2).2):=by
      simp only [bO,B,C,z,if_false,Int.toNat_natCast]
      rw [i,t]
      simp [A]
     rw [e]
     clear e
     dsimp only
     generalize bO l f l[k].left ⟨s.seen.set k true,s.fH+1,s.bad⟩=q1 at *
     obtain ⟨t1,s1⟩:=q1
     dsimp only at i1 hm b0 ⊢
     refine i1.mono ?_
     rintro r xo kQ ⟨p,rfl,d,e1,e2⟩
     refine ⟨p,rfl,_,_,_,_,_,e1,_,e2,fun O jP MB b5 f1 f2 f3 f4 f5=>?_⟩
     have PC:sZ.Le O:=fun b o h=>jP b o (kQ b o h)
     have i2:=ih l[k].right s1 (V:=O.lend [MB,b5]) (m.le (lv.trans PC)) f1 (N _ _ _ f2 f4).1 f3 (N _ _ _ f2 f4).2 f5 (by rw [hm.2];simp [E]) (by omega) (by omega)
     generalize bO l f l[k].right s1=q2 at *
     obtain ⟨t2,s2⟩:=q2
     dsimp only at i2 ⊢
     refine i2.mono ?_
     rintro r FK Ex ⟨q,rfl,hq,e3,e4⟩
     refine ⟨q,rfl,_,_,_,_,_,e3,_,e4,fun FL b6=>?_⟩
     have Ku:O.Le FK:=fun b o h=>Ex b o h
     have Iv:FK.Le FL:=fun b o h=>b6 b o h
     have lw:oB.Le FL:=gN.trans (PC.trans (Ku.trans Iv))
     have Nn:xo.Le O:=fun b o h=>jP b o h
     refine (Cx ((hw A).le lw) (d.le (Nn.trans (Ku.trans Iv))) (hq.le Iv)).mono ?_
     rintro r LM c7 ⟨u,rfl,hu⟩
     exact ⟨u,rfl,fun LN b7 g c=>⟨u,rfl,hu.le b7,g,c⟩⟩
theorem DX {V:View}{l:List Nd}(hb:∀x∈l,Bd x.ln){p:OA}{n c:Nat}(root:Int)(h:NS V p n c l) :
  Acts prog 93 #[.agg #[.int .i64 root,.slice p n c]] V fun r V'=>(ofT l root=none->∃q,r=.tuple #[.pointer q,.bool false])/\(∀t,ofT l root=some t->∃q,r=.tuple #[.pointer q,.bool true]/\RT V' q t):=by
 have v:=h.len
 subst v
 refine Dq root p l.length c V _ ⟨fun a J K=>?_,fun a=>⟨by omega,Int.le_refl _,?_,fun V2 w j k u y m z A=>?_⟩⟩
 ·have a:65536<l.length:=by simp at a;omega
  have e:ofT l root=none:=by unfold ofT;rw [if_pos a]
  exact ⟨fun _=>⟨_,rfl⟩,fun t d=>by rw [e] at d;cases d⟩
 ·have a:¬65536<l.length:=by simp at a;omega
  omega
 ·have a:¬65536<l.length:=by simp at a;omega
  simp only [Int.toNat_natCast] at u m ⊢
  have B:List.replicate l.length (Value.bool false)=dU (List.replicate l.length false):=by simp [dU]
  rw [B] at m
  have C:(List.replicate l.length false).count false=l.length:=by simp
  refine (Af hb (by omega) (l.length+1) root ⟨List.replicate l.length false,0,false⟩ (V:=V2.lend [j,k]) (h.le w) u ⟨by simp,y⟩ m ⟨by simp,z⟩ A (by simp) (by dsimp only;omega) (by dsimp only;omega)).mono ?_
  rintro r D L ⟨q,rfl,E,F,G⟩
  have g:ofT l root=if (bO l (l.length+1) root ⟨List.replicate l.length false,0,false⟩).2.bad=true\/(bO l (l.length+1) root ⟨List.replicate l.length false,0,false⟩).2.fH≠l.length then none else some (bO l (l.length+1) root ⟨List.replicate l.length false,0,false⟩).1:=by
   unfold ofT;rw [if_neg a]
  rw [g]
  clear g
  generalize bO l (l.length+1) root ⟨List.replicate l.length false,0,false⟩=r0 at *
  obtain ⟨t,s⟩:=r0
  refine ⟨q,rfl,_,_,_,_,_,F,_,G,fun i M N=>?_,fun i=>⟨fun f O P=>?_,fun f H I=>?_⟩⟩
  ·rw [if_pos (.inl i)]
   exact ⟨fun _=>⟨_,rfl⟩,fun t d=>by cases d⟩
  ·have f:s.fH≠l.length:=by simp at f;omega
   rw [if_pos (.inr f)]
   exact ⟨fun _=>⟨_,rfl⟩,fun t d=>by cases d⟩
  ·have f:s.fH=l.length:=by simp at f;omega
   dsimp only at i ⊢
   rw [if_neg (by rw [i,f];simp)]
   exact ⟨fun e=>(by cases e),fun t1 d=>by cases d;exact ⟨q,rfl,RT.le (V:=D) (V':=H) (fun b o h=>I b o h) E⟩⟩
theorem vb_ne {vs:List Value}{n b:Nat}(h:vs≠[]):vb vs n b=b:=by cases vs with|nil=>exact absurd rfl h|cons v r=>rfl
theorem NR.push {V:View}{vs sp:List Value}{l:List Nd}(h:NR V vs l)(hl:l.length*8<=vs.length){ln:L3}{x y:Int}{b1:Bool}{p1:OA}{n1 c1:Nat}{b2:Bool}{p2:OA}{n2 c2:Nat}{b3:Bool}{p3:OA}{n3 c3:Nat}
  (hL:RL V (.agg #[.bool b1,.slice p1 n1 c1,.bool b2,.slice p2 n2 c2,.bool b3,.slice p3 n3 c3]) ln.1 ln.2.1 ln.2.2) :
  NR V (vs.take (l.length*8)++[.bool b1,.slice p1 n1 c1,.bool b2,.slice p2 n2 c2,.bool b3,.slice p3 n3 c3,.int .i64 x,.int .i64 y]++sp) (l++[⟨ln,x,y⟩]):=by
 intro i d b
 rcases Nat.lt_or_ge i l.length with e|e
 ·rw [List.getElem?_append_left e] at b
  obtain ⟨f,s,g,k,m,t,u,n,o,w,z,p,A,B⟩:=h i d b
  refine ⟨f,s,g,k,m,t,u,n,o,w,z,p,fun j v c=>?_,B⟩
  have a:j<8:=by
   rcases Nat.lt_or_ge j 8 with a|a
   ·exact a
   ·rw [List.getElem?_eq_none (by simpa using a)] at c;cases c
  have:=A j v c
  rw [List.append_assoc,List.getElem?_append_left (by rw [List.length_take];omega),List.getElem?_take,if_pos (by omega)]
  exact this
 ·rw [List.getElem?_append_right e] at b
  have q:i=l.length:=by
   rcases Nat.lt_or_ge (i-l.length) 1 with r|r
   ·omega
   ·rw [List.getElem?_eq_none (by simpa using r)] at b;cases b
  subst q
  simp only [Nat.sub_self,List.getElem?_cons_zero,Option.some.injEq] at b
  subst b
  refine ⟨b1,p1,n1,c1,b2,p2,n2,c2,b3,p3,n3,c3,fun j v c=>?_,.inl hL⟩
  have a:j<8:=by
   rcases Nat.lt_or_ge j 8 with a|a
   ·exact a
   ·rw [List.getElem?_eq_none (by simpa using a)] at c;cases c
  rw [List.append_assoc,List.getElem?_append_right (by rw [List.length_take];omega),List.length_take,Nat.min_eq_left hl,Nat.add_sub_cancel_left,List.getElem?_append_left (by simpa using a)]
  exact c
theorem NR.N5 {V:View}{vs:List Value}{l:List Nd}(h:NR V vs l){k:Nat}{d:Nd}(hd:l[k]?=some d){x:Int}:NR V (vs.set (k*8+6) (.int .i64 x)) (l.set k ⟨d.ln,x,d.right⟩):=by
 intro i z b
 rw [List.getElem?_set] at b
 split at b
 ·rename_i e
  subst e
  split at b
  ·cases b
   obtain ⟨b1,g,m,o,b2,p,q,r,b3,s,t,u,f,w⟩:=h k d hd
   refine ⟨b1,g,m,o,b2,p,q,r,b3,s,t,u,fun j v a=>?_,w⟩
   rw [List.getElem?_set]
   by_cases c:j=6
   ·subst c
    have:=f 6 _ rfl
    have y:k*8+6<vs.length:=by
     rcases Nat.lt_or_ge (k*8+6) vs.length with h|h
     ·exact h
     ·rw [List.getElem?_eq_none h] at this;cases this
    rw [if_pos rfl,if_pos y]
    exact a
   ·rw [if_neg (by omega)]
    refine f j v ?_
    match j,c,a with
    | 0,_,a=>exact a
    | 1,_,a=>exact a
    | 2,_,a=>exact a
    | 3,_,a=>exact a
    | 4,_,a=>exact a
    | 5,_,a=>exact a
    | 6,c,_=>exact absurd rfl c
    | 7,_,a=>exact a
    | n+8,_,a=>exact a
  ·cases b
 ·rename_i e
  obtain ⟨b1,g,m,o,b2,p,q,r,b3,s,t,u,f,w⟩:=h i z b
  refine ⟨b1,g,m,o,b2,p,q,r,b3,s,t,u,fun j v a=>?_,w⟩
  have c:j<8:=by
   rcases Nat.lt_or_ge j 8 with c|c
   ·exact c
   ·rw [List.getElem?_eq_none (by simpa using c)] at a;cases a
  rw [List.getElem?_set_ne (by omega)]
  exact f j v a
theorem NR.take {V:View}{vs:List Value}{l:List Nd}(h:NR V vs l):NR V (vs.take (l.length*8)) l:=by
 intro i d b
 obtain ⟨b1,e,f,g,b2,k,m,n,b3,o,p,q,r,s⟩:=h i d b
 refine ⟨b1,e,f,g,b2,k,m,n,b3,o,p,q,fun j v c=>?_,s⟩
 have a:j<8:=by
  rcases Nat.lt_or_ge j 8 with a|a
  ·exact a
  ·rw [List.getElem?_eq_none (by simpa using a)] at c;cases c
 have t:i<l.length:=by
  rcases Nat.lt_or_ge i l.length with h|h
  ·exact h
  ·rw [List.getElem?_eq_none h] at b;cases b
 rw [List.getElem?_take,if_pos (by omega)]
 exact r j v c
theorem NS.ofRow {V:View}{b c:Nat}{vm:List Value}{l:List Nd}{ty:TypeId}(hb:vm≠[]->V.aZ b (.cells vm.toArray ty (0,0)))(hc:l.length<=c)(hr:NR V vm l):NS V (mA b c) l.length c l:=by
 refine ⟨rfl,hc,⟨_,?_,hr.take⟩,?_⟩
 ·intro i v a
  rw [List.getElem?_take] at a
  split at a
  ·rename_i f
   have d:vm≠[]:=fun e=>by rw [e] at a;simp at a
   refine ⟨⟨b,0,none⟩,by unfold mA;rw [if_neg (by omega)],?_⟩
   rw [add_zero']
   exact blk_at (hb d) a
  ·cases a
 ·intro e
  unfold mA at e
  split at e
  ·assumption
  ·cases e
end Go.Proofs.Tryz
namespace Go.Proofs.Tryz
open Go.Eng
def Sent (V:View)(g:Nat)(y:Value):Prop:=V.at ⟨g,0,none⟩ y
theorem Sent.le {V V':View}{g:Nat}{y:Value}(h:Sent V g y)(l:V.Le V'):Sent V' g y:=l.at h
def SErr (y:Value):Prop:=∃a:Addr,y=.iface 335 (.pointer (some a))
end Go.Proofs.Tryz
namespace Go.Proofs.Tryz
open Go.Eng Go.Big
def Mv (V:View)(vs:List Value)(ts:List Tr):Prop:=∀(i:Nat)(t:Tr),ts[i]?=some t->∃p,vs[i]?=some (.pointer p)/\RT V p t
theorem Mv.le {V V':View}{vs:List Value}{ts:List Tr}(h:Mv V vs ts)(l:V.Le V'):Mv V' vs ts:=fun i t a=>by
 obtain ⟨p,b,c⟩:=h i t a
 exact ⟨p,b,c.le l⟩
def AT (V:View)(v:Value)(root:Int)(l:List Nd):Prop:=∃q n c,v=.agg #[.int .i64 root,.slice q n c]/\NS V q n c l
theorem AT.le {V V':View}{v:Value}{root:Int}{l:List Nd}(h:AT V v root l)(hl:V.Le V'):AT V' v root l:=by
 obtain ⟨q,n,c,e,h⟩:=h;exact ⟨q,n,c,e,h.le hl⟩
theorem AT.zero {V:View}:AT V (.agg #[.int .i64 0,.slice none 0 0]) 0 []:=⟨_,_,_,rfl,NS.nil⟩
end Go.Proofs.Tryz
namespace Go.Proofs.Tryz
open Go.Eng
set_option maxRecDepth 100000
end Go.Proofs.Tryz
namespace Go.Proofs.Tryz
open Go.Eng Go.Big
def RW (V:View):OA->Tr->Prop
 | p,.leaf i=>∃(b:Nat)(c2 c3 c4 c5 c6 c7 c8 c9:Value),p=some ⟨b,0,none⟩/\V.aZ b (.cells #[.bool true,.bool i,c2,c3,c4,c5,c6,c7,c8,c9] 107 (0,0))
 | p,.node l x y=>∃(b:Nat)(i:Bool)(b1:Bool)(p1:OA)(n1 c1:Nat)(b2:Bool)(p2:OA)(n2 c2:Nat)(b3:Bool)(p3:OA)(n3 c3:Nat)(pl pr:OA),p=some ⟨b,0,none⟩ /\
   V.aZ b (.cells #[.bool false,.bool i,.bool b1,.slice p1 n1 c1,.bool b2,.slice p2 n2 c2,.bool b3,.slice p3 n3 c3,.pointer pl,.pointer pr] 107 (0,0)) /\
   RL V (.agg #[.bool b1,.slice p1 n1 c1,.bool b2,.slice p2 n2 c2,.bool b3,.slice p3 n3 c3]) l.1 l.2.1 l.2.2/\RW V pl x/\RW V pr y
theorem RW.le {V V':View}(h:V.Le V'):∀{t:Tr} {p:OA},RW V p t->RW V' p t
 | .leaf i,p,⟨b,c2,c3,c4,c5,c6,c7,c8,c9,e,hb⟩=>⟨b,c2,c3,c4,c5,c6,c7,c8,c9,e,h _ _ hb⟩
 | .node l x y,p,⟨b,i,b1,p1,n1,c1,b2,p2,n2,c2,b3,p3,n3,c3,pl,pr,e,hb,hl,hx,hy⟩=>⟨b,i,b1,p1,n1,c1,b2,p2,n2,c2,b3,p3,n3,c3,pl,pr,e,h _ _ hb,hl.le h,RW.le h hx,RW.le h hy⟩
def Okb (x:L3):Prop:=okL x=true/\Bd x
theorem vJ {V:View}{v:Value}{x:L3}(h:DD V v x)(hb:Bd x) :
  Acts prog 111 #[v] V fun r V'=>∃w,r=.tuple #[w,.bool (okL x)]/\Mo w/\(okL x=true->RL V' w x.1 x.2.1 x.2.2):=by
 rcases h with h|⟨g,b1,p,n,c,xs,b2,q,m,k,D,b3,s,i,j,E,rfl,a,b,d,l,⟨o,t,u⟩,s1,s2,s3⟩
 ·obtain ⟨p,n,s,y,z,A,q,m,e,rfl,a,b,d⟩:=h
  obtain ⟨d1,d2,d3⟩:=hb.ae
  have f:=qF (V:=V) (b1:=decide (x.1<0)) (b2:=decide (x.2.1<0)) (b3:=decide (x.2.2<0)) ⟨p,n,s,y,z,A,q,m,e,rfl,a,b,d⟩ (by omega) (by omega) (by omega)
  rw [mw,au,au,au] at f
  exact f
 ·refine (qF ⟨p,n,c,q,m,k,s,i,j,rfl,a,b,d⟩ o t u).mono ?_
  rintro r V2 F ⟨w,rfl,B,C⟩
  rw [l] at C ⊢
  rw [g]
  exact ⟨w,rfl,B,fun h=>by cases h⟩
theorem vL {l:List Nd}(hb:∀x∈l,Bd x.ln)(hlen:l.length<=65536)(t0:Int){FE:OA}{nc:Nat}:∀(f:Nat) (n:Int) (s:List Bool) {V:View} {lb:Nat},NS V FE l.length nc l ->
  V.w.heap[lb]?=some (.cells (dU s).toArray 4 (0,0))->V.X lb->s.length=l.length->s.count false<f ->
  Acts prog 60 #[.agg #[.int .i64 t0,.slice FE l.length nc],.int .i64 n,.slice (some ⟨lb,0,none⟩) l.length l.length] V fun r V'=>∃p,r=.tuple #[.pointer p,.bool (jQ l f n s).1.isSome]/\(∀t,(jQ l f n s).1=some t->RW V' p t) /\
   V'.w.heap[lb]?=some (.cells (dU (jQ l f n s).2).toArray 4 (0,0)):=by
 intro f
 induction f with
 | zero=>intro n s V lb _ _ _ _ h;omega
 | succ f ih=>
  intro n s V lb i hw hx O b6
  refine tV t0 FE l.length nc n lb l.length l.length (dU s) V _ hw hx ⟨fun q V1 l1 H m d=>?_,fun q=>⟨fun F V2 l2 H m d=>?_,fun F=>⟨fun I V3 l3 m=>?_,fun I=>⟨fun M V4 l4 m=>?_,fun M=>?_⟩⟩⟩⟩
  ·have P:n=-2:=by simpa using q
   have e:jQ l (f+1) n s=(some (.leaf true),s):=by simp [jQ,P]
   rw [q] at d
   rw [e]
   exact ⟨_,rfl,fun t c=>by cases c;exact ⟨H,_,_,_,_,_,_,_,_,rfl,d⟩,m⟩
  ·have y:¬n=-2:=by simpa using q
   have P:n=-1:=by simpa using F
   have e:jQ l (f+1) n s=(some (.leaf false),s):=by simp [jQ,P]
   rw [q] at d
   rw [e]
   exact ⟨_,rfl,fun t c=>by cases c;exact ⟨H,_,_,_,_,_,_,_,_,rfl,d⟩,m⟩
  ·have y:¬n=-2:=by simpa using q
   have C:¬n=-1:=by simpa using F
   have A:n<0:=by simpa using I
   have e:jQ l (f+1) n s=(none,s):=by simp [jQ,y,C,A]
   rw [e]
   exact ⟨_,rfl,(fun t c=>by cases c),m⟩
  ·have y:¬n=-2:=by simpa using q
   have C:¬n=-1:=by simpa using F
   have A:¬n<0:=by simpa using I
   have G:(l.length:Int)<=n:=by simpa using M
   have e:jQ l (f+1) n s=(none,s):=by
    simp only [jQ,y,C,A,if_false]
    rw [List.getElem?_eq_none (by omega)]
   rw [e]
   exact ⟨_,rfl,(fun t c=>by cases c),m⟩
  ·have y:¬n=-2:=by simpa using q
   have C:¬n=-1:=by simpa using F
   have A:¬n<0:=by simpa using I
   have G:n<(l.length:Int):=by simpa using M
   clear q F I M
   obtain ⟨k,rfl⟩:=Int.eq_ofNat_of_zero_le (Int.not_lt.1 A)
   have hk:k<l.length:=by omega
   have Q:k<s.length:=by omega
   simp only [Int.toNat_natCast,Nat.mul_one,Nat.zero_add]
   have j:s[k]?=some s[k]:=List.getElem?_eq_getElem Q
   have v:l[k]?=some l[k]:=List.getElem?_eq_getElem hk
   refine ⟨⟨by omega,G⟩,s[k],nA j,fun R V5 l5 m=>?_,fun R=>?_⟩
   ·have e:jQ l (f+1) (k:Int) s=(none,s):=by
     simp only [jQ,y,C,A,if_false,Int.toNat_natCast]
     rw [j,R,v]
    rw [e]
    exact ⟨_,rfl,(fun t c=>by cases c),m⟩
   obtain ⟨b1,p1,m1,c1,b2,p2,m2,c2,b3,p3,m3,c3,a,ha,a0,a1,a2,a3,a4,a5,a6,a7,hL⟩:=i.rd v
   rw [ha]
   rw [R] at j
   have J:(dU s).set k (.bool true)=dU (s.set k true):=by simp [dU,List.map_set]
   have N:=count_set j
   rw [J]
   refine ⟨⟨by omega,G⟩,by simp [dU];omega,i.Jk (by omega),⟨by omega,G⟩,rfl,b1,p1,m1,c1,b2,p2,m2,c2,b3,p3,m3,c3,a,rfl,a0,a1,a2,a3,a4,a5,fun V6 l6=>(vJ (hL.le l6) (hb _ (List.getElem_mem hk))).mono ?_⟩
   rintro r V7 l7 ⟨w,rfl,⟨y1,y2,y3,y4,y5,y6,y7,y8,y9,Tl,Tn,To,rfl⟩,S⟩
   have Jl:=l6.trans l7
   refine ⟨_,_,_,_,_,_,_,_,_,_,_,_,_,rfl,fun B V8 l8 m=>?_,fun B=>⟨i.Jk (by omega),⟨by omega,G⟩,rfl,l[k].left,⟨_,rfl,Jl.at a6⟩,fun T l9 H g1 g2=>?_⟩⟩
   ·have B:okL l[k].ln=false:=by simpa using B
    have e:jQ l (f+1) (k:Int) s=(none,s.set k true):=by
     simp only [jQ,y,C,A,if_false,Int.toNat_natCast]
     rw [j,v]
     simp [B]
    rw [e]
    exact ⟨_,rfl,(fun t c=>by cases c),m⟩
   have B:okL l[k].ln=true:=by simpa using B
   have U:=Jl.trans l9
   have i1:=ih l[k].left (s.set k true) (V:=T.lend [H]) (i.le U) g1 ⟨by simp,g2⟩ (by simp [O]) (by omega)
   have q1:=qc l f l[k].left (s.set k true)
   rw [List.length_set] at q1
   have e:jQ l (f+1) (k:Int) s=match jQ l f l[k].left (s.set k true) with
     | (none,s1)=>(none,s1)
     | (some a,s1)=>match jQ l f l[k].right s1 with
      | (none,s2)=>(none,s2)
      | (some b,s2)=>(some (.node l[k].ln a b),s2):=by
    simp only [jQ,y,C,A,if_false,Int.toNat_natCast]
    rw [j,v]
    simp only [B,if_true]
    try rfl
   rw [e]
   clear e
   generalize jQ l f l[k].left (s.set k true)=u at *
   obtain ⟨u1,u2⟩:=u
   dsimp only at i1 q1
   refine i1.mono ?_
   rintro r D K ⟨pa,rfl,W,e2⟩
   refine ⟨_,_,rfl,_,e2,fun Y b7 b8 e3=>?_,fun Y=>⟨i.Jk (by omega),⟨by omega,G⟩,rfl,l[k].right,⟨_,rfl,?_⟩,fun E Z Qz g3 g4=>?_⟩⟩
   ·cases u1 with
    | none=>exact ⟨_,rfl,(fun t c=>by cases c),e3⟩
    | some t=>cases Y
   ·have g:T.Le D:=fun b o h=>K b o h
    exact (U.trans g).at a7
   cases u1 with
   | none=>cases Y
   | some ta=>
    have g:T.Le D:=fun b o h=>K b o h
    have Eu:D.Le E:=fun b o h=>Z b o h
    have i2:=ih l[k].right u2 (V:=E.lend [Qz]) (i.le (U.trans (g.trans Eu))) g3 ⟨by simp,g4⟩ (by omega) (by omega)
    dsimp only
    generalize jQ l f l[k].right u2=z at *
    obtain ⟨z1,z2⟩:=z
    dsimp only at i2
    refine i2.mono ?_
    rintro r L a8 ⟨pb,rfl,a9,e4⟩
    have Hz:E.Le L:=fun b o h=>a8 b o h
    refine ⟨_,_,rfl,_,e4,fun b0 eh b5 e5 d=>?_⟩
    have Ev:L.Le b0:=fun b o h=>eh b o h
    cases z1 with
    | none=>exact ⟨_,rfl,(fun t c=>by cases c),e5⟩
    | some tb=>
     refine ⟨_,rfl,fun t c=>?_,e5⟩
     cases c
     exact ⟨b5,_,_,_,_,_,_,_,_,_,_,_,_,_,_,_,rfl,d,(S B).le (l9.trans (g.trans (Eu.trans (Hz.trans Ev)))),RW.le (Eu.trans (Hz.trans Ev)) (W _ rfl),RW.le Ev (a9 _ rfl)⟩
theorem vK {V:View}{l:List Nd}(hb:∀x∈l,Bd x.ln)(root:Int){p:OA}{n c:Nat}(h:NS V p n c l) :
  Acts prog 26 #[.agg #[.int .i64 root,.slice p n c]] V fun r V'=>∃q,r=.tuple #[.pointer q,.bool (ofT l root).isSome]/\∀t,ofT l root=some t->RW V' q t:=by
 have y:=h.len
 subst y
 refine tU root p l.length c V _ ⟨fun f L M=>?_,fun f=>⟨by omega,Int.le_refl _,?_,fun V2 A B j C=>?_⟩⟩
 ·have f:65536<l.length:=by simp at f;omega
  have e:ofT l root=none:=by unfold ofT;rw [if_pos f]
  rw [e]
  exact ⟨_,rfl,fun t g=>by cases g⟩
 ·have f:¬65536<l.length:=by simp at f;omega
  omega
 ·have f:¬65536<l.length:=by simp at f;omega
  rw [Int.toNat_natCast] at j ⊢
  have D:List.replicate l.length (Value.bool false)=dU (List.replicate l.length false):=by simp [dU]
  rw [D] at j
  have i1:=vL hb (by omega) root (l.length+1) root (List.replicate l.length false) (V:=V2.lend [B]) (h.le A) j ⟨by simp,C⟩ (by simp) (by simp)
  have s:=(qc l (l.length+1) root (List.replicate l.length false)).1
  rw [Fc (by omega)]
  rw [List.length_replicate] at s
  generalize jQ l (l.length+1) root (List.replicate l.length false)=u at *
  obtain ⟨v,d⟩:=u
  dsimp only at i1 s ⊢
  refine i1.mono ?_
  rintro r E N ⟨O,rfl,m,F⟩
  refine ⟨_,_,rfl,_,F,fun z _=>∃i:Nat,z.2=(i:Int)/\i<=l.length/\z.1=(v.isSome&&(d.take i).all id),fun z=>(l.length-z.2).toNat,⟨(_,0),by and_intros<;>first|rfl|trivial,0,rfl,Nat.zero_le _,by cases v<;>simp⟩,?_⟩
  rintro ⟨P,z⟩ Q G ⟨i,e,R,f1⟩
  dsimp only at e f1 ⊢
  subst e f1
  refine ⟨by trivial,fun a=>?_,fun a H I=>?_⟩
  ·have a:i<l.length:=by have:=of_decide_eq_true a;omega
   have J:i64.wrap ((i:Int)+1)=((i+1:Nat):Int):=by rw [i64w (by omega)];rfl
   have hu:d[i]?=some d[i]:=List.getElem?_eq_getElem (by omega)
   have w:(d.take (i+1)).all id=((d.take i).all id&&d[i]):=by
    rw [←List.take_append_getElem (show i<d.length by omega),List.all_append];simp
   rw [J,Int.toNat_natCast,Nat.mul_one,Nat.zero_add]
   refine ⟨⟨by omega,by omega⟩,d[i],nA hu,fun k=>⟨(_,((i+1:Nat):Int)),by dsimp only;omega,by and_intros<;>first|rfl|trivial,i+1,rfl,a,?_⟩,fun k=>⟨(_,((i+1:Nat):Int)),by dsimp only;omega,by and_intros<;>first|rfl|trivial,i+1,rfl,a,?_⟩⟩
   ·rw [w,←Bool.and_assoc,k];rfl
   ·rw [w,←Bool.and_assoc,k];rfl
  ·have a:i=l.length:=by have:=of_decide_eq_false a;omega
   subst a
   rw [List.take_of_length_le (by omega)]
   have K:E.Le H:=fun b o h=>I b o (G b o h)
   by_cases c:d.all id=true
   ·rw [if_pos c,c,Bool.and_true]
    exact ⟨_,rfl,fun t g=>RW.le K (m t g)⟩
   ·rw [if_neg c]
    have c:d.all id=false:=by simpa using c
    rw [c,Bool.and_false]
    exact ⟨_,rfl,fun t g=>by cases g⟩
theorem A9 {α:Type}{sz:Nat}{R:View->Value->α->Prop}{V:View}{vs:List Value}{ls:List α}(h:Row sz R V vs ls){k:Nat}(hk:k<=ls.length){xs sp:List Value}{a:α}(hx:xs.length=sz)(ha:R V (.agg xs.toArray) a)(hs:0<sz) :
  Row sz R V (vs.take (k*sz)++(xs++(vs.take (ls.length*sz)).drop (k*sz))++sp) (ls.take k++a::ls.drop k):=by
 have v:=h.nQ hs
 have q:k*sz<=ls.length*sz:=Nat.mul_le_mul_right _ hk
 have t1:(vs.take (k*sz)).length=k*sz:=by rw [List.length_take];omega
 have t2:((vs.take (ls.length*sz)).drop (k*sz)).length=ls.length*sz-k*sz:=by rw [List.length_drop,List.length_take];omega
 have g:(ls.take k).length=k:=by rw [List.length_take];omega
 refine ⟨fun i r=>?_⟩
 rw [List.append_assoc]
 by_cases s:i<k
 ·have c:i<ls.length:=by omega
  obtain ⟨l,n,o,p⟩:=h.at_ i c
  have e:(ls.take k++a::ls.drop k)[i]=ls[i]:=by rw [List.getElem_append_left (by omega),List.getElem_take]
  refine ⟨l,n,by rw [e];exact o,fun j x b=>?_⟩
  have d:=(List.getElem?_eq_some_iff.1 b).1
  have f:i*sz+j<k*sz:=by
   have:(i+1)*sz<=k*sz:=Nat.mul_le_mul_right _ s
   rw [Nat.succ_mul] at this
   omega
  rw [List.getElem?_append_left (by omega),List.getElem?_take,if_pos f]
  exact p j x b
 ·by_cases t:i=k
  ·subst t
   have e:(ls.take i++a::ls.drop i)[i]=a:=by
    rw [List.getElem_append_right (by omega)]
    simp [g]
   refine ⟨xs,hx,by rw [e];exact ha,fun j x b=>?_⟩
   have d:=(List.getElem?_eq_some_iff.1 b).1
   rw [List.getElem?_append_right (by omega),t1,Nat.add_sub_cancel_left,List.append_assoc,List.getElem?_append_left d]
   exact b
  ·have c:i-1<ls.length:=by
    rw [List.length_append,g,List.length_cons,List.length_drop] at r
    omega
   obtain ⟨l,n,o,p⟩:=h.at_ (i-1) c
   have e:(ls.take k++a::ls.drop k)[i]=ls[i-1]:=by
    rw [List.getElem_append_right (by omega)]
    obtain ⟨m,hm⟩:∃m,i=k+(m+1):=⟨i-k-1,by omega⟩
    subst hm
    simp only [g,Nat.add_sub_cancel_left,List.getElem_cons_succ,List.getElem_drop]
    congr 1
   refine ⟨l,n,by rw [e];exact o,fun j x b=>?_⟩
   have d:=(List.getElem?_eq_some_iff.1 b).1
   obtain ⟨m,hm⟩:∃m,i=k+1+m:=⟨i-k-1,by omega⟩
   subst hm
   have w:(k+1+m)*sz=k*sz+sz+m*sz:=by rw [Nat.add_mul,Nat.add_mul,Nat.one_mul]
   have u:(k+1+m-1)*sz=k*sz+m*sz:=by rw [show k+1+m-1=k+m by omega,Nat.add_mul]
   have:=p j x b
   rw [u] at this
   have f:k*sz+m*sz+j<ls.length*sz:=by
    have:(k+m+1)*sz<=ls.length*sz:=Nat.mul_le_mul_right _ (by omega)
    rw [Nat.add_mul,Nat.add_mul,Nat.one_mul] at this
    omega
   rw [List.getElem?_append_right (by omega),t1,List.append_assoc,List.getElem?_append_right (by omega),hx,List.getElem?_append_left (by omega),List.getElem?_drop,List.getElem?_take,if_pos (by omega)]
   rw [show k*sz+((k+1+m)*sz+j-k*sz-sz)=k*sz+m*sz+j by omega]
   exact this
theorem lst_cells {α:Type}{sz:Nat}{R:View->Value->α->Prop}{V:View}{p:OA}{n:Nat}{ls:List α}(h:Lst sz R V p n ls)(hs:0<sz):∃xs:List Value,V.sl p xs/\xs.length=ls.length*sz/\Row sz R V xs ls:=by
 have step:∀k,k<=ls.length->∃xs:List Value,V.sl p xs/\xs.length=k*sz/\Row sz R V xs (ls.take k):=by
  intro k
  induction k with
  | zero=>exact fun _=>⟨[],fun i v b=>by simp at b,by simp,by rw [List.take_zero];exact Row.nil⟩
  | succ k ih=>
   intro s
   obtain ⟨xs,f,d,e⟩:=ih (by omega)
   obtain ⟨l,g,m,j,o,q⟩:=h.at_ k (by omega)
   have r:(ls.take k).length=k:=by rw [List.length_take];omega
   refine ⟨xs++m,fun i v b=>?_,by rw [List.length_append,d,j,Nat.succ_mul],?_⟩
   ·by_cases c:i<xs.length
    ·rw [List.getElem?_append_left c] at b;exact f i v b
    ·rw [List.getElem?_append_right (by omega)] at b
     cases p with
     | none=>cases g
     | some a=>
      obtain rfl:=Option.some.inj (show some (a.add (k*sz))=some l from g)
      have:=q _ v b
      rw [xq,d] at this
      rw [show k*sz+(i-k*sz)=i by omega] at this
      exact ⟨a,rfl,this⟩
   ·have:=e.snoc (sp:=[]) j o hs
    rw [r,List.append_nil,List.take_of_length_le (by omega)] at this
    rw [List.take_add_one,List.getElem?_eq_getElem (by omega)]
    exact this
 obtain ⟨xs,f,d,e⟩:=step ls.length (Nat.le_refl _)
 rw [List.take_length] at e
 exact ⟨xs,f,d,e⟩
theorem row_one_cell {α:Type}{sz:Nat}{R:View->Value->α->Prop}{V:View}{vs:List Value}{al:List α}(h:Row sz R V vs al)(hs:0<sz)(hc:∀xs a,R V (.agg (List.toArray xs)) a->∀v∈xs,v.oneCell'=true){m:Nat}(hm:m<al.length*sz){v:Value}(hv:vs[m]?=some v):v.oneCell'=true:=by
 have d:m / sz<al.length:=Nat.div_lt_of_lt_mul (by rw [Nat.mul_comm];exact hm)
 obtain ⟨xs,e,f,c⟩:=h.at_ (m / sz) d
 have b:m%sz<xs.length:=by rw [e];exact Nat.mod_lt _ hs
 have g:m=m / sz*sz+m%sz:=by rw [Nat.mul_comm];exact (Nat.div_add_mod m sz).symm
 have:=c (m%sz) _ (List.getElem?_eq_getElem b)
 rw [←g,hv] at this
 obtain rfl:=Option.some.inj this
 exact hc xs _ f _ (List.getElem_mem b)
structure Rn where
 b1:Bool
 xs:List Nat
 b2:Bool
 ys:List Nat
 b3:Bool
 zs:List Nat
 left:Int
 right:Int
def Cp (V:View)(v:Value)(r:Rn):Prop:=∃p1 n1 c1 p2 n2 c2 p3 n3 c3,v=.agg #[.bool r.b1,.slice p1 n1 c1,.bool r.b2,.slice p2 n2 c2,.bool r.b3,.slice p3 n3 c3,.int .i64 r.left,.int .i64 r.right] /\
 RD V p1 n1 c1 r.xs/\RD V p2 n2 c2 r.ys/\RD V p3 n3 c3 r.zs
theorem Cp.le {V V':View}{v:Value}{r:Rn}(h:Cp V v r)(l:V.Le V'):Cp V' v r:=by
 obtain ⟨_,_,_,_,_,_,_,_,_,e,a,b,c⟩:=h
 exact ⟨_,_,_,_,_,_,_,_,_,e,a.le l,b.le l,c.le l⟩
def Rn.short (r:Rn):Prop:=r.xs.length<=3/\r.ys.length<=3/\r.zs.length<=3
def Rn.nd (r:Rn):Nd:=⟨if gP r.b1 r.xs r.b2 r.ys r.b3 r.zs then AK r.b1 r.xs r.b2 r.ys r.b3 r.zs else (0,0,0),r.left,r.right⟩
theorem kD {b:Bool}{xs:List Nat}(hd:bl xs)(h:xs.length<=3):(aq b xs).natAbs<2^96:=by
 have a:=dR hd
 have c:4294967296^xs.length<=4294967296^3:=Nat.pow_le_pow_right (by omega) (by omega)
 have d:4294967296^3=2^96:=by decide
 have e:(aq b xs).natAbs=val xs:=by unfold aq;split<;>simp
 omega
theorem GH {a b:Nat}(h:a<=b):2^a<=2^b:=Nat.pow_le_pow_right (by omega) h
theorem Rn.bd {V:View}{v:Value}{r:Rn}(h:Cp V v r)(hs:r.short):Bd r.nd.ln:=by
 obtain ⟨_,_,_,_,_,_,_,_,_,e,c,d,f⟩:=h
 have le:=GH (a:=96) (b:=1000) (by omega)
 have g:=kD (b:=r.b1) c.cI hs.1
 have i:=kD (b:=r.b2) d.cI hs.2.1
 have j:=kD (b:=r.b3) f.cI hs.2.2
 have z:=Nat.two_pow_pos 1000
 unfold Rn.nd Bd
 dsimp only
 split
 ·unfold AK;dsimp only;exact ⟨Nat.lt_of_lt_of_le g le,Nat.lt_of_lt_of_le i le,Nat.lt_of_lt_of_le j le⟩
 ·exact ⟨z,z,z⟩
theorem La {V:View}{b1:Bool}{p1:OA}{n1 c1:Nat}{xs:List Nat}{b2:Bool}{p2:OA}{n2 c2:Nat}{ys:List Nat}{b3:Bool}{p3:OA}{n3 c3:Nat}{zs:List Nat}(ho:gP b1 xs b2 ys b3 zs=true)(h1:RD V p1 n1 c1 xs)(h2:RD V p2 n2 c2 ys)(h3:RD V p3 n3 c3 zs) :
  RL V (.agg #[.bool b1,.slice p1 n1 c1,.bool b2,.slice p2 n2 c2,.bool b3,.slice p3 n3 c3]) (AK b1 xs b2 ys b3 zs).1 (AK b1 xs b2 ys b3 zs).2.1 (AK b1 xs b2 ys b3 zs).2.2:=by
 rw [kd] at ho
 simp only [Bool.and_eq_true] at ho
 obtain ⟨⟨⟨a,b⟩,c⟩,-⟩:=ho
 obtain ⟨d,f1⟩:=we a
 obtain ⟨e,f2⟩:=we b
 obtain ⟨f,f3⟩:=we c
 unfold AK
 dsimp only
 refine ⟨p1,n1,c1,p2,n2,c2,p3,n3,c3,?_,by rw [←f1];exact h1,by rw [←f2];exact h2,by rw [←f3];exact h3⟩
 rw [←d,←e,←f]
theorem Rn.R6 {V:View}{v:Value}{r:Rn}(h:Cp V v r)(hs:r.short){c:Fin 8->Value}(hv:v=.agg #[c 0,c 1,c 2,c 3,c 4,c 5,c 6,c 7]):DD V (.agg #[c 0,c 1,c 2,c 3,c 4,c 5]) r.nd.ln/\c 6=.int .i64 r.left/\c 7=.int .i64 r.right:=by
 obtain ⟨t,u,w,x,y,z,A,B,C,e,a,d,f⟩:=h
 have g:=kD (b:=r.b1) a.cI hs.1
 have i:=kD (b:=r.b2) d.cI hs.2.1
 have j:=kD (b:=r.b3) f.cI hs.2.2
 rw [hv] at e
 have e:=congrArg Array.toList (Value.agg.inj e)
 simp only [List.cons.injEq,and_true] at e
 obtain ⟨k,l,m,n,o,p,q,s⟩:=e
 refine ⟨?_,q,s⟩
 rw [k,l,m,n,o,p]
 unfold Rn.nd
 dsimp only
 cases ho:gP r.b1 r.xs r.b2 r.ys r.b3 r.zs
 ·rw [if_neg (by decide)]
  refine .inr ⟨by decide,_,_,_,_,_,_,_,_,_,_,_,_,_,_,_,rfl,a,d,f,ho,⟨by have:=hs.1;omega,by have:=hs.2.1;omega,by have:=hs.2.2;omega⟩,(nX g (by omega)).mono (by omega),(nX i (by omega)).mono (by omega),(nX j (by omega)).mono (by omega)⟩
 ·rw [if_pos rfl]
  exact .inl (La ho a d f)
theorem NS.IH {V:View}{p:OA}{n c:Nat}{rs:List Rn}(h:Lst 8 Cp V p n rs)(hs:∀r∈rs,r.short)(hc:n<=c)(hn:p.isNone=true->c=0):NS V p n c (rs.map Rn.nd)/\∀x∈rs.map Rn.nd,Bd x.ln:=by
 have m:=h.len
 constructor
 ·obtain ⟨o,v1,-,q⟩:=lst_cells h (by decide)
  refine ⟨by rw [List.length_map];exact m,hc,⟨o,v1,fun i d b=>?_⟩,hn⟩
  rw [List.getElem?_map] at b
  cases a:rs[i]? with
  | none=>rw [a] at b;cases b
  | some r=>
   rw [a] at b
   cases b
   obtain ⟨f,e⟩:=List.getElem?_eq_some_iff.1 a
   obtain ⟨xs,I,g,s⟩:=q.at_ i f
   rw [e] at g
   have l:=g
   obtain ⟨t,u,w,y,z,A,B,C,D,ex,-⟩:=g
   have ex:=congrArg Array.toList (Value.agg.inj ex)
   dsimp only at ex
   subst ex
   have E:=(Rn.R6 l (hs r (List.mem_of_getElem? a)) (c:=fun k=>([.bool r.b1,.slice t u w,.bool r.b2,.slice y z A,.bool r.b3,.slice B C D,.int .i64 r.left,.int .i64 r.right]:List Value).getD k.1 .nilIface) rfl).1
   exact ⟨_,_,_,_,_,_,_,_,_,_,_,_,fun j v F=>s j v F,E⟩
 ·intro x G
  obtain ⟨r,a,rfl⟩:=List.mem_map.1 G
  obtain ⟨i,f,rfl⟩:=List.mem_iff_getElem.1 a
  obtain ⟨J,-,xs,-,H,-⟩:=h.at_ i f
  exact Rn.bd H (hs _ a)
theorem Lb {V:View}{p:OA}{n:Nat}{rs:List Rn}(h:Lst 8 Cp V p n rs){i:Nat}(hi:i<rs.length) :
  p.isSome=true/\∃p1 n1 c1 p2 n2 c2 p3 n3 c3 a,addrAdd p (i*8)=some a/\V.at (a.add 0) (.bool rs[i].b1)/\V.at (a.add 1) (.slice p1 n1 c1)/\V.at (a.add 2) (.bool rs[i].b2)/\V.at (a.add 3) (.slice p2 n2 c2)/\V.at (a.add 4) (.bool rs[i].b3)/\V.at (a.add 5) (.slice p3 n3 c3)/\V.at (a.add 6) (.int .i64 rs[i].left)/\V.at (a.add 7) (.int .i64 rs[i].right) /\
   n1=rs[i].xs.length/\n2=rs[i].ys.length/\n3=rs[i].zs.length:=by
 obtain ⟨d,c,xs,g,f,b⟩:=h.at_ i hi
 obtain ⟨p1,n1,c1,p2,n2,c2,p3,n3,c3,e,d1,d2,d3⟩:=f
 have e:=congrArg Array.toList (Value.agg.inj e)
 dsimp only at e
 subst e
 refine ⟨?_,p1,n1,c1,p2,n2,c2,p3,n3,c3,d,c,b 0 _ rfl,b 1 _ rfl,b 2 _ rfl,b 3 _ rfl,b 4 _ rfl,b 5 _ rfl,b 6 _ rfl,b 7 _ rfl,d1.len,d2.len,d3.len⟩
 cases p with
 | none=>cases c
 | some a=>rfl
end Go.Proofs.Tryz
