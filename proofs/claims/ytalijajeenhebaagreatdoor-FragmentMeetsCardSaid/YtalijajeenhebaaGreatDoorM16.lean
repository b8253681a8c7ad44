/- A part of the proof (joined by program from: FrA, FrB, FrC, RefH, FragA, SceneE). -/
import Derived.Test.YtalijajeenhebaaGreatDoorM15
import Derived.Test.YtalijajeenhebaaGreatDoorM13
import Derived.Test.YtalijajeenhebaaGreatDoorM14
set_option linter.unusedVariables false
open Go.IntKind (i64 u64 u32)
/- Intervals and fragments: how they lie in memory; the values at a line. -/
namespace Go.Eng
open Go.Big
theorem RR.zero (V:View):RR V (.agg #[.int .i64 0,.int .i64 0,.pointer none]) 0:=.inl ⟨rfl,by unfold Wd; decide⟩
end Go.Eng
namespace Go.Proofs.Tryz
open Go.Eng Go.Big
/-- A span: its ends, and whether they are missing. -/
structure Sp where
 lo:Rat
 hi:Rat
 a:Bool
 b:Bool
/-- An end that is missing is 0. -/
def Sp.can (s:Sp):Prop:=(s.a=true->s.lo=0)/\(s.b=true->s.hi=0)
def Sp.sz (k:Nat) (s:Sp):Prop:=Sz k s.lo/\Sz k s.hi
def Sp.zero:Sp:=⟨0,0,false,false⟩
def SzL (k:Nat) (l:L3):Prop:=Sz k (l.1:Rat)/\Sz k (l.2.1:Rat)/\Sz k (l.2.2:Rat)
/-- An interval of package geo. -/
def RIv (V:View) (v:Value) (s:Sp):Prop:=∃(x1 x2:Int) (p:OA) (y1 y2:Int) (q:OA),v=.agg #[.int .i64 x1,.int .i64 x2,.pointer p,.int .i64 y1,.int .i64 y2,.pointer q,.bool s.a,.bool s.b] /\
 RR V (.agg #[.int .i64 x1,.int .i64 x2,.pointer p]) s.lo/\RR V (.agg #[.int .i64 y1,.int .i64 y2,.pointer q]) s.hi
theorem RIv.le {V V':View} {v:Value} {s:Sp} (h:RIv V v s) (l:V.Le V'):RIv V' v s:=by
 obtain ⟨x1,x2,p,y1,y2,q,e,h1,h2⟩:=h
 exact ⟨x1,x2,p,y1,y2,q,e,h1.le l,h2.le l⟩
/-- A line of package geo with integer coefficients. -/
def RLi (V:View) (v:Value) (l:L3):Prop:=RLn V v (l.1:Rat) (l.2.1:Rat) (l.2.2:Rat)
theorem RLi.le {V V':View} {v:Value} {l:L3} (h:RLi V v l) (e:V.Le V'):RLi V' v l:=RLn.le h e
/-- A fragment of package geo. -/
def RFr (V:View) (v:Value) (l:L3) (s:Sp):Prop:=∃(x1 x2:Int) (p:OA) (y1 y2:Int) (q:OA) (z1 z2:Int) (r:OA) (u1 u2:Int) (t:OA) (w1 w2:Int) (o:OA),
 v=.agg #[.int .i64 x1,.int .i64 x2,.pointer p,.int .i64 y1,.int .i64 y2,.pointer q,.int .i64 z1,.int .i64 z2,.pointer r,.int .i64 u1,.int .i64 u2,.pointer t,.int .i64 w1,.int .i64 w2,.pointer o,.bool s.a,.bool s.b] /\
 RLi V (.agg #[.int .i64 x1,.int .i64 x2,.pointer p,.int .i64 y1,.int .i64 y2,.pointer q,.int .i64 z1,.int .i64 z2,.pointer r]) l /\
 RIv V (.agg #[.int .i64 u1,.int .i64 u2,.pointer t,.int .i64 w1,.int .i64 w2,.pointer o,.bool s.a,.bool s.b]) s
theorem RFr.le {V V':View} {v:Value} {l:L3} {s:Sp} (h:RFr V v l s) (e:V.Le V'):RFr V' v l s:=by
 obtain ⟨x1,x2,p,y1,y2,q,z1,z2,r,u1,u2,t,w1,w2,o,rfl,h1,h2⟩:=h
 exact ⟨x1,x2,p,y1,y2,q,z1,z2,r,u1,u2,t,w1,w2,o,rfl,h1.le e,h2.le e⟩
/-- A number of package api in any form. -/
def RRw (V:View) (v:Value) (b:Bool) (xs ys:List Nat):Prop:=∃p n c p' n' c',v=.agg #[.bool b,.slice p n c,.slice p' n' c']/\RD V p n c xs/\RD V p' n' c' ys
theorem RRw.le {V V':View} {v:Value} {b:Bool} {xs ys:List Nat} (h:RRw V v b xs ys) (l:V.Le V'):RRw V' v b xs ys:=by
 obtain ⟨p,n,c,p',n',c',e,h1,h2⟩:=h; exact ⟨p,n,c,p',n',c',e,h1.le l,h2.le l⟩
theorem RRw.nil {V:View}:RRw V (.agg #[.bool false,.slice none 0 0,.slice none 0 0]) false [] []:=⟨_,_,_,_,_,_,rfl,RD.nil,RD.nil⟩
/-- An end of a span of package api. -/
def RE (V:View) (v:Value) (q:Rat) (no:Bool):Prop:=(no=true->RRw V v false [] [])/\(no=false->RA V v q)
theorem RE.le {V V':View} {v:Value} {q:Rat} {no:Bool} (h:RE V v q no) (l:V.Le V'):RE V' v q no:=⟨fun e=>(h.1 e).le l,fun e=>(h.2 e).le l⟩
theorem RE.shape {V:View} {v:Value} {q:Rat} {no:Bool} (h:RE V v q no):∃b p n c p' n' c',v=.agg #[.bool b,.slice p n c,.slice p' n' c']:=by
 cases no with
 | true=>obtain ⟨_,_,_,_,_,_,e,-⟩:=h.1 rfl; exact ⟨_,_,_,_,_,_,_,e⟩
 | false=>exact (h.2 rfl).shape
/-- A span of package api. -/
def RSp (V:View) (v:Value) (s:Sp):Prop:=∃b p n c p' n' c' d q m e q' m' e',v=.agg #[.bool b,.slice p n c,.slice p' n' c',.bool d,.slice q m e,.slice q' m' e',.bool s.a,.bool s.b] /\
 RE V (.agg #[.bool b,.slice p n c,.slice p' n' c']) s.lo s.a/\RE V (.agg #[.bool d,.slice q m e,.slice q' m' e']) s.hi s.b
theorem RSp.le {V V':View} {v:Value} {s:Sp} (h:RSp V v s) (l:V.Le V'):RSp V' v s:=by
 obtain ⟨b,p,n,c,p',n',c',d,q,m,e,q',m',e',rfl,h1,h2⟩:=h
 exact ⟨_,_,_,_,_,_,_,_,_,_,_,_,_,_,rfl,h1.le l,h2.le l⟩
/-- A fragment of package api. -/
def RFa (V:View) (v:Value) (l:L3) (s:Sp):Prop:=∃b1 p1 n1 c1 b2 p2 n2 c2 b3 p3 n3 c3 b p n c p' n' c' d q m e q' m' e',
 v=.agg #[.bool b1,.slice p1 n1 c1,.bool b2,.slice p2 n2 c2,.bool b3,.slice p3 n3 c3,.bool b,.slice p n c,.slice p' n' c',.bool d,.slice q m e,.slice q' m' e',.bool s.a,.bool s.b] /\
 RL V (.agg #[.bool b1,.slice p1 n1 c1,.bool b2,.slice p2 n2 c2,.bool b3,.slice p3 n3 c3]) l.1 l.2.1 l.2.2/\RSp V (.agg #[.bool b,.slice p n c,.slice p' n' c',.bool d,.slice q m e,.slice q' m' e',.bool s.a,.bool s.b]) s
theorem RFa.le {V V':View} {v:Value} {l:L3} {s:Sp} (h:RFa V v l s) (e:V.Le V'):RFa V' v l s:=by
 obtain ⟨b1,p1,n1,c1,b2,p2,n2,c2,b3,p3,n3,c3,b,p,n,c,p',n',c',d,q,m,f,q',m',f',rfl,h1,h2⟩:=h
 exact ⟨_,_,_,_,_,_,_,_,_,_,_,_,_,_,_,_,_,_,_,_,_,_,_,_,_,_,rfl,h1.le e,h2.le e⟩
/-- A span of the reference. -/
def RSs (V:View) (v:Value) (s:Sp):Prop:=∃b p n c p' n' c' d q m e q' m' e',v=.agg #[.bool b,.slice p n c,.slice p' n' c',.bool d,.slice q m e,.slice q' m' e',.bool s.a,.bool s.b] /\
 RQ V (.agg #[.bool b,.slice p n c,.slice p' n' c']) s.lo/\RQ V (.agg #[.bool d,.slice q m e,.slice q' m' e']) s.hi
theorem RSs.le {V V':View} {v:Value} {s:Sp} (h:RSs V v s) (l:V.Le V'):RSs V' v s:=by
 obtain ⟨b,p,n,c,p',n',c',d,q,m,e,q',m',e',rfl,h1,h2⟩:=h
 exact ⟨_,_,_,_,_,_,_,_,_,_,_,_,_,_,rfl,h1.le l,h2.le l⟩
/-- A fragment of the reference. -/
def RF (V:View) (v:Value) (l:L3) (s:Sp):Prop:=∃b1 p1 n1 c1 b2 p2 n2 c2 b3 p3 n3 c3 b p n c p' n' c' d q m e q' m' e',
 v=.agg #[.bool b1,.slice p1 n1 c1,.bool b2,.slice p2 n2 c2,.bool b3,.slice p3 n3 c3,.bool b,.slice p n c,.slice p' n' c',.bool d,.slice q m e,.slice q' m' e',.bool s.a,.bool s.b] /\
 RL V (.agg #[.bool b1,.slice p1 n1 c1,.bool b2,.slice p2 n2 c2,.bool b3,.slice p3 n3 c3]) l.1 l.2.1 l.2.2/\RSs V (.agg #[.bool b,.slice p n c,.slice p' n' c',.bool d,.slice q m e,.slice q' m' e',.bool s.a,.bool s.b]) s
theorem RF.le {V V':View} {v:Value} {l:L3} {s:Sp} (h:RF V v l s) (e:V.Le V'):RF V' v l s:=by
 obtain ⟨b1,p1,n1,c1,b2,p2,n2,c2,b3,p3,n3,c3,b,p,n,c,p',n',c',d,q,m,f,q',m',f',rfl,h1,h2⟩:=h
 exact ⟨_,_,_,_,_,_,_,_,_,_,_,_,_,_,_,_,_,_,_,_,_,_,_,_,_,_,rfl,h1.le e,h2.le e⟩
theorem rl_shape {V:View} {v:Value} {a b c:Int} (h:RL V v a b c):∃b1 p1 n1 c1 b2 p2 n2 c2 b3 p3 n3 c3,v=.agg #[.bool b1,.slice p1 n1 c1,.bool b2,.slice p2 n2 c2,.bool b3,.slice p3 n3 c3]:=by
 obtain ⟨_,_,_,_,_,_,_,_,_,e,-⟩:=h; exact ⟨_,_,_,_,_,_,_,_,_,_,_,_,e⟩
theorem rp_shape {V:View} {v:Value} {x y:Rat} (h:RP V v x y):∃b1 p1 n1 c1 p2 n2 c2 b3 p3 n3 c3 p4 n4 c4,v=.agg #[.bool b1,.slice p1 n1 c1,.slice p2 n2 c2,.bool b3,.slice p3 n3 c3,.slice p4 n4 c4]:=by
 obtain ⟨_,_,_,_,_,_,_,_,_,_,_,_,e,-⟩:=h; exact ⟨_,_,_,_,_,_,_,_,_,_,_,_,_,_,e⟩
/-! the values at a line -/
def valL (l:L3) (x y:Rat):Rat:=(l.1:Rat) * x + (l.2.1:Rat) * y + (l.2.2:Rat)
def normL (l:L3):Rat:=(l.1:Rat) * (l.1:Rat) + (l.2.1:Rat) * (l.2.1:Rat)
def parL (l:L3) (x y:Rat):Rat:=((l.2.1:Rat) * x - (l.1:Rat) * y) * (normL l)⁻¹
def atX (l:L3) (t:Rat):Rat:=(l.2.1:Rat) * t - (l.1:Rat) * (l.2.2:Rat) * (normL l)⁻¹
def atY (l:L3) (t:Rat):Rat:=-((l.1:Rat) * t) - (l.2.1:Rat) * (l.2.2:Rat) * (normL l)⁻¹
def revL (l:L3):L3:=(-l.1,-l.2.1,-l.2.2)
def Sp.neg (s:Sp):Sp:=⟨if s.b then 0 else -s.hi,if s.a then 0 else -s.lo,s.b,s.a⟩
def Sp.has (s:Sp) (t:Rat):Bool:=(s.a || decide (cmpQ s.lo t<=0)) && (s.b || decide (cmpQ s.hi t ≥ 0))
def Sp.emp (s:Sp):Bool:=!s.a && !s.b && decide (cmpQ s.lo s.hi ≥ 0)
def hasF (l:L3) (s:Sp) (x y:Rat):Bool:=decide (valL l x y=0) && s.has (parL l x y)
def Nz (l:L3):Prop:=¬ (l.1=0/\l.2.1=0)
theorem sq_nonneg (x:Int):0<=x * x:=by
 rw [← Int.natAbs_mul_self]; exact Int.natCast_nonneg _
theorem normL_eq (l:L3):normL l=((l.1 * l.1 + l.2.1 * l.2.1:Int):Rat):=by unfold normL; simp
theorem Nz.norm {l:L3} (h:Nz l):normL l≠0:=by
 rw [normL_eq]
 have h1:=sq_nonneg l.1
 have h2:=sq_nonneg l.2.1
 have h3:l.1 * l.1 + l.2.1 * l.2.1≠0:=by
  intro e
  have e1:l.1 * l.1=0:=by omega
  have e2:l.2.1 * l.2.1=0:=by omega
  exact h ⟨(Int.mul_eq_zero.1 e1).elim id id,(Int.mul_eq_zero.1 e2).elim id id⟩
 exact_mod_cast h3
theorem num_zero {q:Rat} (h:q≠0):q.num≠0:=fun e=>h (Rat.num_eq_zero.1 e)
theorem k_Param {V:View} {l p:Value} {L:L3} {x y:Rat} (hl:RLi V l L) (hp:RPt V p x y) {k:Nat} (sl:SzL k L) (s1:Sz k x) (s2:Sz k y) (hk:8 * k + 7 < 274877906944) :
  Acts prog 101 #[l,p] V fun r V'=>RR V' r (parL L x y):=by
 refine (c_geo_Ln_Param hl hp sl.1 sl.2.1 sl.2.2 s1 s2 hk).mono ?_
 rintro r V2 l2 g
 have e:parL L x y=((((L.2.1:Rat)) * x + (-(L.1:Rat)) * y) * (((L.2.1:Rat)) * ((L.2.1:Rat)) + (-(L.1:Rat)) * (-(L.1:Rat)))⁻¹):=by
  unfold parL normL; grind
 rw [e]; exact g
theorem sz_parL {L:L3} {x y:Rat} {k:Nat} (sl:SzL k L) (s1:Sz k x) (s2:Sz k y):Sz (8 * k + 7) (parL L x y):=by
 have e:parL L x y=((((L.2.1:Rat)) * x + (-(L.1:Rat)) * y) * (((L.2.1:Rat)) * ((L.2.1:Rat)) + (-(L.1:Rat)) * (-(L.1:Rat)))⁻¹):=by
  unfold parL normL; grind
 rw [e]; exact z_geo_Ln_Param_0 sl.1 sl.2.1 sl.2.2 s1 s2
theorem k_At {V:View} {l t:Value} {L:L3} {x:Rat} (hl:RLi V l L) (ht:RR V t x) {k:Nat} (sl:SzL k L) (s1:Sz k x) (hk:20 * k + 19 < 274877906944) :
  Acts prog 118 #[l,t] V fun r V'=>RPt V' r (atX L x) (atY L x):=by
 refine (c_geo_Ln_At hl ht sl.1 sl.2.1 sl.2.2 s1 hk).mono ?_
 rintro r V2 l2 g
 have e1:atX L x=((L.1:Rat) * ((-(L.2.2:Rat)) * ((L.1:Rat) * (L.1:Rat) + (L.2.1:Rat) * (L.2.1:Rat))⁻¹)) + ((L.2.1:Rat) * x):=by unfold atX normL; grind
 have e2:atY L x=((L.2.1:Rat) * ((-(L.2.2:Rat)) * ((L.1:Rat) * (L.1:Rat) + (L.2.1:Rat) * (L.2.1:Rat))⁻¹)) + ((-(L.1:Rat)) * x):=by unfold atY normL; grind
 rw [e1,e2]; exact g
theorem sz_atX {L:L3} {x:Rat} {k:Nat} (sl:SzL k L) (s1:Sz k x):Sz (20 * k + 19) (atX L x):=by
 have e1:atX L x=((L.1:Rat) * ((-(L.2.2:Rat)) * ((L.1:Rat) * (L.1:Rat) + (L.2.1:Rat) * (L.2.1:Rat))⁻¹)) + ((L.2.1:Rat) * x):=by unfold atX normL; grind
 rw [e1]; exact z_geo_Ln_At_0 sl.1 sl.2.1 sl.2.2 s1
theorem sz_atY {L:L3} {x:Rat} {k:Nat} (sl:SzL k L) (s1:Sz k x):Sz (20 * k + 19) (atY L x):=by
 have e2:atY L x=((L.2.1:Rat) * ((-(L.2.2:Rat)) * ((L.1:Rat) * (L.1:Rat) + (L.2.1:Rat) * (L.2.1:Rat))⁻¹)) + ((-(L.1:Rat)) * x):=by unfold atY normL; grind
 rw [e2]; exact z_geo_Ln_At_1 sl.1 sl.2.1 sl.2.2 s1
theorem sign_eq_zero (q:Rat):q.num.sign=0↔q=0:=by rw [Int.sign_eq_zero_iff_zero,Rat.num_eq_zero]
theorem k_Reverse {V:View} {l:Value} {L:L3} (hl:RLi V l L) {k:Nat} (sl:SzL k L) (hk:1 * k + 1 < 274877906944) :
  Acts prog 125 #[l] V fun r V'=>RLi V' r (revL L):=by
 refine (c_geo_Ln_Reverse hl sl.1 sl.2.1 sl.2.2 hk).mono ?_
 rintro r V2 l2 g
 unfold RLi revL
 simpa using g
theorem SzL.rev {k:Nat} {L:L3} (h:SzL k L):SzL k (revL L):=by
 unfold SzL revL
 simp only [Rat.intCast_neg]
 exact ⟨h.1.neg,h.2.1.neg,h.2.2.neg⟩
/-! the same for the reference -/
theorem r_norm {L:L3} (h:Nz L):((((((L.2.1:Int):Rat))) * ((((L.2.1:Int):Rat)))) + (((-(((L.1:Int):Rat)))) * ((-(((L.1:Int):Rat)))))).num≠0:=by
 have:(((((L.2.1:Int):Rat))) * ((((L.2.1:Int):Rat)))) + (((-(((L.1:Int):Rat)))) * ((-(((L.1:Int):Rat)))))=normL L:=by unfold normL; grind
 rw [this]
 exact num_zero h.norm
theorem r_Param {V:View} {l p:Value} {L:L3} {x y:Rat} (hl:RL V l L.1 L.2.1 L.2.2) (hp:RP V p x y) (hz:Nz L) {k:Nat} (sl:SzL k L) (s1:Sz k x) (s2:Sz k y) (hk:8 * k + 7 < 274877906944) :
  Acts prog 52 #[l,p] V fun r V'=>RQ V' r (parL L x y):=by
 refine (c_ref04_Param hl hp (r_norm hz) sl.1 sl.2.1 sl.2.2 s1 s2 hk).mono ?_
 rintro r V2 l2 g
 have e:parL L x y=((((x) * ((((L.2.1:Int):Rat)))) + ((y) * ((-(((L.1:Int):Rat)))))) * ((((((L.2.1:Int):Rat))) * ((((L.2.1:Int):Rat)))) + (((-(((L.1:Int):Rat)))) * ((-(((L.1:Int):Rat))))))⁻¹):=by
  unfold parL normL; grind
 rw [e]; exact g
theorem r_At {V:View} {l t:Value} {L:L3} {x:Rat} (hl:RL V l L.1 L.2.1 L.2.2) (ht:RQ V t x) (hz:Nz L) {k:Nat} (sl:SzL k L) (s1:Sz k x) (hk:18 * k + 16 < 274877906944) :
  Acts prog 19 #[l,t] V fun r V'=>RP V' r (atX L x) (atY L x):=by
 refine (c_ref04_At hl ht (r_norm hz) sl.1 sl.2.1 sl.2.2 s1 hk).mono ?_
 rintro r V2 l2 g
 have e1:atX L x=(((-((((L.2.2:Int):Rat)) * ((((((L.2.1:Int):Rat))) * ((((L.2.1:Int):Rat)))) + (((-(((L.1:Int):Rat)))) * ((-(((L.1:Int):Rat))))))⁻¹)) * (((L.1:Int):Rat))) + (x) * (((L.2.1:Int):Rat))):=by unfold atX normL; grind
 have e2:atY L x=(((-((((L.2.2:Int):Rat)) * ((((((L.2.1:Int):Rat))) * ((((L.2.1:Int):Rat)))) + (((-(((L.1:Int):Rat)))) * ((-(((L.1:Int):Rat))))))⁻¹)) * (((L.2.1:Int):Rat))) + (x) * (-(((L.1:Int):Rat)))):=by unfold atY normL; grind
 rw [e1,e2]; exact g
theorem r_Side {V:View} {l p:Value} {L:L3} {x y:Rat} (hl:RL V l L.1 L.2.1 L.2.2) (hp:RP V p x y) {k:Nat} (sl:SzL k L) (s1:Sz k x) (s2:Sz k y) (hk:16 * k + 16 < 274877906944) :
  Acts prog 42 #[l,p] V fun r V'=>r=.int .i64 (valL L x y).num.sign:=c_ref04_Side hl hp sl.1 sl.2.1 sl.2.2 s1 s2 hk
end Go.Proofs.Tryz
/- Contracts: geo.scaled, Make, Through, Segment. -/
namespace Go.Proofs.Tryz
open Go.Eng Go.Big
/-- Three numbers in a row; those ahead of i are scaled by f. -/
structure Scl (V:View) (vs:List Value) (i:Int) (f a b c:Rat):Prop where
 h0:0<=i
 h3:i<=3
 row:∃(x1 x2:Int) (p:OA) (y1 y2:Int) (q:OA) (z1 z2:Int) (r:OA),vs=[.int .i64 x1,.int .i64 x2,.pointer p,.int .i64 y1,.int .i64 y2,.pointer q,.int .i64 z1,.int .i64 z2,.pointer r] /\
  RR V (.agg #[.int .i64 x1,.int .i64 x2,.pointer p]) (if 0 < i then a * f else a)/\RR V (.agg #[.int .i64 y1,.int .i64 y2,.pointer q]) (if 1 < i then b * f else b)/\RR V (.agg #[.int .i64 z1,.int .i64 z2,.pointer r]) (if 2 < i then c * f else c)
theorem Scl.le {V V':View} {vs:List Value} {i:Int} {f a b c:Rat} (h:Scl V vs i f a b c) (l:V.Le V'):Scl V' vs i f a b c:=by
 obtain ⟨h0,h3,x1,x2,p,y1,y2,q,z1,z2,r,e,g1,g2,g3⟩:=h
 exact ⟨h0,h3,x1,x2,p,y1,y2,q,z1,z2,r,e,g1.le l,g2.le l,g3.le l⟩
theorem c_geo_scaled {V:View} {u:Value} {f a b c:Rat} {lb:Nat} {vs:List Value} (hf:RR V u f) (hv:Scl V vs 0 f a b c) (hw:V.w.heap[lb]?=some (.cells vs.toArray 108 (0,0))) (hx:V.X lb)
  {k:Nat} (sf:Sz k f) (sa:Sz k a) (sb:Sz k b) (sc:Sz k c) (hk:2 * k < 1099511627776) :
  Acts prog 196 #[u,.slice (some ⟨lb,0,none⟩) 3 3] V fun r V'=>∃(bk:Nat) (ws:List Value),r=.slice (some ⟨bk,0,none⟩) 3 3/\V'.w.heap[bk]?=some (.cells ws.toArray 108 (0,0))/\(V.w.heap.size<=bk \/ bk=lb)/\Scl (V'.hideG (ws≠[]) bk) ws 3 f a b c:=by
 have hf0:=hf
 obtain ⟨f0,f1,f2,rfl⟩:=hf.shape
 have hne:vs≠[]:=by obtain ⟨_,_,x1,x2,p,y1,y2,q,z1,z2,r,rfl,-⟩:=hv; exact fun h=>nomatch h
 refine vc_geo_scaled f0 f1 f2 lb 3 3 vs V _ (fun _=>hw) (fun _=>hx) ⟨fun z V'=>Scl V' z.2 z.1 f a b c/\RR V' (.agg #[.int .i64 f0,.int .i64 f1,.pointer f2]) f,fun z=>(3 - z.1).toNat,⟨(0,vs),by (try dsimp only); and_intros <;> trivial,hv,hf0⟩,?_⟩
 rintro ⟨i,ws⟩ V1 l1 ⟨hs,hf1⟩
 refine ⟨rfl,fun hi=>?_,fun hi=>?_⟩
 ·have hi:i < 3:=of_decide_eq_true hi
  dsimp only
  obtain ⟨h0,h3,x1,x2,p,y1,y2,q,z1,z2,r,rfl,g1,g2,g3⟩:=hs
  have w:i64.wrap (i + 1)=i + 1:=i64w (by omega)
  rw [w]
  have c3:i=0 \/ i=1 \/ i=2:=by omega
  rcases c3 with rfl | rfl | rfl
  ·rw [if_neg (by (try dsimp only); decide)] at g1; rw [if_neg (by (try dsimp only); decide)] at g2; rw [if_neg (by (try dsimp only); decide)] at g3
   refine ⟨⟨by decide,by decide⟩,by decide,x1,x2,p,⟨by simp,rfl⟩,fun V2 l2=>(c_R_Mul (g1.le l2) (hf1.le l2) sa sf (by omega)).mono ?_⟩
   rintro o V3 l3 g
   have g0:=g
   obtain ⟨w1,w2,w3,rfl⟩:=g.shape
   exact ⟨_,_,_,rfl,⟨by decide,by decide⟩,by decide,by simp,(1,[.int .i64 w1,.int .i64 w2,.pointer w3,.int .i64 y1,.int .i64 y2,.pointer q,.int .i64 z1,.int .i64 z2,.pointer r]),by dsimp only; decide,by and_intros <;> rfl,⟨by dsimp only; decide,by dsimp only; decide,_,_,_,_,_,_,_,_,_,rfl,by rw [if_pos (by (try dsimp only); decide)]; exact g0,by rw [if_neg (by (try dsimp only); decide)]; exact g2.le (l2.trans l3),by rw [if_neg (by (try dsimp only); decide)]; exact g3.le (l2.trans l3)⟩,hf1.le (l2.trans l3)⟩
  ·rw [if_pos (by (try dsimp only); decide)] at g1; rw [if_neg (by (try dsimp only); decide)] at g2; rw [if_neg (by (try dsimp only); decide)] at g3
   refine ⟨⟨by decide,by decide⟩,by decide,y1,y2,q,⟨by simp,rfl⟩,fun V2 l2=>(c_R_Mul (g2.le l2) (hf1.le l2) sb sf (by omega)).mono ?_⟩
   rintro o V3 l3 g
   have g0:=g
   obtain ⟨w1,w2,w3,rfl⟩:=g.shape
   exact ⟨_,_,_,rfl,⟨by decide,by decide⟩,by decide,by simp,(2,[.int .i64 x1,.int .i64 x2,.pointer p,.int .i64 w1,.int .i64 w2,.pointer w3,.int .i64 z1,.int .i64 z2,.pointer r]),by dsimp only; decide,by and_intros <;> rfl,⟨by dsimp only; decide,by dsimp only; decide,_,_,_,_,_,_,_,_,_,rfl,by rw [if_pos (by (try dsimp only); decide)]; exact g1.le (l2.trans l3),by rw [if_pos (by (try dsimp only); decide)]; exact g0,by rw [if_neg (by (try dsimp only); decide)]; exact g3.le (l2.trans l3)⟩,hf1.le (l2.trans l3)⟩
  ·rw [if_pos (by (try dsimp only); decide)] at g1; rw [if_pos (by (try dsimp only); decide)] at g2; rw [if_neg (by (try dsimp only); decide)] at g3
   refine ⟨⟨by decide,by decide⟩,by decide,z1,z2,r,⟨by simp,rfl⟩,fun V2 l2=>(c_R_Mul (g3.le l2) (hf1.le l2) sc sf (by omega)).mono ?_⟩
   rintro o V3 l3 g
   have g0:=g
   obtain ⟨w1,w2,w3,rfl⟩:=g.shape
   exact ⟨_,_,_,rfl,⟨by decide,by decide⟩,by decide,by simp,(3,[.int .i64 x1,.int .i64 x2,.pointer p,.int .i64 y1,.int .i64 y2,.pointer q,.int .i64 w1,.int .i64 w2,.pointer w3]),by dsimp only; decide,by and_intros <;> rfl,⟨by dsimp only; decide,by dsimp only; decide,_,_,_,_,_,_,_,_,_,rfl,by rw [if_pos (by (try dsimp only); decide)]; exact g1.le (l2.trans l3),by rw [if_pos (by (try dsimp only); decide)]; exact g2.le (l2.trans l3),by rw [if_pos (by (try dsimp only); decide)]; exact g0⟩,hf1.le (l2.trans l3)⟩
 ·have hi:¬ i < 3:=of_decide_eq_false hi
  obtain rfl:i=3:=by have:=hs.h3; omega
  dsimp only
  intro V4 bk l4 e4 n4
  have hne':ws≠[]:=by obtain ⟨_,_,x1,x2,p,y1,y2,q,z1,z2,r,rfl,-⟩:=hs; exact fun h=>nomatch h
  refine ⟨bk,ws,rfl,e4 hne',?_,hs.le l4⟩
  rcases n4 hne' with h | ⟨-,h⟩ | h
  ·exact .inl h
  ·exact .inr h
  ·exact h.elim
theorem sz_gI {a b c:Rat} {k:Nat} (sa:Sz k a) (sb:Sz k b) (sc:Sz k c):Sz (3 * k + 2) (gcdQ (gcdQ a b) c)⁻¹:=
 sz_inv (Sz.mono (Sz_gcdQ (Sz_gcdQ sa sb) sc) (by omega))
theorem sz_mkLn {a b c:Rat} {k:Nat} (sa:Sz k a) (sb:Sz k b) (sc:Sz k c) (h:¬ (a=0/\b=0)):SzL (4 * k + 3) (mkLn a b c):=by
 obtain ⟨-,e1,e2,e3⟩:=mkLn_spec (c:=c) h
 have sg:=sz_gI sa sb sc
 unfold SzL
 rw [← e1,← e2,← e3]
 exact ⟨Sz.mono (Sz.mul sa sg) (by omega),Sz.mono (Sz.mul sb sg) (by omega),Sz.mono (Sz.mul sc sg) (by omega)⟩
theorem c_geo_Make {V:View} {u v w:Value} {a b c:Rat} (ha:RR V u a) (hb:RR V v b) (hc:RR V w c) {k:Nat} (sa:Sz k a) (sb:Sz k b) (sc:Sz k c) (hk:8 * k + 8 < 274877906944) :
  Acts prog 159 #[u,v,w] V fun r V'=>(a=0/\b=0->∃l,r=.tuple #[l,.bool false]/\RLi V' l (0,0,0))/\(¬ (a=0/\b=0)->∃l,r=.tuple #[l,.bool true]/\RLi V' l (mkLn a b c)):=by
 have ha0:=ha
 have hb0:=hb
 have hc0:=hc
 obtain ⟨a0,a1,a2,rfl⟩:=ha.shape
 obtain ⟨b0,b1,b2,rfl⟩:=hb.shape
 obtain ⟨c0,c1,c2,rfl⟩:=hc.shape
 have sg:=sz_gI sa sb sc
 have gen:∀V6:View,V.Le V6->¬ (a=0/\b=0)->(∀V6':View,V6.Le V6'->Acts prog 154 #[.agg #[.int .i64 a0,.int .i64 a1,.pointer a2],.agg #[.int .i64 b0,.int .i64 b1,.pointer b2]] V6' fun r6_ V7=>∃x3_:Int,∃x4_:Int,∃p5_:OA,r6_=.agg #[.int .i64 x3_,.int .i64 x4_,.pointer p5_]/\(∀V8:View,V7.Le V8->Acts prog 154 #[.agg #[.int .i64 x3_,.int .i64 x4_,.pointer p5_],.agg #[.int .i64 c0,.int .i64 c1,.pointer c2]] V8 fun r8_ V9=>∃x6_:Int,∃x7_:Int,∃p8_:OA,r8_=.agg #[.int .i64 x6_,.int .i64 x7_,.pointer p8_]/\(∀V10:View,V9.Le V10->Acts prog 197 #[.agg #[.int .i64 x6_,.int .i64 x7_,.pointer p8_]] V10 fun r10_ V11=>∃x9_:Int,∃x10_:Int,∃p11_:OA,r10_=.agg #[.int .i64 x9_,.int .i64 x10_,.pointer p11_]/\(∀V12:View,V11.Le V12->∀bk12_:Nat,(V12.w.heap[bk12_]?=some (.cells #[.int .i64 a0,.int .i64 a1,.pointer a2,.int .i64 b0,.int .i64 b1,.pointer b2,.int .i64 c0,.int .i64 c1,.pointer c2] 108 (0,0)))->(V12.H bk12_)->Acts prog 196 #[.agg #[.int .i64 x9_,.int .i64 x10_,.pointer p11_],.slice (some ⟨bk12_,0,none⟩) 3 3] (V12.lend [bk12_]) fun r12_ V13=>∃(bm14_:Nat) (vm15_:List Value),(vm15_≠[]->V13.w.heap[bm14_]?=some (.cells vm15_.toArray 108 (0,0)))/\(vm15_≠[]->V12.w.heap.size<=bm14_ \/ bm14_=bk12_)/\∃(p13_:OA) (n13_ c13_:Nat),r12_=.slice (mA bm14_ c13_) n13_ c13_/\((0<=(0:Int)/\(0:Int) < ((n13_:Nat):Int))/\(n13_<=c13_)/\(∃x16_:Int,∃x17_:Int,∃p18_:OA,(3<=vm15_.length/\(vm15_.drop 0).take 3=[.int .i64 x16_,.int .i64 x17_,.pointer p18_])/\((0<=(1:Int)/\(1:Int) < ((n13_:Nat):Int))/\(n13_<=c13_)/\(∃x19_:Int,∃x20_:Int,∃p21_:OA,(6<=vm15_.length/\(vm15_.drop 3).take 3=[.int .i64 x19_,.int .i64 x20_,.pointer p21_])/\((0<=(2:Int)/\(2:Int) < ((n13_:Nat):Int))/\(n13_<=c13_)/\(∃x22_:Int,∃x23_:Int,∃p24_:OA,(9<=vm15_.length/\(vm15_.drop 6).take 3=[.int .i64 x22_,.int .i64 x23_,.pointer p24_])/\(∀V14:View,(V13.shut.hideG (vm15_≠[]) bm14_).Le V14->(fun (r:Value) (V':View)=>(a=0/\b=0->∃l,r=.tuple #[l,.bool false]/\RLi V' l (0,0,0))/\(¬ (a=0/\b=0)->∃l,r=.tuple #[l,.bool true]/\RLi V' l (mkLn a b c))) (.tuple #[.agg #[.int .i64 x16_,.int .i64 x17_,.pointer p18_,.int .i64 x19_,.int .i64 x20_,.pointer p21_,.int .i64 x22_,.int .i64 x23_,.pointer p24_],.bool true]) V14))))))))))):=by
  intro V6 l6 hne V6' l6'
  refine (c_frac_Gcd (ha0.le (l6.trans l6')) (hb0.le (l6.trans l6')) sa sb (by omega)).mono ?_
  rintro r V7 l7 g1
  have g10:=g1
  obtain ⟨_,_,_,rfl⟩:=g1.shape
  refine ⟨_,_,_,rfl,fun V8 l8=>(c_frac_Gcd (g10.le l8) (hc0.le (l6.trans (l6'.trans (l7.trans l8)))) (Sz_gcdQ sa sb) sc (by omega)).mono ?_⟩
  rintro r V9 l9 g2
  have g20:=g2
  obtain ⟨_,_,_,rfl⟩:=g2.shape
  refine ⟨_,_,_,rfl,fun V10 l10=>(c_R_Inv (g20.le l10) (Sz_gcdQ (Sz_gcdQ sa sb) sc) (by omega)).mono ?_⟩
  rintro r V11 l11 g3
  have g30:=g3
  obtain ⟨_,_,_,rfl⟩:=g3.shape
  refine ⟨_,_,_,rfl,fun V12 l12 bk e12 h12=>?_⟩
  have l012:V.Le (V12.lend [bk]):=fun b o h=>l12 b o (l11 b o (l10 b o (l9 b o (l8 b o (l7 b o (l6' b o (l6 b o h)))))))
  have l1112:V11.Le (V12.lend [bk]):=fun b o h=>l12 b o h
  refine (c_geo_scaled (V:=V12.lend [bk]) (a:=a) (b:=b) (c:=c) (lb:=bk) (vs:=[.int .i64 a0,.int .i64 a1,.pointer a2,.int .i64 b0,.int .i64 b1,.pointer b2,.int .i64 c0,.int .i64 c1,.pointer c2]) (g30.le l1112)
   ⟨by decide,by decide,_,_,_,_,_,_,_,_,_,rfl,by rw [if_neg (by (try dsimp only); decide)]; exact ha0.le l012,by rw [if_neg (by (try dsimp only); decide)]; exact hb0.le l012,by rw [if_neg (by (try dsimp only); decide)]; exact hc0.le l012⟩ e12 ⟨by simp,h12⟩ (Sz.mono sg (by omega):Sz (3 * k + 2) _) (Sz.mono sa (by omega)) (Sz.mono sb (by omega)) (Sz.mono sc (by omega)) (by omega)).mono ?_
  rintro r V13 l13 ⟨bm,ws,rfl,e13,n13,hs⟩
  obtain ⟨-,-,x1,x2,p,y1,y2,q,z1,z2,r,rfl,s1,s2,s3⟩:=hs
  rw [if_pos (by (try dsimp only); decide)] at s1 s2 s3
  refine ⟨bm,_,fun _=>e13,fun _=>n13,none,3,3,rfl,⟨by decide,by decide⟩,by decide,x1,x2,p,⟨by simp,rfl⟩,⟨by decide,by decide⟩,by decide,y1,y2,q,⟨by simp,rfl⟩,⟨by decide,by decide⟩,by decide,z1,z2,r,⟨by simp,rfl⟩,fun V14 l14=>⟨fun h=>absurd h hne,fun _=>⟨_,rfl,?_⟩⟩⟩
  obtain ⟨-,e1,e2,e3⟩:=mkLn_spec (c:=c) hne
  have l14':(V13.hideG ([Value.int .i64 x1,.int .i64 x2,.pointer p,.int .i64 y1,.int .i64 y2,.pointer q,.int .i64 z1,.int .i64 z2,.pointer r]≠[]) bm).Le V14:=fun b o h=>l14 b o h
  refine ⟨_,_,_,_,_,_,_,_,_,rfl,?_,?_,?_⟩
  ·rw [← e1]; exact s1.le l14'
  ·rw [← e2]; exact s2.le l14'
  ·rw [← e3]; exact s3.le l14'
 refine vc_geo_Make a0 a1 a2 b0 b1 b2 c0 c1 c2 V _ fun V1 l1=>(c_R_Zero (ha0.le l1)).mono ?_
 rintro r V2 l2 rfl
 refine ⟨_,rfl,fun hz V3 l3=>(c_R_Zero (hb0.le (l1.trans (l2.trans l3)))).mono ?_,fun hz=>?_⟩
 ·rintro r V4 l4 rfl
  refine ⟨_,rfl,fun hy V5 l5=>?_,fun hy=>gen V4 (l1.trans (l2.trans (l3.trans l4))) (fun h=>of_decide_eq_false hy h.2)⟩
  have hz:=of_decide_eq_true hz
  have hy:=of_decide_eq_true hy
  refine ⟨fun _=>⟨_,rfl,_,_,_,_,_,_,_,_,_,rfl,RR.zero _,RR.zero _,RR.zero _⟩,fun h=>absurd ⟨hz,hy⟩ h⟩
 ·exact gen V2 (l1.trans l2) (fun h=>of_decide_eq_false hz h.1)
/-- The line through two points. -/
def thrL (px py qx qy:Rat):L3:=mkLn (-(qy - py)) (qx - px) (-(-(qy - py) * px + (qx - px) * py))
theorem thrL_ne {px py qx qy:Rat} (h:¬ (px=qx/\py=qy)):¬ (-(qy - py)=0/\qx - px=0):=by
 rintro ⟨h1,h2⟩; exact h ⟨by grind,by grind⟩
theorem thrL_eq {px py qx qy:Rat}:(px=qx/\py=qy)↔(-(qy - py)=0/\qx - px=0):=⟨fun ⟨h1,h2⟩=>⟨by grind,by grind⟩,fun ⟨h1,h2⟩=>⟨by grind,by grind⟩⟩
theorem thrL_nz {px py qx qy:Rat} (h:¬ (px=qx/\py=qy)):Nz (thrL px py qx qy):=mkLn_nz (thrL_ne h)
theorem sz_thrL {px py qx qy:Rat} {k:Nat} (s1:Sz k px) (s2:Sz k py) (s3:Sz k qx) (s4:Sz k qy) (h:¬ (px=qx/\py=qy)):SzL (40 * k + 40) (thrL px py qx qy):=by
 have ta:Sz (2 * k + 1) (-(qy - py)):=Sz.mono (s4.sub s2).neg (by omega)
 have tb:Sz (2 * k + 1) (qx - px):=Sz.mono (s3.sub s1) (by omega)
 have tc:Sz (8 * k + 8) (-(-(qy - py) * px + (qx - px) * py)):=Sz.mono ((ta.mul s1).add (tb.mul s2)).neg (by omega)
 have:=sz_mkLn (k:=8 * k + 8) (Sz.mono ta (by omega)) (Sz.mono tb (by omega)) tc (thrL_ne h)
 exact ⟨Sz.mono this.1 (by omega),Sz.mono this.2.1 (by omega),Sz.mono this.2.2 (by omega)⟩
theorem c_geo_Through {V:View} {u v:Value} {px py qx qy:Rat} (hp:RPt V u px py) (hq:RPt V v qx qy) {k:Nat} (s1:Sz k px) (s2:Sz k py) (s3:Sz k qx) (s4:Sz k qy) (hk:100 * k + 100 < 274877906944) :
  Acts prog 100 #[u,v] V fun r V'=>(px=qx/\py=qy->∃l,r=.tuple #[l,.bool false]/\RLi V' l (0,0,0))/\(¬ (px=qx/\py=qy)->∃l,r=.tuple #[l,.bool true]/\RLi V' l (thrL px py qx qy)):=by
 have hp0:=hp
 have hq0:=hq
 obtain ⟨p0,p1,p2,p3,p4,p5,rfl,-,-⟩:=hp
 obtain ⟨q0,q1,q2,q3,q4,q5,rfl,-,-⟩:=hq
 have ta:Sz (2 * k + 1) (-(qy - py)):=Sz.mono (s4.sub s2).neg (by omega)
 have tb:Sz (2 * k + 1) (qx - px):=Sz.mono (s3.sub s1) (by omega)
 have td:Sz (2 * k + 1) (qy - py):=Sz.mono (s4.sub s2) (by omega)
 have tc:Sz (8 * k + 8) (-(qy - py) * px + (qx - px) * py):=Sz.mono ((ta.mul s1).add (tb.mul s2)) (by omega)
 refine vc_geo_Through p0 p1 p2 p3 p4 p5 q0 q1 q2 q3 q4 q5 V _ fun V1 l1=>(c_geo_Pt_Sub (hq0.le l1) (hp0.le l1) s3 s4 s1 s2 (by omega)).mono ?_
 rintro r V2 l2 g1
 have g10:=g1
 obtain ⟨_,_,_,_,_,_,rfl,-,-⟩:=g1
 refine ⟨_,_,_,_,_,_,rfl,fun V3 l3=>(c_geo_Pt_Turn (g10.le l3) tb td (by omega)).mono ?_⟩
 rintro r V4 l4 g2
 have g20:=g2
 obtain ⟨_,_,_,_,_,_,rfl,g21,g22⟩:=g2
 refine ⟨_,_,_,_,_,_,rfl,fun V5 l5=>(c_geo_Pt_Dot (g20.le l5) (hp0.le (l1.trans (l2.trans (l3.trans (l4.trans l5))))) (k:=2 * k + 1) ta tb (Sz.mono s1 (by omega)) (Sz.mono s2 (by omega)) (by omega)).mono ?_⟩
 rintro r V6 l6 g3
 have g30:=g3
 obtain ⟨_,_,_,rfl⟩:=g3.shape
 refine ⟨_,_,_,rfl,fun V7 l7=>(c_R_Neg (g30.le l7) tc (by omega)).mono ?_⟩
 rintro r V8 l8 g4
 have g40:=g4
 obtain ⟨_,_,_,rfl⟩:=g4.shape
 refine ⟨_,_,_,rfl,fun V9 l9=>(c_geo_Make (g21.le (l5.trans (l6.trans (l7.trans (l8.trans l9))))) (g22.le (l5.trans (l6.trans (l7.trans (l8.trans l9))))) (g40.le l9) (k:=8 * k + 8) (Sz.mono ta (by omega)) (Sz.mono tb (by omega)) tc.neg (by omega)).mono ?_⟩
 rintro r V10 l10 ⟨m1,m2⟩
 by_cases h:px=qx/\py=qy
 ·obtain ⟨l,rfl,g5⟩:=m1 (thrL_eq.1 h)
  have g50:=g5
  obtain ⟨_,_,_,_,_,_,_,_,_,rfl,-,-,-⟩:=g5
  exact ⟨_,_,_,_,_,_,_,_,_,_,rfl,fun V11 l11=>⟨fun _=>⟨_,rfl,g50.le l11⟩,fun h'=>absurd h h'⟩⟩
 ·obtain ⟨l,rfl,g5⟩:=m2 (thrL_ne h)
  have g50:=g5
  obtain ⟨_,_,_,_,_,_,_,_,_,rfl,-,-,-⟩:=g5
  exact ⟨_,_,_,_,_,_,_,_,_,_,rfl,fun V11 l11=>⟨fun h'=>absurd h' h,fun _=>⟨_,rfl,g50.le l11⟩⟩⟩
/-- The segment's span. -/
def segS (px py qx qy:Rat):Sp:=⟨parL (thrL px py qx qy) px py,parL (thrL px py qx qy) qx qy,false,false⟩
theorem c_geo_Segment {V:View} {u v:Value} {px py qx qy:Rat} (hp:RPt V u px py) (hq:RPt V v qx qy) {k:Nat} (s1:Sz k px) (s2:Sz k py) (s3:Sz k qx) (s4:Sz k qy) (hk:400 * k + 400 < 274877906944) :
  Acts prog 47 #[u,v] V fun r V'=>(px=qx/\py=qy->∃l,r=.tuple #[l,.bool false]/\RFr V' l (0,0,0) Sp.zero)/\(¬ (px=qx/\py=qy)->∃l,r=.tuple #[l,.bool true]/\RFr V' l (thrL px py qx qy) (segS px py qx qy)):=by
 have hp0:=hp
 have hq0:=hq
 obtain ⟨p0,p1,p2,p3,p4,p5,rfl,-,-⟩:=hp
 obtain ⟨q0,q1,q2,q3,q4,q5,rfl,-,-⟩:=hq
 refine vc_geo_Segment p0 p1 p2 p3 p4 p5 q0 q1 q2 q3 q4 q5 V _ fun V1 l1=>(c_geo_Through (hp0.le l1) (hq0.le l1) s1 s2 s3 s4 (by omega)).mono ?_
 rintro r V2 l2 ⟨m1,m2⟩
 by_cases h:px=qx/\py=qy
 ·obtain ⟨l,rfl,g5⟩:=m1 h
  obtain ⟨_,_,_,_,_,_,_,_,_,rfl,-,-,-⟩:=g5
  refine ⟨_,_,_,_,_,_,_,_,_,_,rfl,fun _ V3 l3=>⟨fun _=>⟨_,rfl,?_⟩,fun h'=>absurd h h'⟩,fun h=>nomatch h⟩
  exact ⟨_,_,_,_,_,_,_,_,_,_,_,_,_,_,_,rfl,⟨_,_,_,_,_,_,_,_,_,rfl,RR.zero _,RR.zero _,RR.zero _⟩,_,_,_,_,_,_,rfl,RR.zero _,RR.zero _⟩
 ·obtain ⟨l,rfl,g5⟩:=m2 h
  have g50:=g5
  have sl:=sz_thrL s1 s2 s3 s4 h
  obtain ⟨_,_,_,_,_,_,_,_,_,rfl,-,-,-⟩:=g5
  refine ⟨_,_,_,_,_,_,_,_,_,_,rfl,(fun h=>nomatch h),fun _ V4 l4=>(k_Param (g50.le l4) (hp0.le (l1.trans (l2.trans l4))) sl (Sz.mono s1 (by omega)) (Sz.mono s2 (by omega)) (by omega)).mono ?_⟩
  rintro r V5 l5 e1
  have e10:=e1
  obtain ⟨_,_,_,rfl⟩:=e1.shape
  refine ⟨_,_,_,rfl,fun V6 l6=>(k_Param (g50.le (l4.trans (l5.trans l6))) (hq0.le (l1.trans (l2.trans (l4.trans (l5.trans l6))))) sl (Sz.mono s3 (by omega)) (Sz.mono s4 (by omega)) (by omega)).mono ?_⟩
  rintro r V7 l7 e2
  have e20:=e2
  obtain ⟨_,_,_,rfl⟩:=e2.shape
  refine ⟨_,_,_,rfl,fun V8 l8=>⟨fun h'=>absurd h' h,fun _=>⟨_,rfl,?_⟩⟩⟩
  exact ⟨_,_,_,_,_,_,_,_,_,_,_,_,_,_,_,rfl,g50.le (l4.trans (l5.trans (l6.trans (l7.trans l8)))),_,_,_,_,_,_,rfl,e10.le (l6.trans (l7.trans l8)),e20.le l8⟩
end Go.Proofs.Tryz
/- Contracts: spans and fragments of package api, read and written by package geo. -/
namespace Go.Proofs.Tryz
open Go.Eng Go.Big
def rawQ (b:Bool) (xs ys:List Nat):Rat:=mkRat (ival b xs) (val ys)
def nrmQ (b:Bool) (xs ys:List Nat):Bool:=NrmI b xs && decide (digs (val ys)=ys) && !decide (ys=[]) && decide (Nat.gcd (val xs) (val ys)=1)
def zerQ (b:Bool) (xs ys:List Nat):Bool:=!b && decide (xs=[]) && decide (ys=[])
def endQ (b:Bool) (xs ys:List Nat) (no:Bool):Rat:=if no then 0 else rawQ b xs ys
def endOk (b:Bool) (xs ys:List Nat) (no:Bool):Bool:=if no then zerQ b xs ys else nrmQ b xs ys
theorem nrm_gcd {q:Rat}:nrmQ (decide (q.num < 0)) (digs q.num.natAbs) (digs q.den)=true/\rawQ (decide (q.num < 0)) (digs q.num.natAbs) (digs q.den)=q:=by
 constructor
 ·unfold nrmQ
  have h1:NrmI (decide (q.num < 0)) (digs q.num.natAbs)=true:=by
   unfold NrmI
   rw [val_digs]
   by_cases h:q.num < 0
   ·have:digs q.num.natAbs≠[]:=fun e=>by have:=digs_eq_nil.1 e; omega
    simp [h,this]
   ·simp [h]
  have h2:digs q.den≠[]:=fun e=>q.den_nz (digs_eq_nil.1 e)
  rw [h1,val_digs,val_digs]
  simp [h2,q.reduced,Nat.Coprime.gcd_eq_one q.reduced]
 ·unfold rawQ
  rw [ival_digs,val_digs,Rat.mkRat_self]
theorem c_frac_Normal {V:View} (b:Bool) {p q:OA} {n c m e:Nat} {xs ys:List Nat} (hx:RD V p n c xs) (hy:RD V q m e ys) (hm:xs.length<=1099511627776) (hn:ys.length<=1099511627776) :
  Acts prog 209 #[.agg #[.bool b,.slice p n c,.slice q m e]] V fun r V'=>r=.bool (nrmQ b xs ys):=by
 refine vc_frac_Normal b p n c q m e V _ fun V1 l1=>(c_integer_Normal b (hx.le l1) hm).mono ?_
 rintro r V2 l2 rfl
 refine ⟨_,rfl,fun h V3 l3=>by rw [Bool.not_eq_true'] at h; simp [nrmQ,h],fun h1 V4 l4=>(c_nat_Normal (hy.le (l1.trans (l2.trans l4))) hn).mono ?_⟩
 rw [Bool.not_eq_false'] at h1
 rintro r V5 l5 rfl
 refine ⟨_,rfl,fun h V6 l6=>by rw [Bool.not_eq_true'] at h; simp [nrmQ,h],fun h2=>⟨fun h V7 l7=>?_,fun h3 V8 l8=>?_⟩⟩
 ·have hl:=hy.len
  have:ys=[]:=by
   have h:((m:Nat):Int)=0:=by simpa using h
   exact List.length_eq_zero_iff.1 (by omega)
  simp [nrmQ,this]
 ·rw [Bool.not_eq_false'] at h2
  have hl:=hy.len
  have h3':ys≠[]:=fun e=>by
   have h:¬ ((m:Nat):Int)=0:=by simpa using h3
   rw [e] at hl; exact h (by simp at hl; omega)
  have l08:=l1.trans (l2.trans (l4.trans (l5.trans l8)))
  refine (c_nat_Gcd (hx.le l08) (hy.le l08) hm hn).mono ?_
  rintro r V9 l9 ⟨p1,n1,c1,rfl,g⟩
  have lg:(digs (Nat.gcd (val xs) (val ys))).length<=1099511627776:=by
   have h1:=digs_val_len hx.dig
   have h2:=digs_val_len hy.dig
   by_cases h0:val xs=0
   ·rw [h0,Nat.gcd_zero_left]; omega
   ·have:Nat.gcd (val xs) (val ys)<=val xs:=Nat.gcd_le_left _ (by omega)
    have:=digs_len_mono this
    omega
  refine ⟨_,_,_,rfl,fun V10 l10=>(c_nat_Bits (g.le l10) lg).mono ?_⟩
  rintro r V11 l11 rfl
  refine ⟨_,rfl,fun V12 l12=>?_⟩
  have hb:(((blen (val (digs (Nat.gcd (val xs) (val ys)))):Nat):Int) == 1)=decide (Nat.gcd (val xs) (val ys)=1):=by
   rw [val_digs,Bool.eq_iff_iff,beq_iff_eq,decide_eq_true_eq]
   have gen:∀g:Nat,((blen g:Nat):Int)=1↔g=1:=fun g=>by
    have a1:blen g<=1↔g < 2:=@blen_le g 1
    have a2:blen g<=0↔g < 1:=@blen_le g 0
    omega
   exact gen _
  rw [hb]
  simp [nrmQ,h1,h2,h3']
theorem c_geo_end {V:View} {v:Value} {b:Bool} {xs ys:List Nat} (no:Bool) (h:RRw V v b xs ys) (hm:xs.length<=1099511627776) (hn:ys.length<=1099511627776) :
  Acts prog 171 #[v,.bool no] V fun r V'=>∃w,r=.tuple #[w,.bool (endOk b xs ys no)]/\RR V' w (endQ b xs ys no):=by
 obtain ⟨p,n,c,q,m,e,rfl,hx,hy⟩:=h
 have hl:=hx.len
 have hl':=hy.len
 refine vc_geo_end b p n c q m e no V _ ⟨?_,?_⟩
 ·rintro rfl
  have z:∀V':View,RR V' (.agg #[.int .i64 0,.int .i64 0,.pointer none]) (endQ b xs ys true):=fun V'=>RR.zero V'
  refine ⟨fun h=>⟨fun h1 V1 l1=>⟨_,?_,z _⟩,fun h1 V2 l2=>⟨_,?_,z _⟩⟩,fun h V3 l3=>⟨_,?_,z _⟩⟩
  ·have e1:xs=[]:=by
    have h:((n:Nat):Int)=0:=by simpa using h1
    exact List.length_eq_zero_iff.1 (by omega)
   have e2:(((m:Nat):Int) == 0)=decide (ys=[]):=by
    rw [Bool.eq_iff_iff,beq_iff_eq,decide_eq_true_eq,← List.length_eq_zero_iff]; omega
   rw [Bool.not_eq_true'] at h
   simp [endOk,zerQ,h,e1,← e2]
  ·have e1:xs≠[]:=fun e=>by
    have h:¬ ((n:Nat):Int)=0:=by simpa using h1
    rw [e] at hl; exact h (by simp at hl; omega)
   simp [endOk,zerQ,e1]
  ·rw [Bool.not_eq_false'] at h
   simp [endOk,zerQ,h]
 ·rintro rfl V4 l4
  refine (c_frac_Of' b (hx.le l4) (hy.le l4) hm hn).mono ?_
  rintro r V5 l5 g
  have g0:=g
  obtain ⟨_,_,_,rfl⟩:=g.shape
  refine ⟨_,_,_,rfl,fun V6 l6=>(c_frac_Normal b (hx.le (l4.trans (l5.trans l6))) (hy.le (l4.trans (l5.trans l6))) hm hn).mono ?_⟩
  rintro r V7 l7 rfl
  exact ⟨_,rfl,fun V8 l8=>⟨_,rfl,g0.le (l6.trans (l7.trans l8))⟩⟩
theorem c_Iv_empty {V:View} {v:Value} {s:Sp} (h:RIv V v s) {k:Nat} (hs:s.sz k) (hk:2 * k < 1099511627776) :
  Acts prog 172 #[v] V fun r V'=>r=.bool s.emp:=by
 obtain ⟨x1,x2,p,y1,y2,q,rfl,h1,h2⟩:=h
 refine vc_geo_Iv_empty x1 x2 p y1 y2 q s.a s.b V _ ⟨fun ha=>⟨fun hb V1 l1=>(c_R_Cmp (h1.le l1) (h2.le l1) hs.1 hs.2 (by omega)).mono ?_,fun hb V4 l4=>?_⟩,fun ha V5 l5=>?_⟩
 ·rintro r V2 l2 rfl
  exact ⟨_,rfl,fun V3 l3=>by rw [Bool.not_eq_true'] at ha hb; simp [Sp.emp,ha,hb]⟩
 ·rw [Bool.not_eq_false'] at hb; simp [Sp.emp,hb]
 ·rw [Bool.not_eq_false'] at ha; simp [Sp.emp,ha]
/-- A span of package api in any form. -/
def RSw (V:View) (v:Value) (b1:Bool) (xs1 ys1:List Nat) (b2:Bool) (xs2 ys2:List Nat) (na nb:Bool):Prop:=∃p n c p' n' c' q m e q' m' e',v=.agg #[.bool b1,.slice p n c,.slice p' n' c',.bool b2,.slice q m e,.slice q' m' e',.bool na,.bool nb] /\
 RRw V (.agg #[.bool b1,.slice p n c,.slice p' n' c']) b1 xs1 ys1/\RRw V (.agg #[.bool b2,.slice q m e,.slice q' m' e']) b2 xs2 ys2
theorem RSw.le {V V':View} {v:Value} {b1:Bool} {xs1 ys1:List Nat} {b2:Bool} {xs2 ys2:List Nat} {na nb:Bool} (h:RSw V v b1 xs1 ys1 b2 xs2 ys2 na nb) (l:V.Le V'):RSw V' v b1 xs1 ys1 b2 xs2 ys2 na nb:=by
 obtain ⟨p,n,c,p',n',c',q,m,e,q',m',e',rfl,h1,h2⟩:=h
 exact ⟨_,_,_,_,_,_,_,_,_,_,_,_,rfl,h1.le l,h2.le l⟩
def spW (b1:Bool) (xs1 ys1:List Nat) (b2:Bool) (xs2 ys2:List Nat) (na nb:Bool):Sp:=⟨endQ b1 xs1 ys1 na,endQ b2 xs2 ys2 nb,na,nb⟩
def okW (b1:Bool) (xs1 ys1:List Nat) (b2:Bool) (xs2 ys2:List Nat) (na nb:Bool):Bool:=endOk b1 xs1 ys1 na && endOk b2 xs2 ys2 nb && !(spW b1 xs1 ys1 b2 xs2 ys2 na nb).emp
theorem c_geo_IvOf {V:View} {v:Value} {b1:Bool} {xs1 ys1:List Nat} {b2:Bool} {xs2 ys2:List Nat} {na nb:Bool} (h:RSw V v b1 xs1 ys1 b2 xs2 ys2 na nb) (m1:xs1.length<=1099511627776) (m2:ys1.length<=1099511627776) (m3:xs2.length<=1099511627776) (m4:ys2.length<=1099511627776)
  {k:Nat} (hs:(spW b1 xs1 ys1 b2 xs2 ys2 na nb).sz k) (hk:2 * k < 1099511627776) :
  Acts prog 122 #[v] V fun r V'=>∃w,r=.tuple #[w,.bool (okW b1 xs1 ys1 b2 xs2 ys2 na nb)]/\RIv V' w (spW b1 xs1 ys1 b2 xs2 ys2 na nb):=by
 obtain ⟨p,n,c,p',n',c',q,m,e,q',m',e',rfl,h1,h2⟩:=h
 refine vc_geo_IvOf b1 p n c p' n' c' b2 q m e q' m' e' na nb V _ fun V1 l1=>(c_geo_end na (h1.le l1) m1 m2).mono ?_
 rintro r V2 l2 ⟨w,rfl,g1⟩
 have g10:=g1
 obtain ⟨x1,x2,x3,rfl⟩:=g1.shape
 refine ⟨_,_,_,_,rfl,fun V3 l3=>(c_geo_end nb (h2.le (l1.trans (l2.trans l3))) m3 m4).mono ?_⟩
 rintro r V4 l4 ⟨w,rfl,g2⟩
 have g20:=g2
 obtain ⟨y1,y2,y3,rfl⟩:=g2.shape
 have iv:∀V5:View,V4.Le V5->RIv V5 (.agg #[.int .i64 x1,.int .i64 x2,.pointer x3,.int .i64 y1,.int .i64 y2,.pointer y3,.bool na,.bool nb]) (spW b1 xs1 ys1 b2 xs2 ys2 na nb):=fun V5 l5=>⟨_,_,_,_,_,_,rfl,g10.le (l3.trans (l4.trans l5)),g20.le l5⟩
 refine ⟨_,_,_,_,rfl,fun ha=>⟨fun hb V5 l5=>(c_Iv_empty (iv V5 l5) hs hk).mono ?_,fun hb V8 l8=>⟨_,?_,iv V8 l8⟩⟩,fun ha V9 l9=>⟨_,?_,iv V9 l9⟩⟩
 ·rintro r V6 l6 rfl
  exact ⟨_,rfl,fun V7 l7=>⟨_,by simp [okW,ha,hb],iv V7 (l5.trans (l6.trans l7))⟩⟩
 ·simp [okW,hb]
 ·simp [okW,ha]
/-- What is right to read: a fragment whose line is in lowest terms and whose span has a length. -/
def FOk (l:L3) (s:Sp):Prop:=okL l=true/\s.can/\s.emp=false
theorem RE.raw {V:View} {v:Value} {q:Rat} {no:Bool} (h:RE V v q no) (hc:no=true->q=0):∃b xs ys,RRw V v b xs ys/\endOk b xs ys no=true/\endQ b xs ys no=q/\(∀k,Sz k q->xs.length<=k/\ys.length<=k):=by
 cases no with
 | true=>
  exact ⟨false,[],[],h.1 rfl,rfl,by rw [hc rfl]; rfl,fun k _=>⟨Nat.zero_le _,Nat.zero_le _⟩⟩
 | false=>
  obtain ⟨p,n,c,p',n',c',rfl,h1,h2⟩:=h.2 rfl
  exact ⟨_,_,_,⟨_,_,_,_,_,_,rfl,h1,h2⟩,nrm_gcd.1,nrm_gcd.2,fun k hk=>⟨digs_len_bits hk.1,digs_len_bits hk.2⟩⟩
theorem c_IvOf_ok {V:View} {v:Value} {s:Sp} (h:RSp V v s) (hc:s.can) (hne:s.emp=false) {k:Nat} (hs:s.sz k) (hk:2 * k < 1099511627776) :
  Acts prog 122 #[v] V fun r V'=>∃w,r=.tuple #[w,.bool true]/\RIv V' w s:=by
 obtain ⟨b,p,n,c,p',n',c',d,q,m,e,q',m',e',rfl,h1,h2⟩:=h
 obtain ⟨b1,xs1,ys1,r1,o1,q1,z1⟩:=h1.raw hc.1
 obtain ⟨b2,xs2,ys2,r2,o2,q2,z2⟩:=h2.raw hc.2
 have e1:b=b1:=by obtain ⟨_,_,_,_,_,_,e,-⟩:=r1; injection e with e; simp at e; exact e.1
 have e2:d=b2:=by obtain ⟨_,_,_,_,_,_,e,-⟩:=r2; injection e with e; simp at e; exact e.1
 subst e1 e2
 have z1:=z1 k hs.1
 have z2:=z2 k hs.2
 have es:spW b xs1 ys1 d xs2 ys2 s.a s.b=s:=by unfold spW; rw [q1,q2]
 refine (c_geo_IvOf (V:=V) (b1:=b) (xs1:=xs1) (ys1:=ys1) (b2:=d) (xs2:=xs2) (ys2:=ys2) (na:=s.a) (nb:=s.b) ⟨_,_,_,_,_,_,_,_,_,_,_,_,rfl,r1,r2⟩ (by omega) (by omega) (by omega) (by omega) (k:=k) (by rw [es]; exact hs) hk).mono ?_
 rintro r V2 l2 ⟨w,rfl,g⟩
 rw [es] at g
 exact ⟨w,by unfold okW; rw [es,o1,o2,hne]; rfl,g⟩
theorem c_Iv_API {V:View} {v:Value} {s:Sp} (h:RIv V v s) {k:Nat} (hs:s.sz k) (hk:k<=1099511627776):Acts prog 104 #[v] V fun r V'=>RSp V' r s:=by
 obtain ⟨x1,x2,p,y1,y2,q,rfl,h1,h2⟩:=h
 have t:∀{V:View} {v:Value} {x:Rat} {no:Bool},RA V v x->(!no)=true->RE V v x no:=fun h e=>by
  rw [Bool.not_eq_true'] at e; subst e; exact ⟨(fun h=>nomatch h),fun _=>h⟩
 have f:∀{V:View} {x:Rat} {no:Bool},(!no)=false->RE V (.agg #[.bool false,.slice none 0 0,.slice none 0 0]) x no:=fun e=>by
  rw [Bool.not_eq_false'] at e; subst e; exact ⟨fun _=>RRw.nil,(fun h=>nomatch h)⟩
 refine vc_geo_Iv_API x1 x2 p y1 y2 q s.a s.b V _ ⟨fun ha V1 l1=>(c_R_API (h1.le l1) hs.1 hk).mono ?_,fun ha=>⟨fun hb V7 l7=>(c_R_API (h2.le l7) hs.2 hk).mono ?_,fun hb V10 l10=>?_⟩⟩
 ·rintro r V2 l2 g1
  have g10:=g1
  obtain ⟨_,_,_,_,_,_,_,rfl⟩:=g1.shape
  refine ⟨_,_,_,_,_,_,_,rfl,fun hb V3 l3=>(c_R_API (h2.le (l1.trans (l2.trans l3))) hs.2 hk).mono ?_,fun hb V6 l6=>?_⟩
  ·rintro r V4 l4 g2
   have g20:=g2
   obtain ⟨_,_,_,_,_,_,_,rfl⟩:=g2.shape
   exact ⟨_,_,_,_,_,_,_,rfl,fun V5 l5=>⟨_,_,_,_,_,_,_,_,_,_,_,_,_,_,rfl,t (g10.le (l3.trans (l4.trans l5))) ha,t (g20.le l5) hb⟩⟩
  ·exact ⟨_,_,_,_,_,_,_,_,_,_,_,_,_,_,rfl,t (g10.le l6) ha,f hb⟩
 ·rintro r V8 l8 g2
  have g20:=g2
  obtain ⟨_,_,_,_,_,_,_,rfl⟩:=g2.shape
  exact ⟨_,_,_,_,_,_,_,rfl,fun V9 l9=>⟨_,_,_,_,_,_,_,_,_,_,_,_,_,_,rfl,f ha,t (g20.le l9) hb⟩⟩
 ·exact ⟨_,_,_,_,_,_,_,_,_,_,_,_,_,_,rfl,f ha,f hb⟩
theorem RLi.api {V:View} {r:Value} {l:L3} (h:RL V r ((l.1:Rat)).num ((l.2.1:Rat)).num ((l.2.2:Rat)).num):RL V r l.1 l.2.1 l.2.2:=by
 simpa [Rat.num_intCast] using h
theorem c_Fr_API {V:View} {v:Value} {l:L3} {s:Sp} (h:RFr V v l s) {k:Nat} (sl:SzL k l) (hs:s.sz k) (hk:k<=1099511627776):Acts prog 49 #[v] V fun r V'=>RFa V' r l s:=by
 obtain ⟨x1,x2,p,y1,y2,q,z1,z2,r,u1,u2,t,w1,w2,o,rfl,h1,h2⟩:=h
 refine vc_geo_Fr_API _ _ _ _ _ _ _ _ _ _ _ _ _ _ _ _ _ V _ fun V1 l1=>(c_geo_API (h1.le l1) sl.1 sl.2.1 sl.2.2 hk).mono ?_
 rintro r V2 l2 g1
 have g10:=RLi.api g1
 obtain ⟨_,_,_,_,_,_,_,_,_,_,_,_,rfl⟩:=rl_shape g1
 refine ⟨_,_,_,_,_,_,_,_,_,_,_,_,rfl,fun V3 l3=>(c_Iv_API (h2.le (l1.trans (l2.trans l3))) hs hk).mono ?_⟩
 rintro r V4 l4 g2
 have g20:=g2
 obtain ⟨_,_,_,_,_,_,_,_,_,_,_,_,_,_,rfl,-,-⟩:=g2
 exact ⟨_,_,_,_,_,_,_,_,_,_,_,_,_,_,_,_,rfl,fun V5 l5=>⟨_,_,_,_,_,_,_,_,_,_,_,_,_,_,_,_,_,_,_,_,_,_,_,_,_,_,rfl,g10.le (l3.trans (l4.trans l5)),g20.le l5⟩⟩
theorem okL_nz {l:L3} (h:okL l=true):Nz l:=by
 unfold okL at h
 intro e
 simp [e.1,e.2] at h
theorem okL_lnOf {a b c:Int} (h:¬ (a=0/\b=0)):okL (lnOf a b c)=true:=by
 have hg:0 < gcd3 a b c:=by
  apply Nat.pos_of_ne_zero
  intro e
  have h1:=Nat.gcd_eq_zero_iff.1 e
  have h2:=Nat.gcd_eq_zero_iff.1 h1.1
  exact h ⟨by omega,by omega⟩
 have nA:gcd3 a b c ∣ a.natAbs:=Nat.dvd_trans (Nat.gcd_dvd_left _ _) (Nat.gcd_dvd_left _ _)
 have nB:gcd3 a b c ∣ b.natAbs:=Nat.dvd_trans (Nat.gcd_dvd_left _ _) (Nat.gcd_dvd_right _ _)
 have nC:gcd3 a b c ∣ c.natAbs:=Nat.gcd_dvd_right _ _
 have dv:∀{x:Int},gcd3 a b c ∣ x.natAbs->((gcd3 a b c:Nat):Int) ∣ x:=fun h=>Int.natAbs_dvd_natAbs.1 (by rw [Int.natAbs_natCast]; exact h)
 have ab:∀{x:Int},gcd3 a b c ∣ x.natAbs->(x / (gcd3 a b c:Int)).natAbs=x.natAbs / gcd3 a b c:=fun h=>by rw [Int.natAbs_ediv_of_dvd (dv h),Int.natAbs_natCast]
 have nz:∀{x:Int},gcd3 a b c ∣ x.natAbs->x / (gcd3 a b c:Int)=0->x=0:=fun hx e=>by
  obtain ⟨k,hk⟩:=dv hx
  rw [hk,Int.mul_ediv_cancel_left _ (by omega)] at e
  rw [hk,e,Int.mul_zero]
 have e:gcd3 (a / (gcd3 a b c:Int)) (b / (gcd3 a b c:Int)) (c / (gcd3 a b c:Int))=1:=by
  show Nat.gcd (Nat.gcd (a / (gcd3 a b c:Int)).natAbs (b / (gcd3 a b c:Int)).natAbs) (c / (gcd3 a b c:Int)).natAbs=1
  rw [ab nA,ab nB,ab nC,Nat.gcd_div nA nB,Nat.gcd_div (show gcd3 a b c ∣ Nat.gcd a.natAbs b.natAbs from Nat.gcd_dvd_left _ _) nC]
  exact Nat.div_self hg
 have n:¬ (a / (gcd3 a b c:Int)=0/\b / (gcd3 a b c:Int)=0):=fun ⟨h1,h2⟩=>h ⟨nz nA h1,nz nB h2⟩
 show (decide (¬ (a / (gcd3 a b c:Int)=0/\b / (gcd3 a b c:Int)=0)) && decide (gcd3 (a / (gcd3 a b c:Int)) (b / (gcd3 a b c:Int)) (c / (gcd3 a b c:Int))=1))=true
 rw [decide_eq_true n,decide_eq_true e]
 rfl
theorem okL_mkLn {a b c:Rat} (h:¬ (a=0/\b=0)):okL (mkLn a b c)=true:=by
 refine okL_lnOf ?_
 have hf:a.den * b.den * c.den≠0:=Nat.mul_ne_zero (Nat.mul_ne_zero a.den_nz b.den_nz) c.den_nz
 have hf':(((a.den * b.den * c.den:Nat):Int):Rat)≠0:=by exact_mod_cast hf
 rintro ⟨h1,h2⟩
 rw [Rat.num_eq_zero] at h1 h2
 exact h ⟨(Rat.mul_eq_zero.1 h1).elim id fun e=>absurd e hf',(Rat.mul_eq_zero.1 h2).elim id fun e=>absurd e hf'⟩
theorem okL_thrL {px py qx qy:Rat} (h:¬ (px=qx/\py=qy)):okL (thrL px py qx qy)=true:=okL_mkLn (thrL_ne h)
theorem c_LnOf_ok {V:View} {v:Value} {x:L3} (h:RL V v x.1 x.2.1 x.2.2) (ho:okL x=true) {k:Nat} (sl:SzL k x) (hk:4 * k + 4 < 1099511627776) :
  Acts prog 90 #[v] V fun r V'=>∃w,r=.tuple #[w,.bool true]/\RLi V' w x:=by
 obtain ⟨p,n,s,p',n',s',q,m,e,rfl,h1,h2,h3⟩:=h
 have d1:=digs_len_bits (show x.1.natAbs < 2 ^ k from sl.1.1)
 have d2:=digs_len_bits (show x.2.1.natAbs < 2 ^ k from sl.2.1.1)
 have d3:=digs_len_bits (show x.2.2.natAbs < 2 ^ k from sl.2.2.1)
 have hc:=c_geo_LnOf (V:=V) (decide (x.1 < 0)) (decide (x.2.1 < 0)) (decide (x.2.2 < 0)) h1 h2 h3 (by omega) (by omega) (by omega) (k:=k) (by rw [ival_digs]; exact sl.1) (by rw [ival_digs]; exact sl.2.1) (by rw [ival_digs]; exact sl.2.2) hk
 rw [okLn_okL,ival_digs,ival_digs,ival_digs] at hc
 refine hc.mono ?_
 rintro r V2 l2 ⟨w,rfl,-,g⟩
 have ho':okL (x.1,x.2.1,x.2.2)=true:=ho
 exact ⟨w,by rw [ho'],g ho'⟩
theorem c_FrOf_ok {V:View} {v:Value} {l:L3} {s:Sp} (h:RFa V v l s) (ho:FOk l s) {k:Nat} (sl:SzL k l) (hs:s.sz k) (hk:4 * k + 4 < 1099511627776) :
  Acts prog 66 #[v] V fun r V'=>∃w,r=.tuple #[w,.bool true]/\RFr V' w l s:=by
 obtain ⟨ho,hc,hne⟩:=ho
 obtain ⟨b1,p1,n1,c1,b2,p2,n2,c2,b3,p3,n3,c3,b,p,n,c,p',n',c',d,q,m,e,q',m',e',rfl,h1,h2⟩:=h
 refine vc_geo_FrOf b1 p1 n1 c1 b2 p2 n2 c2 b3 p3 n3 c3 b p n c p' n' c' d q m e q' m' e' s.a s.b V _ fun V1 l1=>(c_LnOf_ok (h1.le l1) ho sl (by omega)).mono ?_
 rintro r V2 l2 ⟨w,rfl,g1⟩
 have g10:=g1
 obtain ⟨_,_,_,_,_,_,_,_,_,rfl,-,-,-⟩:=g1
 refine ⟨_,_,_,_,_,_,_,_,_,_,rfl,fun V3 l3=>(c_IvOf_ok (h2.le (l1.trans (l2.trans l3))) hc hne hs (by omega)).mono ?_⟩
 rintro r V4 l4 ⟨w,rfl,g2⟩
 have g20:=g2
 obtain ⟨_,_,_,_,_,_,rfl,-,-⟩:=g2
 refine ⟨_,_,_,_,_,_,_,_,_,rfl,fun _ V5 l5=>⟨_,rfl,_,_,_,_,_,_,_,_,_,_,_,_,_,_,_,rfl,g10.le (l3.trans (l4.trans l5)),g20.le l5⟩,(fun h=>nomatch h)⟩
theorem c_Iv_Has {V:View} {v w:Value} {s:Sp} {t:Rat} (h:RIv V v s) (ht:RR V w t) {k:Nat} (hs:s.sz k) (st:Sz k t) (hk:2 * k < 1099511627776) :
  Acts prog 124 #[v,w] V fun r V'=>r=.bool (s.has t):=by
 have ht0:=ht
 obtain ⟨x1,x2,p,y1,y2,q,rfl,h1,h2⟩:=h
 obtain ⟨t0,t1,t2,rfl⟩:=ht.shape
 refine vc_geo_Iv_Has x1 x2 p y1 y2 q s.a s.b t0 t1 t2 V _ ⟨fun ha=>⟨fun hb V1 l1=>by simp [Sp.has,ha,hb],fun hb V2 l2=>(c_R_Cmp (h2.le l2) (ht0.le l2) hs.2 st (by omega)).mono ?_⟩,fun ha V5 l5=>(c_R_Cmp (h1.le l5) (ht0.le l5) hs.1 st (by omega)).mono ?_⟩
 ·rintro r V3 l3 rfl
  exact ⟨_,rfl,fun V4 l4=>by simp [Sp.has,ha,hb]⟩
 ·rintro r V6 l6 rfl
  refine ⟨_,rfl,fun hc=>⟨fun hb V7 l7=>by simp [Sp.has,ha,hb,of_decide_eq_true hc],fun hb V8 l8=>(c_R_Cmp (h2.le (l5.trans (l6.trans l8))) (ht0.le (l5.trans (l6.trans l8))) hs.2 st (by omega)).mono ?_⟩,fun hc V11 l11=>by simp [Sp.has,ha,of_decide_eq_false hc]⟩
  rintro r V9 l9 rfl
  exact ⟨_,rfl,fun V10 l10=>by simp [Sp.has,ha,hb,of_decide_eq_true hc]⟩
theorem Sp.neg_sz {s:Sp} {k:Nat} (h:s.sz k):s.neg.sz k:=by
 unfold Sp.neg Sp.sz
 have z:Sz k (0:Rat):=by
  have:=h.1.2
  refine ⟨Nat.lt_of_le_of_lt (Nat.zero_le _) this,?_⟩
  exact Nat.lt_of_le_of_lt (Nat.pos_of_ne_zero s.lo.den_nz) this
 constructor
 ·dsimp only; split
  ·exact z
  ·exact h.2.neg
 ·dsimp only; split
  ·exact z
  ·exact h.1.neg
theorem c_Iv_Neg {V:View} {v:Value} {s:Sp} (h:RIv V v s) {k:Nat} (hs:s.sz k) (hk:k<=1099511627776):Acts prog 126 #[v] V fun r V'=>RIv V' r s.neg:=by
 obtain ⟨x1,x2,p,y1,y2,q,rfl,h1,h2⟩:=h
 have t:∀{V:View} {v:Value} {x:Rat} {no:Bool},RR V v (-x)->(!no)=true->RR V v (if no=true then 0 else -x):=fun h e=>by
  rw [Bool.not_eq_true'] at e; rw [e]; exact h
 have f:∀{V:View} {x:Rat} {no:Bool},(!no)=false->RR V (.agg #[.int .i64 0,.int .i64 0,.pointer none]) (if no=true then 0 else -x):=fun e=>by
  rw [Bool.not_eq_false'] at e; rw [e]; exact RR.zero _
 refine vc_geo_Iv_Neg x1 x2 p y1 y2 q s.a s.b V _ ⟨fun ha V1 l1=>(c_R_Neg (h2.le l1) hs.2 hk).mono ?_,fun ha=>⟨fun hb V7 l7=>(c_R_Neg (h1.le l7) hs.1 hk).mono ?_,fun hb V10 l10=>?_⟩⟩
 ·rintro r V2 l2 g1
  have g10:=g1
  obtain ⟨_,_,_,rfl⟩:=g1.shape
  refine ⟨_,_,_,rfl,fun hb V3 l3=>(c_R_Neg (h1.le (l1.trans (l2.trans l3))) hs.1 hk).mono ?_,fun hb V6 l6=>?_⟩
  ·rintro r V4 l4 g2
   have g20:=g2
   obtain ⟨_,_,_,rfl⟩:=g2.shape
   exact ⟨_,_,_,rfl,fun V5 l5=>⟨_,_,_,_,_,_,rfl,t (g10.le (l3.trans (l4.trans l5))) ha,t (g20.le l5) hb⟩⟩
  ·exact ⟨_,_,_,_,_,_,rfl,t (g10.le l6) ha,f hb⟩
 ·rintro r V8 l8 g2
  have g20:=g2
  obtain ⟨_,_,_,rfl⟩:=g2.shape
  exact ⟨_,_,_,rfl,fun V9 l9=>⟨_,_,_,_,_,_,rfl,f ha,t (g20.le l9) hb⟩⟩
 ·exact ⟨_,_,_,_,_,_,rfl,f ha,f hb⟩
theorem c_Fr_End {V:View} {v:Value} {l:L3} {s:Sp} (h:RFr V v l s) {k:Nat} (sl:SzL k l) (hs:s.sz k) (hk:20 * k + 19 < 274877906944) :
  Acts prog 62 #[v] V fun r V'=>∃w,r=.tuple #[w,.bool (!s.b)]/\RPt V' w (if s.b then 0 else atX l s.hi) (if s.b then 0 else atY l s.hi):=by
 obtain ⟨x1,x2,p,y1,y2,q,z1,z2,r,u1,u2,t,w1,w2,o,rfl,h1,h2⟩:=h
 obtain ⟨_,_,_,_,_,_,e,g1,g2⟩:=h2
 simp only [Value.agg.injEq,Array.mk.injEq,List.cons.injEq,Value.int.injEq,Value.pointer.injEq,true_and,and_true] at e
 obtain ⟨rfl,rfl,rfl,rfl,rfl,rfl⟩:=e
 refine vc_geo_Fr_End _ _ _ _ _ _ _ _ _ _ _ _ _ _ _ _ _ V _ ⟨fun ha V1 l1=>⟨_,by rw [ha]; rfl,by rw [ha]; exact ⟨_,_,_,_,_,_,rfl,RR.zero _,RR.zero _⟩⟩,fun ha V2 l2=>(k_At (h1.le l2) (g2.le l2) sl hs.2 hk).mono ?_⟩
 rintro r V3 l3 g
 have g0:=g
 obtain ⟨_,_,_,_,_,_,rfl,-,-⟩:=g
 exact ⟨_,_,_,_,_,_,rfl,fun V4 l4=>⟨_,by rw [ha]; rfl,by rw [ha]; exact g0.le l4⟩⟩
end Go.Proofs.Tryz
/- Contracts: the reference's spans and fragments: written, compared, a number's class, Has. -/
namespace Go.Proofs.Tryz
open Go.Eng Go.Big
theorem c_zero_true {V:View} {v:Value} (h:RRw V v false [] []):Acts prog 136 #[v] V fun r V'=>r=.bool true:=by
 obtain ⟨p,n,c,q,m,e,rfl,hx,hy⟩:=h
 obtain rfl:=hx.len
 obtain rfl:=hy.len
 exact vc_ref06_zero false p _ c q _ e V _ ⟨fun _=>⟨fun _ V1 l1=>rfl,(fun h=>nomatch h)⟩,(fun h=>nomatch h)⟩
theorem c_ref06_Same {V:View} {v w:Value} {s:Sp} (h:RSp V v s) (h':RSp V w s) {k:Nat} (hs:s.sz k) (hk:k<=1099511627776) :
  Acts prog 113 #[v,w] V fun r V'=>r=.bool true:=by
 obtain ⟨lo,hi,a,b⟩:=s
 obtain ⟨b1,p,n,c,p',n',c',d,q,m,e,q',m',e',rfl,h1,h2⟩:=h
 obtain ⟨b2,i,j,t,i',j',t',f,o,u,g,o',u',g',rfl,h3,h4⟩:=h'
 dsimp only at h1 h2 h3 h4 ⊢
 refine vc_ref06_Same _ _ _ _ _ _ _ _ _ _ _ _ _ _ _ _ _ _ _ _ _ _ _ _ _ _ _ _ _ _ _ _ V _ ⟨fun _=>⟨fun _=>?_,(by intro h; simp at h)⟩,(by intro h; simp at h)⟩
 have tl:∀V4:View,V.Le V4->b=true->Acts prog 136 #[.agg #[.bool d,.slice q m e,.slice q' m' e']] V4 fun r V'=>r=.bool true:=fun V4 l4 hb=>c_zero_true ((h2.1 hb).le l4)
 have tl':∀V4:View,V.Le V4->b=true->Acts prog 136 #[.agg #[.bool f,.slice o u g,.slice o' u' g']] V4 fun r V'=>r=.bool true:=fun V4 l4 hb=>c_zero_true ((h4.1 hb).le l4)
 have tq:∀V4:View,V.Le V4->b=false->Acts prog 63 #[.agg #[.bool d,.slice q m e,.slice q' m' e'],.agg #[.bool f,.slice o u g,.slice o' u' g']] V4 fun r V'=>r=.bool true:=fun V4 l4 hb=>(c_ref01_SameQ ((h2.2 hb).le l4) ((h4.2 hb).le l4) hs.2 hk).mono fun r V5 _ h=>by rw [h]; simp
 cases a with
 | true=>
  refine ⟨fun _ V1 l1=>(c_zero_true ((h1.1 rfl).le l1)).mono ?_,(fun h=>nomatch h)⟩
  rintro r V2 l2 rfl
  refine ⟨_,rfl,fun _ V3 l3=>(c_zero_true ((h3.1 rfl).le (l1.trans (l2.trans l3)))).mono ?_,(fun h=>nomatch h)⟩
  rintro r V4 l4 rfl
  have L:=l1.trans (l2.trans (l3.trans l4))
  refine ⟨_,rfl,fun _=>⟨fun hb V5 l5=>(tl V5 (L.trans l5) hb).mono ?_,fun hb=>⟨fun _ V5 l5=>(tq V5 (L.trans l5) hb).mono ?_,fun hb'=>by rw [hb] at hb'; cases hb'⟩⟩,(fun h=>nomatch h)⟩
  ·rintro r V6 l6 rfl
   refine ⟨_,rfl,fun _ V7 l7=>(tl' V7 (L.trans (l5.trans (l6.trans l7))) hb).mono ?_,(fun h=>nomatch h)⟩
   rintro r V8 l8 rfl
   exact ⟨_,rfl,fun _ V9 l9=>rfl,(fun h=>nomatch h)⟩
  ·rintro r V6 l6 rfl
   exact ⟨_,rfl,fun V7 l7=>rfl⟩
 | false=>
  refine ⟨(fun h=>nomatch h),fun _=>⟨fun _ V1 l1=>(c_ref01_SameQ ((h1.2 rfl).le l1) ((h3.2 rfl).le l1) hs.1 hk).mono ?_,(fun h=>nomatch h)⟩⟩
  rintro r V4 l4 rfl
  have L:=l1.trans l4
  refine ⟨_,rfl,fun _=>⟨fun hb V5 l5=>(tl V5 (L.trans l5) hb).mono ?_,fun hb=>⟨fun _ V5 l5=>(tq V5 (L.trans l5) hb).mono ?_,fun hb'=>by rw [hb] at hb'; cases hb'⟩⟩,(by intro h; simp at h)⟩
  ·rintro r V6 l6 rfl
   refine ⟨_,rfl,fun _ V7 l7=>(tl' V7 (L.trans (l5.trans (l6.trans l7))) hb).mono ?_,(fun h=>nomatch h)⟩
   rintro r V8 l8 rfl
   exact ⟨_,rfl,fun _ V9 l9=>rfl,(fun h=>nomatch h)⟩
  ·rintro r V6 l6 rfl
   exact ⟨_,rfl,fun V7 l7=>rfl⟩
theorem c_ref06_Write {V:View} {v:Value} {s:Sp} (h:RSs V v s) {k:Nat} (hs:s.sz k) (hk:k<=1099511627776):Acts prog 59 #[v] V fun r V'=>RSp V' r s:=by
 obtain ⟨b1,p,n,c,p',n',c',d,q,m,e,q',m',e',rfl,h1,h2⟩:=h
 have t:∀{V:View} {v:Value} {x:Rat} {no:Bool},RA V v x->(!no)=true->RE V v x no:=fun h e=>by
  rw [Bool.not_eq_true'] at e; subst e; exact ⟨(fun h=>nomatch h),fun _=>h⟩
 have f:∀{V:View} {x:Rat} {no:Bool},(!no)=false->RE V (.agg #[.bool false,.slice none 0 0,.slice none 0 0]) x no:=fun e=>by
  rw [Bool.not_eq_false'] at e; subst e; exact ⟨fun _=>RRw.nil,(fun h=>nomatch h)⟩
 refine vc_ref06_Write _ _ _ _ _ _ _ _ _ _ _ _ _ _ _ _ V _ ⟨fun ha V1 l1=>(c_ref01_ToQ (h1.le l1) hs.1 hk).mono ?_,fun ha=>⟨fun hb V7 l7=>(c_ref01_ToQ (h2.le l7) hs.2 hk).mono ?_,fun hb V10 l10=>?_⟩⟩
 ·rintro r V2 l2 g1
  have g10:=g1
  obtain ⟨_,_,_,_,_,_,_,rfl⟩:=g1.shape
  refine ⟨_,_,_,_,_,_,_,rfl,fun hb V3 l3=>(c_ref01_ToQ (h2.le (l1.trans (l2.trans l3))) hs.2 hk).mono ?_,fun hb V6 l6=>?_⟩
  ·rintro r V4 l4 g2
   have g20:=g2
   obtain ⟨_,_,_,_,_,_,_,rfl⟩:=g2.shape
   exact ⟨_,_,_,_,_,_,_,rfl,fun V5 l5=>⟨_,_,_,_,_,_,_,_,_,_,_,_,_,_,rfl,t (g10.le (l3.trans (l4.trans l5))) ha,t (g20.le l5) hb⟩⟩
  ·exact ⟨_,_,_,_,_,_,_,_,_,_,_,_,_,_,rfl,t (g10.le l6) ha,f hb⟩
 ·rintro r V8 l8 g2
  have g20:=g2
  obtain ⟨_,_,_,_,_,_,_,rfl⟩:=g2.shape
  exact ⟨_,_,_,_,_,_,_,rfl,fun V9 l9=>⟨_,_,_,_,_,_,_,_,_,_,_,_,_,_,rfl,f ha,t (g20.le l9) hb⟩⟩
 ·exact ⟨_,_,_,_,_,_,_,_,_,_,_,_,_,_,rfl,f ha,f hb⟩
theorem SzL.digs {k:Nat} {l:L3} (h:SzL k l) (hk:k<=1099511627776):(digs l.1.natAbs).length<=1099511627776/\(digs l.2.1.natAbs).length<=1099511627776/\(digs l.2.2.natAbs).length<=1099511627776:=by
 have d1:=digs_len_bits (show l.1.natAbs < 2 ^ k from h.1.1)
 have d2:=digs_len_bits (show l.2.1.natAbs < 2 ^ k from h.2.1.1)
 have d3:=digs_len_bits (show l.2.2.natAbs < 2 ^ k from h.2.2.1)
 exact ⟨by omega,by omega,by omega⟩
theorem c_ref06_WriteF {V:View} {v:Value} {l:L3} {s:Sp} (h:RF V v l s) {k:Nat} (sl:SzL k l) (hs:s.sz k) (hk:k<=1099511627776):Acts prog 15 #[v] V fun r V'=>RFa V' r l s:=by
 obtain ⟨d1,d2,d3⟩:=sl.digs hk
 obtain ⟨b1,p1,n1,c1,b2,p2,n2,c2,b3,p3,n3,c3,b,p,n,c,p',n',c',d,q,m,e,q',m',e',rfl,h1,h2⟩:=h
 refine vc_ref06_WriteF _ _ _ _ _ _ _ _ _ _ _ _ _ _ _ _ _ _ _ _ _ _ _ _ _ _ _ _ V _ fun V1 l1=>(c_ref04_ToL (h1.le l1) d1 d2 d3).mono ?_
 rintro r V2 l2 g1
 have g10:=g1
 obtain ⟨_,_,_,_,_,_,_,_,_,_,_,_,rfl⟩:=rl_shape g1
 refine ⟨_,_,_,_,_,_,_,_,_,_,_,_,rfl,fun V3 l3=>(c_ref06_Write (h2.le (l1.trans (l2.trans l3))) hs hk).mono ?_⟩
 rintro r V4 l4 g2
 have g20:=g2
 obtain ⟨_,_,_,_,_,_,_,_,_,_,_,_,_,_,rfl,-,-⟩:=g2
 exact ⟨_,_,_,_,_,_,_,_,_,_,_,_,_,_,_,_,rfl,fun V5 l5=>⟨_,_,_,_,_,_,_,_,_,_,_,_,_,_,_,_,_,_,_,_,_,_,_,_,_,_,rfl,g10.le (l3.trans (l4.trans l5)),g20.le l5⟩⟩
/-- A fragment that lies at an address; a list of fragments. -/
def FAt (V:View) (ad:Addr) (l:L3) (s:Sp):Prop:=∃xs:List Value,RFa V (.agg xs.toArray) l s/\∀i x,xs[i]?=some x->V.at (ad.add i) x
theorem FAt.le {V V':View} {ad:Addr} {l:L3} {s:Sp} (h:FAt V ad l s) (e:V.Le V'):FAt V' ad l s:=by
 obtain ⟨xs,h1,h2⟩:=h; exact ⟨xs,h1.le e,fun i x hx=>e.at (h2 i x hx)⟩
structure RFas (V:View) (p:OA) (n:Nat) (fs:List (L3 × Sp)):Prop where
 len:n=fs.length
 at_:∀(i:Nat) (h:i < fs.length),∃ad,addrAdd p (i * 14)=some ad/\FAt V ad fs[i].1 fs[i].2
theorem RFas.le {V V':View} {p:OA} {n:Nat} {fs:List (L3 × Sp)} (h:RFas V p n fs) (e:V.Le V'):RFas V' p n fs:=⟨h.len,fun i hi=>by obtain ⟨ad,h1,h2⟩:=h.at_ i hi; exact ⟨ad,h1,h2.le e⟩⟩
theorem isSome_addr {p:OA} {j:Nat} {ad:Addr} (h:addrAdd p j=some ad):p.isSome=true:=by
 cases p with
 | none=>cases h
 | some a=>rfl
theorem c_SameFs_same {V:View} {p q:OA} {n c m e:Nat} {fs:List (L3 × Sp)} (hp:RFas V p n fs) (hq:RFas V q m fs) {k:Nat} (sz:∀f ∈ fs,SzL k f.1/\f.2.sz k) (hk:k<=1099511627776) (hn:fs.length < 4611686018427387904) :
  Acts prog 53 #[.slice p n c,.slice q m e] V fun r V'=>r=.bool true:=by
 obtain rfl:=hp.len
 obtain rfl:=hq.len
 refine vc_ref06_SameFs p _ c q _ e V _ ⟨(by intro h; simp at h),fun _=>⟨fun z V'=>0<=z/\z<=fs.length,fun z=>(fs.length - z).toNat,⟨0,by and_intros <;> rfl,by omega,by omega⟩,?_⟩⟩
 rintro z V2 l2 ⟨z0,z1⟩
 refine ⟨rfl,fun hz=>?_,fun hz V9 l9=>rfl⟩
 have hz:z < fs.length:=of_decide_eq_true hz
 obtain ⟨i,rfl⟩:∃i:Nat,z=i:=⟨z.toNat,by omega⟩
 have hi:i < fs.length:=by omega
 rw [Int.toNat_natCast]
 have w:i64.wrap ((i:Int) + 1)=(i:Int) + 1:=i64w (by omega)
 rw [w]
 obtain ⟨s1,s2⟩:=sz _ (List.getElem_mem hi)
 obtain ⟨ad,ha,xs,⟨b1,p1,n1,c1,b2,p2,n2,c2,b3,p3,n3,c3,bb,pp,nn,cc,pp',nn',cc',dd,qq,mm,ee,qq',mm',ee',ex,h1,h2⟩,hx⟩:=(hp.le l2).at_ i hi
 obtain ⟨ad',ha',ys,⟨b1',p1',n1',c1',b2',p2',n2',c2',b3',p3',n3',c3',bb2,pp2,nn2,cc2,pp2',nn2',cc2',dd2,qq2,mm2,ee2,qq2',mm2',ee2',ey,h3,h4⟩,hy⟩:=(hq.le l2).at_ i hi
 have ex:=congrArg Array.toList (Value.agg.inj ex)
 have ey:=congrArg Array.toList (Value.agg.inj ey)
 dsimp only at ex ey
 subst ex ey
 have d:=s1.digs hk
 rw [ha,ha']
 refine ⟨isSome_addr ha,⟨by omega,hz⟩,rfl,_,_,_,_,_,_,_,_,_,_,_,_,ad.add 0,rfl,hx 0 _ rfl,hx 1 _ rfl,hx 2 _ rfl,hx 3 _ rfl,hx 4 _ rfl,hx 5 _ rfl,isSome_addr ha',⟨by omega,hz⟩,rfl,_,_,_,_,_,_,_,_,_,_,_,_,ad'.add 0,rfl,hy 0 _ rfl,hy 1 _ rfl,hy 2 _ rfl,hy 3 _ rfl,hy 4 _ rfl,hy 5 _ rfl,fun V3 l3=>(c_ref04_SameL (h1.le l3) (h3.le l3) d.1 d.2.1 d.2.2).mono ?_⟩
 rintro r V4 l4 rfl
 have L:=l3.trans l4
 have hx':∀j x,_->V4.at ((ad.add 6).add j) x:=fun j x hj=>by rw [Addr_add_add]; exact L.at (hx (6 + j) x hj)
 have hy':∀j x,_->V4.at ((ad'.add 6).add j) x:=fun j x hj=>by rw [Addr_add_add]; exact L.at (hy (6 + j) x hj)
 refine ⟨_,rfl,(by intro h; simp at h),fun _=>⟨isSome_addr ha,⟨by omega,hz⟩,rfl,_,_,_,_,_,_,_,_,_,_,_,_,_,_,_,_,ad.add 6,rfl,hx' 0 _ rfl,hx' 1 _ rfl,hx' 2 _ rfl,hx' 3 _ rfl,hx' 4 _ rfl,hx' 5 _ rfl,hx' 6 _ rfl,hx' 7 _ rfl,isSome_addr ha',⟨by omega,hz⟩,rfl,_,_,_,_,_,_,_,_,_,_,_,_,_,_,_,_,ad'.add 6,rfl,hy' 0 _ rfl,hy' 1 _ rfl,hy' 2 _ rfl,hy' 3 _ rfl,hy' 4 _ rfl,hy' 5 _ rfl,hy' 6 _ rfl,hy' 7 _ rfl,fun V6 l6=>(c_ref06_Same (h2.le (L.trans l6)) (h4.le (L.trans l6)) s2 hk).mono ?_⟩⟩
 rintro r V7 l7 rfl
 exact ⟨_,rfl,(fun h=>nomatch h),fun _=>⟨(i:Int) + 1,by dsimp only; omega,by and_intros <;> rfl,by omega,by omega⟩⟩
/-- A span that lies at an address; a list of spans. -/
def SAt (V:View) (ad:Addr) (s:Sp):Prop:=∃xs:List Value,RSs V (.agg xs.toArray) s/\∀i x,xs[i]?=some x->V.at (ad.add i) x
theorem SAt.le {V V':View} {ad:Addr} {s:Sp} (h:SAt V ad s) (e:V.Le V'):SAt V' ad s:=by
 obtain ⟨xs,h1,h2⟩:=h; exact ⟨xs,h1.le e,fun i x hx=>e.at (h2 i x hx)⟩
structure RSl (V:View) (p:OA) (n:Nat) (ss:List Sp):Prop where
 len:n=ss.length
 at_:∀(i:Nat) (h:i < ss.length),∃ad,addrAdd p (i * 8)=some ad/\SAt V ad ss[i]
theorem RSl.le {V V':View} {p:OA} {n:Nat} {ss:List Sp} (h:RSl V p n ss) (e:V.Le V'):RSl V' p n ss:=⟨h.len,fun i hi=>by obtain ⟨ad,h1,h2⟩:=h.at_ i hi; exact ⟨ad,h1,h2.le e⟩⟩
/-- The class of a number: by how it lies to both ends. -/
def clsV (a b:Int):Int:=if 0 < a/\b < 0 then 2 else if (a=0/\b<=0) \/ (b=0/\0<=a) then 1 else 0
def Sp.la (s:Sp) (t:Rat):Int:=if s.a then 1 else cmpQ t s.lo
def Sp.lb (s:Sp) (t:Rat):Int:=if s.b then -1 else cmpQ t s.hi
def clsL:List Sp->Rat->Int
 | [],_=>0
 | s :: r,t=>if clsV (s.la t) (s.lb t)≠0 then clsV (s.la t) (s.lb t) else clsL r t
theorem c_ref06_Class {V:View} {p:OA} {n c:Nat} {v:Value} {ss:List Sp} {t:Rat} (hl:RSl V p n ss) (ht:RQ V v t) {k:Nat} (hs:∀s ∈ ss,s.sz k) (st:Sz k t) (hk:2 * k < 274877906944) (hn:ss.length < 4611686018427387904) :
  Acts prog 71 #[.slice p n c,v] V fun r V'=>r=.int .i64 (clsL ss t):=by
 obtain rfl:=hl.len
 have ht0:=ht
 obtain ⟨_,_,_,_,_,_,rfl⟩:=ht.shape
 refine vc_ref06_Class p _ c _ _ _ _ _ _ _ V _ ⟨fun z V'=>0<=z/\z<=ss.length/\clsL ss t=clsL (ss.drop z.toNat) t,fun z=>(ss.length - z).toNat,⟨0,by and_intros <;> rfl,by omega,by omega,rfl⟩,?_⟩
 rintro z V1 l1 ⟨z0,z1,z2⟩
 refine ⟨rfl,fun hz=>?_,fun hz V12 l12=>?_⟩
 ·have hz:z < ss.length:=of_decide_eq_true hz
  obtain ⟨i,rfl⟩:∃i:Nat,z=i:=⟨z.toNat,by omega⟩
  have hi:i < ss.length:=by omega
  rw [Int.toNat_natCast] at z2 ⊢
  have w:i64.wrap ((i:Int) + 1)=(i:Int) + 1:=i64w (by omega)
  rw [w]
  have si:=hs _ (List.getElem_mem hi)
  obtain ⟨ad,ha,xs,⟨bb,pp,nn,cc,pp',nn',cc',dd,qq,mm,ee,qq',mm',ee',ex,h1,h2⟩,hx⟩:=(hl.le l1).at_ i hi
  have ex:=congrArg Array.toList (Value.agg.inj ex)
  dsimp only at ex
  subst ex
  rw [List.drop_eq_getElem_cons hi] at z2
  generalize ss[i]=s at *
  simp only [clsL] at z2
  refine ⟨isSome_addr ha,⟨by omega,hz⟩,_,_,_,_,_,_,_,_,_,_,_,_,_,_,s.a,s.b,ad,by rw [ha],hx 0 _ rfl,hx 1 _ rfl,hx 2 _ rfl,hx 3 _ rfl,hx 4 _ rfl,hx 5 _ rfl,hx 6 _ rfl,hx 7 _ rfl,fun z _=>z=s.la t,⟨fun h V2 l2=>(c_num_C (ht0.le (l1.trans l2)) (h1.le l2) st si.1 (by omega)).mono ?_,fun h=>⟨1,by and_intros <;> rfl,?_⟩⟩,?_⟩
  ·rintro r V3 l3 rfl
   exact ⟨_,rfl,_,by and_intros <;> rfl,by unfold Sp.la; rw [Bool.not_eq_true'] at h; rw [h]; rfl⟩
  ·unfold Sp.la; rw [Bool.not_eq_false'] at h; rw [h]; rfl
  rintro za V4 l4 rfl
  refine ⟨rfl,fun z _=>z=s.lb t,⟨fun h V5 l5=>(c_num_C (ht0.le (l1.trans (l4.trans l5))) (h2.le (l4.trans l5)) st si.2 (by omega)).mono ?_,fun h=>⟨-1,by and_intros <;> rfl,?_⟩⟩,?_⟩
  ·rintro r V6 l6 rfl
   exact ⟨_,rfl,_,by and_intros <;> rfl,by unfold Sp.lb; rw [Bool.not_eq_true'] at h; rw [h]; rfl⟩
  ·unfold Sp.lb; rw [Bool.not_eq_false'] at h; rw [h]; rfl
  rintro zb V7 l7 rfl
  generalize s.la t=a at *
  generalize s.lb t=b at *
  refine ⟨rfl,fun z _=>z=decide (0 < a/\b < 0),⟨fun h=>⟨_,by and_intros <;> rfl,?_⟩,fun h=>⟨_,by and_intros <;> rfl,?_⟩⟩,?_⟩
  ·have h:0 < a:=of_decide_eq_true h
   simp [h]
  ·have h:¬ 0 < a:=of_decide_eq_false h
   simp [h]
  rintro z9 V8 l8 rfl
  refine ⟨rfl,fun h V9 l9=>?_,fun h=>⟨fun z _=>z=decide ((a=0/\b<=0) \/ (b=0/\0<=a)),⟨fun ha=>⟨fun hb=>⟨_,by and_intros <;> rfl,?_⟩,fun hb=>⟨fun hc=>⟨_,by and_intros <;> rfl,?_⟩,fun hc=>⟨_,by and_intros <;> rfl,?_⟩⟩⟩,fun ha=>⟨fun hc=>⟨_,by and_intros <;> rfl,?_⟩,fun hc=>⟨_,by and_intros <;> rfl,?_⟩⟩⟩,?_⟩⟩
  ·have h:=of_decide_eq_true h
   rw [z2]
   simp [clsV,h]
  ·simp at ha hb; simp [ha,hb]
  ·simp at ha hb hc; simp [ha,hc]
  ·simp at ha hb hc; simp [ha,hc]; omega
  ·simp at ha hc; simp [ha,hc]
  ·simp at ha hc; simp [ha,hc]
  rintro z11 V10 l10 rfl
  have h:=of_decide_eq_false h
  refine ⟨rfl,fun h' V11 l11=>?_,fun h'=>⟨(i:Int) + 1,by dsimp only; omega,by and_intros <;> rfl,by omega,by omega,?_⟩⟩
  ·have h':=of_decide_eq_true h'
   rw [z2]
   have:clsV a b=1:=by unfold clsV; rw [if_neg h,if_pos h']
   rw [this]; rfl
  ·have h':=of_decide_eq_false h'
   have:clsV a b=0:=by unfold clsV; rw [if_neg h,if_neg h']
   rw [z2,this]
   show _=clsL (ss.drop ((i:Int) + 1).toNat) t
   rw [show ((i:Int) + 1).toNat=i + 1 from by omega]
   rfl
 ·have hz:¬ z < ss.length:=of_decide_eq_false hz
  rw [z2,show z.toNat=ss.length from by omega,List.drop_length]
  rfl
theorem cmpQ_swap (x y:Rat):cmpQ y x=- cmpQ x y:=by
 unfold cmpQ
 rw [show y - x=-(x - y) from by grind]
 exact Int.sign_neg _
theorem clsL_one (s:Sp) (t:Rat):decide (clsL [s] t > 0)=s.has t:=by
 obtain ⟨lo,hi,a,b⟩:=s
 have e1:=cmpQ_swap lo t
 have e2:=cmpQ_swap hi t
 have key:clsL [⟨lo,hi,a,b⟩] t > 0↔0<=(⟨lo,hi,a,b⟩:Sp).la t/\(⟨lo,hi,a,b⟩:Sp).lb t<=0:=by
  simp only [clsL]
  unfold clsV
  generalize Sp.la _ t=x
  generalize Sp.lb _ t=y
  repeat' split
  all_goals omega
 have e:decide (clsL [⟨lo,hi,a,b⟩] t > 0)=decide (0<=(⟨lo,hi,a,b⟩:Sp).la t/\(⟨lo,hi,a,b⟩:Sp).lb t<=0):=by
  rw [decide_eq_decide]; exact key
 rw [e,Bool.eq_iff_iff,decide_eq_true_eq]
 unfold Sp.has Sp.la Sp.lb
 cases a <;> cases b <;> simp <;> omega
theorem c_ref06_Has {V:View} {v w:Value} {l:L3} {s:Sp} {x y:Rat} (h:RF V v l s) (hp:RP V w x y) (hz:Nz l) {k:Nat} (sl:SzL k l) (hs:s.sz k) (s1:Sz k x) (s2:Sz k y) (hk:20 * k + 20 < 274877906944) :
  Acts prog 24 #[v,w] V fun r V'=>r=.bool (hasF l s x y):=by
 have hp0:=hp
 obtain ⟨b1,p1,n1,c1,b2,p2,n2,c2,b3,p3,n3,c3,b,p,n,c,p',n',c',d,q,m,e,q',m',e',rfl,h1,h2⟩:=h
 obtain ⟨_,_,_,_,_,_,_,_,_,_,_,_,_,_,rfl⟩:=rp_shape hp
 refine vc_ref06_Has _ _ _ _ _ _ _ _ _ _ _ _ _ _ _ _ _ _ _ _ _ _ _ _ _ _ _ _ _ _ _ _ _ _ _ _ _ _ _ _ _ _ V _ fun V1 l1=>(r_Side (h1.le l1) (hp0.le l1) sl s1 s2 (by omega)).mono ?_
 rintro r V2 l2 rfl
 refine ⟨_,rfl,fun hz' V3 l3=>(r_Param (h1.le (l1.trans (l2.trans l3))) (hp0.le (l1.trans (l2.trans l3))) hz sl s1 s2 (by omega)).mono ?_,fun hz' V8 l8=>?_⟩
 ·rw [beq_iff_eq,sign_eq_zero] at hz'
  rintro r V4 l4 g
  have g0:=g
  obtain ⟨_,_,_,_,_,_,rfl⟩:=g.shape
  refine ⟨_,_,_,_,_,_,_,rfl,fun V5 l5 bk hbk=>?_⟩
  have hl:RSl V5 (some ⟨bk,0,none⟩) 1 [s]:=by
   refine ⟨rfl,fun i hi=>?_⟩
   obtain rfl:i=0:=by simpa using hi
   refine ⟨⟨bk,0,none⟩,by simp [addrAdd,add_zero'],_,h2.le (l1.trans (l2.trans (l3.trans (l4.trans l5)))),fun j x hx=>?_⟩
   rw [add_zero']
   exact blk_at hbk hx
  refine (c_ref06_Class hl (g0.le l5) (k:=8 * k + 7) (by intro s' hs'; rw [List.mem_singleton] at hs'; subst hs'; exact ⟨Sz.mono hs.1 (by omega),Sz.mono hs.2 (by omega)⟩) (sz_parL sl s1 s2) (by omega) (by simp)).mono ?_
  rintro r V6 l6 rfl
  refine ⟨_,rfl,fun J V7 l7=>?_⟩
  rw [clsL_one]
  simp [hasF,hz']
 ·rw [beq_eq_false_iff_ne,ne_eq,sign_eq_zero] at hz'
  simp [hasF,hz']
theorem r_rev {V:View} {r:Value} {l:L3} (h:RL V r (-l.1) (-l.2.1) (-l.2.2)):RL V r (revL l).1 (revL l).2.1 (revL l).2.2:=h
theorem c_num_Opp2 {V:View} {v:Value} {q:Rat} (h:RQ V v q):Acts prog 72 #[v] V fun r V'=>RQ V' r (-q):=by
 obtain ⟨p,n,c,p',n',c',rfl,h1,h2⟩:=h
 exact c_num_Opp q h1 h2
theorem c_ref06_Rev {V:View} {v:Value} {l:L3} {s:Sp} (h:RF V v l s):Acts prog 25 #[v] V fun r V'=>RF V' r (revL l) s.neg:=by
 obtain ⟨b1,p1,n1,c1,b2,p2,n2,c2,b3,p3,n3,c3,b,p,n,c,p',n',c',d,q,m,e,q',m',e',rfl,h1,h2⟩:=h
 obtain ⟨_,_,_,_,_,_,_,_,_,_,_,_,_,_,ee,g1,g2⟩:=h2
 simp only [Value.agg.injEq,Array.mk.injEq,List.cons.injEq,Value.bool.injEq,Value.slice.injEq,true_and,and_true] at ee
 obtain ⟨rfl,⟨rfl,rfl,rfl⟩,⟨rfl,rfl,rfl⟩,rfl,⟨rfl,rfl,rfl⟩,⟨rfl,rfl,rfl⟩⟩:=ee
 have z:∀V:View,RQ V (.agg #[.bool false,.slice none 0 0,.slice none 0 0]) 0:=fun V=>by have:=RQ.zero (V:=V); simpa using this
 have t:∀{V:View} {v:Value} {x:Rat} {no:Bool},RQ V v (-x)->(!no)=true->RQ V v (if no=true then 0 else -x):=fun h e=>by
  rw [Bool.not_eq_true'] at e; rw [e]; exact h
 have f:∀{V:View} {x:Rat} {no:Bool},(!no)=false->RQ V (.agg #[.bool false,.slice none 0 0,.slice none 0 0]) (if no=true then 0 else -x):=fun e=>by
  rw [Bool.not_eq_false'] at e; rw [e]; exact z _
 refine vc_ref06_Rev _ _ _ _ _ _ _ _ _ _ _ _ _ _ _ _ _ _ _ _ _ _ _ _ _ _ _ _ V _ ⟨fun ha V1 l1=>(c_num_Opp2 (g2.le l1)).mono ?_,fun ha=>⟨fun hb V11 l11=>(c_num_Opp2 (g1.le l11)).mono ?_,fun hb V16 l16=>(c_ref04_Rev (h1.le l16)).mono ?_⟩⟩
 ·rintro r V2 l2 k1
  have k10:=k1
  obtain ⟨_,_,_,_,_,_,rfl⟩:=k1.shape
  refine ⟨_,_,_,_,_,_,_,rfl,fun hb V3 l3=>(c_num_Opp2 (g1.le (l1.trans (l2.trans l3)))).mono ?_,fun hb V8 l8=>(c_ref04_Rev (h1.le (l1.trans (l2.trans l8)))).mono ?_⟩
  ·rintro r V4 l4 k2
   have k20:=k2
   obtain ⟨_,_,_,_,_,_,rfl⟩:=k2.shape
   refine ⟨_,_,_,_,_,_,_,rfl,fun V5 l5=>(c_ref04_Rev (h1.le (l1.trans (l2.trans (l3.trans (l4.trans l5)))))).mono ?_⟩
   rintro r V6 l6 k3
   have k30:=r_rev k3
   obtain ⟨_,_,_,_,_,_,_,_,_,_,_,_,rfl⟩:=rl_shape k3
   exact ⟨_,_,_,_,_,_,_,_,_,_,_,_,rfl,fun V7 l7=>⟨_,_,_,_,_,_,_,_,_,_,_,_,_,_,_,_,_,_,_,_,_,_,_,_,_,_,rfl,k30.le l7,_,_,_,_,_,_,_,_,_,_,_,_,_,_,rfl,t (k10.le (l3.trans (l4.trans (l5.trans (l6.trans l7))))) ha,t (k20.le (l5.trans (l6.trans l7))) hb⟩⟩
  ·rintro r V9 l9 k3
   have k30:=r_rev k3
   obtain ⟨_,_,_,_,_,_,_,_,_,_,_,_,rfl⟩:=rl_shape k3
   exact ⟨_,_,_,_,_,_,_,_,_,_,_,_,rfl,fun V10 l10=>⟨_,_,_,_,_,_,_,_,_,_,_,_,_,_,_,_,_,_,_,_,_,_,_,_,_,_,rfl,k30.le l10,_,_,_,_,_,_,_,_,_,_,_,_,_,_,rfl,t (k10.le (l8.trans (l9.trans l10))) ha,f hb⟩⟩
 ·rintro r V12 l12 k2
  have k20:=k2
  obtain ⟨_,_,_,_,_,_,rfl⟩:=k2.shape
  refine ⟨_,_,_,_,_,_,_,rfl,fun V13 l13=>(c_ref04_Rev (h1.le (l11.trans (l12.trans l13)))).mono ?_⟩
  rintro r V14 l14 k3
  have k30:=r_rev k3
  obtain ⟨_,_,_,_,_,_,_,_,_,_,_,_,rfl⟩:=rl_shape k3
  exact ⟨_,_,_,_,_,_,_,_,_,_,_,_,rfl,fun V15 l15=>⟨_,_,_,_,_,_,_,_,_,_,_,_,_,_,_,_,_,_,_,_,_,_,_,_,_,_,rfl,k30.le l15,_,_,_,_,_,_,_,_,_,_,_,_,_,_,rfl,f ha,t (k20.le (l13.trans (l14.trans l15))) hb⟩⟩
 ·rintro r V17 l17 k3
  have k30:=r_rev k3
  obtain ⟨_,_,_,_,_,_,_,_,_,_,_,_,rfl⟩:=rl_shape k3
  exact ⟨_,_,_,_,_,_,_,_,_,_,_,_,rfl,fun V18 l18=>⟨_,_,_,_,_,_,_,_,_,_,_,_,_,_,_,_,_,_,_,_,_,_,_,_,_,_,rfl,k30.le l18,_,_,_,_,_,_,_,_,_,_,_,_,_,_,rfl,f ha,f hb⟩⟩
theorem thr_thrL {px py qx qy:Rat}:((thr px py qx qy).1.num / (gcd3 (thr px py qx qy).1.num (thr px py qx qy).2.1.num (thr px py qx qy).2.2.num:Int),(thr px py qx qy).2.1.num / (gcd3 (thr px py qx qy).1.num (thr px py qx qy).2.1.num (thr px py qx qy).2.2.num:Int),(thr px py qx qy).2.2.num / (gcd3 (thr px py qx qy).1.num (thr px py qx qy).2.1.num (thr px py qx qy).2.2.num:Int))=thrL px py qx qy:=by
 unfold thr thrL mkLn lnOf
 have e:∀x:Rat,(-x).den=x.den:=fun x=>rfl
 rw [e (-(qy - py) * px + (qx - px) * py)]
 rfl
theorem thr_zero {px py qx qy:Rat}:((thr px py qx qy).1.num=0/\(thr px py qx qy).2.1.num=0)↔(px=qx/\py=qy):=by
 unfold thr
 dsimp only
 generalize hf:(-(qy - py)).den * (qx - px).den * (-(-(qy - py) * px + (qx - px) * py)).den=f
 have hf0:f≠0:=by rw [← hf]; exact Nat.mul_ne_zero (Nat.mul_ne_zero (Rat.den_nz _) (Rat.den_nz _)) (Rat.den_nz _)
 have hf1:((f:Int):Rat)≠0:=by exact_mod_cast hf0
 rw [Rat.num_eq_zero,Rat.num_eq_zero,Rat.mul_eq_zero,Rat.mul_eq_zero,or_iff_left hf1,or_iff_left hf1]
 exact thrL_eq.symm
/-- The reference's Through, with the line by name. -/
theorem r_Through {V:View} {u w:Value} {px py qx qy:Rat} (hp:RP V u px py) (hq:RP V w qx qy) {k:Nat} (s1:Sz k px) (s2:Sz k py) (s3:Sz k qx) (s4:Sz k qy) (hk1:1<=k) (hk:64 * k + 64 < 274877906944) :
  Acts prog 51 #[u,w] V fun r V'=>(px=qx/\py=qy->∃l,r=.tuple #[l,.bool false]/\RL V' l 0 0 0)/\(¬ (px=qx/\py=qy)->∃l,r=.tuple #[l,.bool true]/\RL V' l (thrL px py qx qy).1 (thrL px py qx qy).2.1 (thrL px py qx qy).2.2):=by
 refine (c_ref04_Through hp hq s1 s2 s3 s4 hk1 hk).mono ?_
 rintro r V2 l2 ⟨m1,m2⟩
 have e:=thr_thrL (px:=px) (py:=py) (qx:=qx) (qy:=qy)
 rw [thr_zero] at m1 m2
 refine ⟨m1,fun h=>?_⟩
 obtain ⟨l,hl,g⟩:=m2 h
 rw [← e]
 exact ⟨l,hl,g⟩
theorem c_ref06_Segment {V:View} {u v:Value} {px py qx qy:Rat} (hp:RP V u px py) (hq:RP V v qx qy) {k:Nat} (s1:Sz k px) (s2:Sz k py) (s3:Sz k qx) (s4:Sz k qy) (hk1:1<=k) (hk:400 * k + 400 < 274877906944) :
  Acts prog 11 #[u,v] V fun r V'=>(px=qx/\py=qy->∃l,r=.tuple #[l,.bool false]/\RF V' l (0,0,0) Sp.zero)/\(¬ (px=qx/\py=qy)->∃l,r=.tuple #[l,.bool true]/\RF V' l (thrL px py qx qy) (segS px py qx qy)):=by
 have hp0:=hp
 have hq0:=hq
 obtain ⟨_,_,_,_,_,_,_,_,_,_,_,_,_,_,rfl⟩:=rp_shape hp
 obtain ⟨_,_,_,_,_,_,_,_,_,_,_,_,_,_,rfl⟩:=rp_shape hq
 refine vc_ref06_Segment _ _ _ _ _ _ _ _ _ _ _ _ _ _ _ _ _ _ _ _ _ _ _ _ _ _ _ _ V _ fun V1 l1=>(r_Through (hp0.le l1) (hq0.le l1) s1 s2 s3 s4 hk1 (by omega)).mono ?_
 rintro r V2 l2 ⟨m1,m2⟩
 by_cases h:px=qx/\py=qy
 ·obtain ⟨l,rfl,g5⟩:=m1 h
  obtain ⟨_,_,_,_,_,_,_,_,_,_,_,_,rfl⟩:=rl_shape g5
  have z:∀V:View,RQ V (.agg #[.bool false,.slice none 0 0,.slice none 0 0]) 0:=fun V=>by have:=RQ.zero (V:=V); simpa using this
  refine ⟨_,_,_,_,_,_,_,_,_,_,_,_,_,rfl,fun _ V3 l3=>⟨fun _=>⟨_,rfl,?_⟩,fun h'=>absurd h h'⟩,fun h=>nomatch h⟩
  exact ⟨_,_,_,_,_,_,_,_,_,_,_,_,_,_,_,_,_,_,_,_,_,_,_,_,_,_,rfl,⟨_,_,_,_,_,_,_,_,_,rfl,RD.nil,RD.nil,RD.nil⟩,_,_,_,_,_,_,_,_,_,_,_,_,_,_,rfl,z _,z _⟩
 ·obtain ⟨l,rfl,g5⟩:=m2 h
  have g50:=g5
  have sl:=sz_thrL s1 s2 s3 s4 h
  have nz:=thrL_nz h
  obtain ⟨_,_,_,_,_,_,_,_,_,_,_,_,rfl⟩:=rl_shape g5
  refine ⟨_,_,_,_,_,_,_,_,_,_,_,_,_,rfl,(fun h=>nomatch h),fun _ V4 l4=>(r_Param (g50.le l4) (hp0.le (l1.trans (l2.trans l4))) nz sl (Sz.mono s1 (by omega)) (Sz.mono s2 (by omega)) (by omega)).mono ?_⟩
  rintro r V5 l5 e1
  have e10:=e1
  obtain ⟨_,_,_,_,_,_,rfl⟩:=e1.shape
  refine ⟨_,_,_,_,_,_,_,rfl,fun V6 l6=>(r_Param (g50.le (l4.trans (l5.trans l6))) (hq0.le (l1.trans (l2.trans (l4.trans (l5.trans l6))))) nz sl (Sz.mono s3 (by omega)) (Sz.mono s4 (by omega)) (by omega)).mono ?_⟩
  rintro r V7 l7 e2
  have e20:=e2
  obtain ⟨_,_,_,_,_,_,rfl⟩:=e2.shape
  refine ⟨_,_,_,_,_,_,_,rfl,fun V8 l8=>⟨fun h'=>absurd h' h,fun _=>⟨_,rfl,?_⟩⟩⟩
  exact ⟨_,_,_,_,_,_,_,_,_,_,_,_,_,_,_,_,_,_,_,_,_,_,_,_,_,_,rfl,g50.le (l4.trans (l5.trans (l6.trans (l7.trans l8)))),_,_,_,_,_,_,_,_,_,_,_,_,_,_,rfl,e10.le (l6.trans (l7.trans l8)),e20.le l8⟩
end Go.Proofs.Tryz
/- Contracts of package fragment; points made of ints. -/
namespace Go.Proofs.Tryz
open Go.Eng Go.Big
theorem FrSh.ex {V:View} {v:Value} {l:L3} {s:Sp} (h:RFr V v l s):∃(x1 x2:Int) (p:OA) (y1 y2:Int) (q:OA) (z1 z2:Int) (r:OA) (u1 u2:Int) (t:OA) (w1 w2:Int) (o:OA),
 v=.agg #[.int .i64 x1,.int .i64 x2,.pointer p,.int .i64 y1,.int .i64 y2,.pointer q,.int .i64 z1,.int .i64 z2,.pointer r,.int .i64 u1,.int .i64 u2,.pointer t,.int .i64 w1,.int .i64 w2,.pointer o,.bool s.a,.bool s.b]:=by
 obtain ⟨_,_,_,_,_,_,_,_,_,_,_,_,_,_,_,e,-⟩:=h; exact ⟨_,_,_,_,_,_,_,_,_,_,_,_,_,_,_,e⟩
theorem fa_shape {V:View} {v:Value} {l:L3} {s:Sp} (h:RFa V v l s):∃b1 p1 n1 c1 b2 p2 n2 c2 b3 p3 n3 c3 b p n c p' n' c' d q m e q' m' e',
 v=.agg #[.bool b1,.slice p1 n1 c1,.bool b2,.slice p2 n2 c2,.bool b3,.slice p3 n3 c3,.bool b,.slice p n c,.slice p' n' c',.bool d,.slice q m e,.slice q' m' e',.bool s.a,.bool s.b]:=by
 obtain ⟨_,_,_,_,_,_,_,_,_,_,_,_,_,_,_,_,_,_,_,_,_,_,_,_,_,_,e,-⟩:=h; exact ⟨_,_,_,_,_,_,_,_,_,_,_,_,_,_,_,_,_,_,_,_,_,_,_,_,_,_,e⟩
theorem ap_shape {V:View} {v:Value} {x y:Rat} (h:RAP V v x y):∃b p n c p' n' c' d q m e q' m' e',v=.agg #[.bool b,.slice p n c,.slice p' n' c',.bool d,.slice q m e,.slice q' m' e']:=by
 obtain ⟨_,_,_,_,_,_,_,_,_,_,_,_,_,_,e,-⟩:=h; exact ⟨_,_,_,_,_,_,_,_,_,_,_,_,_,_,e⟩
theorem pt_shape {V:View} {v:Value} {x y:Rat} (h:RPt V v x y):∃(x1 x2:Int) (p:OA) (y1 y2:Int) (q:OA),v=.agg #[.int .i64 x1,.int .i64 x2,.pointer p,.int .i64 y1,.int .i64 y2,.pointer q]:=by
 obtain ⟨_,_,_,_,_,_,e,-⟩:=h; exact ⟨_,_,_,_,_,_,e⟩
/-- The zero value of a fragment, a point of package api. -/
def FZero (v:Value):Prop:=v=.agg #[.bool false,.slice none 0 0,.bool false,.slice none 0 0,.bool false,.slice none 0 0,.bool false,.slice none 0 0,.slice none 0 0,.bool false,.slice none 0 0,.slice none 0 0,.bool false,.bool false]
def PZero (v:Value):Prop:=v=.agg #[.bool false,.slice none 0 0,.slice none 0 0,.bool false,.slice none 0 0,.slice none 0 0]
theorem c_Valid_ok {V:View} {v:Value} {l:L3} {s:Sp} (h:RFa V v l s) (ho:FOk l s) {k:Nat} (sl:SzL k l) (hs:s.sz k) (hk:4 * k + 4 < 274877906944) :
  Acts prog 30 #[v] V fun r V'=>r=.bool true:=by
 have h0:=h
 obtain ⟨_,_,_,_,_,_,_,_,_,_,_,_,_,_,_,_,_,_,_,_,_,_,_,_,_,_,rfl⟩:=fa_shape h
 refine vc_fragment_Valid _ _ _ _ _ _ _ _ _ _ _ _ _ _ _ _ _ _ _ _ _ _ _ _ _ _ _ _ V _ fun V1 l1=>(c_FrOf_ok (h0.le l1) ho sl hs (by omega)).mono ?_
 rintro r V2 l2 ⟨w,rfl,g⟩
 obtain ⟨_,_,_,_,_,_,_,_,_,_,_,_,_,_,_,rfl⟩:=FrSh.ex g
 exact ⟨_,_,_,_,_,_,_,_,_,_,_,_,_,_,_,_,_,_,rfl,fun V3 l3=>rfl⟩
theorem sz_segS {px py qx qy:Rat} {k:Nat} (s1:Sz k px) (s2:Sz k py) (s3:Sz k qx) (s4:Sz k qy) (h:¬ (px=qx/\py=qy)):(segS px py qx qy).sz (400 * k + 400):=by
 have sl:=sz_thrL s1 s2 s3 s4 h
 exact ⟨Sz.mono (sz_parL sl (Sz.mono s1 (by omega)) (Sz.mono s2 (by omega))) (by omega),Sz.mono (sz_parL sl (Sz.mono s3 (by omega)) (Sz.mono s4 (by omega))) (by omega)⟩
theorem c_FromPoints {V:View} {u v:Value} {px py qx qy:Rat} (hp:RAP V u px py) (hq:RAP V v qx qy) {k:Nat} (s1:Sz k px) (s2:Sz k py) (s3:Sz k qx) (s4:Sz k qy) (hk:2000 * k + 2000 < 274877906944) :
  Acts prog 9 #[u,v] V fun r V'=>(px=qx/\py=qy->∃l,r=.tuple #[l,.bool false]/\FZero l)/\(¬ (px=qx/\py=qy)->∃l,r=.tuple #[l,.bool true]/\RFa V' l (thrL px py qx qy) (segS px py qx qy)):=by
 have hp0:=hp
 have hq0:=hq
 obtain ⟨_,_,_,_,_,_,_,_,_,_,_,_,_,_,rfl⟩:=ap_shape hp
 obtain ⟨_,_,_,_,_,_,_,_,_,_,_,_,_,_,rfl⟩:=ap_shape hq
 refine vc_fragment_FromPoints _ _ _ _ _ _ _ _ _ _ _ _ _ _ _ _ _ _ _ _ _ _ _ _ _ _ _ _ V _ fun V1 l1=>(c_geo_PtOf (hp0.le l1) s1 s2 (by omega)).mono ?_
 rintro r V2 l2 g1
 have g10:=g1
 obtain ⟨_,_,_,_,_,_,rfl⟩:=pt_shape g1
 refine ⟨_,_,_,_,_,_,rfl,fun V3 l3=>(c_geo_PtOf (hq0.le (l1.trans (l2.trans l3))) s3 s4 (by omega)).mono ?_⟩
 rintro r V4 l4 g2
 have g20:=g2
 obtain ⟨_,_,_,_,_,_,rfl⟩:=pt_shape g2
 refine ⟨_,_,_,_,_,_,rfl,fun V5 l5=>(c_geo_Segment (g10.le (l3.trans (l4.trans l5))) (g20.le l5) s1 s2 s3 s4 (by omega)).mono ?_⟩
 rintro r V6 l6 ⟨m1,m2⟩
 by_cases h:px=qx/\py=qy
 ·obtain ⟨l,rfl,g⟩:=m1 h
  obtain ⟨_,_,_,_,_,_,_,_,_,_,_,_,_,_,_,rfl⟩:=FrSh.ex g
  exact ⟨_,_,_,_,_,_,_,_,_,_,_,_,_,_,_,_,_,_,rfl,fun _ V7 l7=>⟨fun _=>⟨_,rfl,rfl⟩,fun h'=>absurd h h'⟩,(fun h=>nomatch h)⟩
 ·obtain ⟨l,rfl,g⟩:=m2 h
  have g0:=g
  have sl:=sz_thrL s1 s2 s3 s4 h
  have ss:=sz_segS s1 s2 s3 s4 h
  obtain ⟨_,_,_,_,_,_,_,_,_,_,_,_,_,_,_,rfl⟩:=FrSh.ex g
  refine ⟨_,_,_,_,_,_,_,_,_,_,_,_,_,_,_,_,_,_,rfl,(fun h=>nomatch h),fun _ V8 l8=>(c_Fr_API (g0.le l8) (k:=400 * k + 400) ⟨Sz.mono sl.1 (by omega),Sz.mono sl.2.1 (by omega),Sz.mono sl.2.2 (by omega)⟩ ss (by omega)).mono ?_⟩
  rintro r V9 l9 f
  have f0:=f
  obtain ⟨_,_,_,_,_,_,_,_,_,_,_,_,_,_,_,_,_,_,_,_,_,_,_,_,_,_,rfl⟩:=fa_shape f
  exact ⟨_,_,_,_,_,_,_,_,_,_,_,_,_,_,_,_,_,_,_,_,_,_,_,_,_,_,_,_,rfl,fun V10 l10=>⟨fun h'=>absurd h' h,fun _=>⟨_,rfl,f0.le l10⟩⟩⟩
theorem c_end_End {V:View} {v:Value} {l:L3} {s:Sp} (h:RFa V v l s) (ho:FOk l s) {k:Nat} (sl:SzL k l) (hs:s.sz k) (hk:20 * k + 20 < 274877906944) :
  Acts prog 60 #[v,.func (.func 62) #[] #[]] V fun r V'=>∃w,r=.tuple #[w,.bool (!s.b)]/\(s.b=false->RAP V' w (atX l s.hi) (atY l s.hi))/\(s.b=true->PZero w):=by
 have h0:=h
 obtain ⟨_,_,_,_,_,_,_,_,_,_,_,_,_,_,_,_,_,_,_,_,_,_,_,_,_,_,rfl⟩:=fa_shape h
 refine vc_fragment_end_End _ _ _ _ _ _ _ _ _ _ _ _ _ _ _ _ _ _ _ _ _ _ _ _ _ _ _ _ V _ fun V1 l1=>(c_FrOf_ok (h0.le l1) ho sl hs (by omega)).mono ?_
 rintro r V2 l2 ⟨w,rfl,g⟩
 have g0:=g
 obtain ⟨_,_,_,_,_,_,_,_,_,_,_,_,_,_,_,rfl⟩:=FrSh.ex g
 refine ⟨_,_,_,_,_,_,_,_,_,_,_,_,_,_,_,_,_,_,rfl,(fun h=>nomatch h),fun _ V4 l4=>(c_Fr_End (g0.le l4) sl hs (by omega)).mono ?_⟩
 rintro r V5 l5 ⟨w,rfl,f⟩
 have f0:=f
 obtain ⟨_,_,_,_,_,_,rfl⟩:=pt_shape f
 refine ⟨_,_,_,_,_,_,_,rfl,fun hb V6 l6=>?_,fun hb V7 l7=>?_⟩
 ·have ha:s.b=true:=by simpa using hb
  rw [ha]
  exact ⟨_,rfl,(fun h=>nomatch h),fun _=>rfl⟩
 ·have ha:s.b=false:=by simpa using hb
  rw [ha] at f0
  refine (c_geo_Pt_API (f0.le l7) (k:=20 * k + 19) (sz_atX sl hs.2) (sz_atY sl hs.2) (by omega)).mono ?_
  rintro r V8 l8 e
  have e0:=e
  obtain ⟨_,_,_,_,_,_,_,_,_,_,_,_,_,_,rfl⟩:=ap_shape e
  exact ⟨_,_,_,_,_,_,_,_,_,_,_,_,_,_,rfl,fun V9 l9=>⟨_,by rw [ha]; rfl,fun _=>e0.le l9,fun h=>by rw [ha] at h; cases h⟩⟩
theorem end_shape {V:View} {w:Value} {x y:Rat} {c:Bool} (h1:c=false->RAP V w x y) (h2:c=true->PZero w):∃b p n c p' n' c' d q m e q' m' e',w=.agg #[.bool b,.slice p n c,.slice p' n' c',.bool d,.slice q m e,.slice q' m' e']:=by
 cases c with
 | false=>exact ap_shape (h1 rfl)
 | true=>exact ⟨_,_,_,_,_,_,_,_,_,_,_,_,_,_,h2 rfl⟩
theorem c_End {V:View} {v:Value} {l:L3} {s:Sp} (h:RFa V v l s) (ho:FOk l s) {k:Nat} (sl:SzL k l) (hs:s.sz k) (hk:20 * k + 20 < 274877906944) :
  Acts prog 17 #[v] V fun r V'=>∃w,r=.tuple #[w,.bool (!s.b)]/\(s.b=false->RAP V' w (atX l s.hi) (atY l s.hi))/\(s.b=true->PZero w):=by
 have h0:=h
 obtain ⟨_,_,_,_,_,_,_,_,_,_,_,_,_,_,_,_,_,_,_,_,_,_,_,_,_,_,rfl⟩:=fa_shape h
 refine vc_fragment_End _ _ _ _ _ _ _ _ _ _ _ _ _ _ _ _ _ _ _ _ _ _ _ _ _ _ _ _ V _ fun V1 l1=>(c_end_End (h0.le l1) ho sl hs hk).mono ?_
 rintro r V2 l2 ⟨w,rfl,g1,g2⟩
 have g10:=g1
 have g20:=g2
 obtain ⟨_,_,_,_,_,_,_,_,_,_,_,_,_,_,rfl⟩:=end_shape g1 g2
 exact ⟨_,_,_,_,_,_,_,_,_,_,_,_,_,_,_,rfl,fun V3 l3=>⟨_,rfl,fun e=>(g10 e).le l3,g20⟩⟩
theorem c_FromInts {V:View} (x y:Int) (h0:-1000<=x) (h1:x<=1000) (h2:-1000<=y) (h3:y<=1000) :
  Acts prog 69 #[.int .i64 x,.int .i64 y] V fun r V'=>RAP V' r (x:Rat) (y:Rat):=by
 have sx:Sz 10 (x:Rat):=sz_int (by omega) (by omega)
 have sy:Sz 10 (y:Rat):=sz_int (by omega) (by omega)
 refine vc_point_FromInts x y V _ fun V1 l1=>(c_frac_Int x (by omega) (by omega)).mono ?_
 rintro r V2 l2 g1
 have g10:=g1
 obtain ⟨_,_,_,rfl⟩:=g1.shape
 refine ⟨_,_,_,rfl,fun V3 l3=>(c_frac_Int y (by omega) (by omega)).mono ?_⟩
 rintro r V4 l4 g2
 have g20:=g2
 obtain ⟨_,_,_,rfl⟩:=g2.shape
 refine ⟨_,_,_,rfl,fun V5 l5=>(c_geo_Pt_API ⟨_,_,_,_,_,_,rfl,g10.le (l3.trans (l4.trans l5)),g20.le l5⟩ sx sy (by omega)).mono ?_⟩
 rintro r V6 l6 e
 have e0:=e
 obtain ⟨_,_,_,_,_,_,_,_,_,_,_,_,_,_,rfl⟩:=ap_shape e
 exact ⟨_,_,_,_,_,_,_,_,_,_,_,_,_,_,rfl,fun V7 l7=>e0.le l7⟩
theorem c_point_Same {V:View} {v w:Value} {x y x' y':Rat} (hp:RAP V v x y) (hq:RAP V w x' y') {k:Nat} (s1:Sz k x) (s2:Sz k y) (s3:Sz k x') (s4:Sz k y') (hk:2 * k < 1099511627776) :
  Acts prog 70 #[v,w] V fun r V'=>r=.bool (decide (x=x'/\y=y')):=by
 have hp0:=hp
 have hq0:=hq
 obtain ⟨_,_,_,_,_,_,_,_,_,_,_,_,_,_,rfl⟩:=ap_shape hp
 obtain ⟨_,_,_,_,_,_,_,_,_,_,_,_,_,_,rfl⟩:=ap_shape hq
 refine vc_point_Same _ _ _ _ _ _ _ _ _ _ _ _ _ _ _ _ _ _ _ _ _ _ _ _ _ _ _ _ V _ fun V1 l1=>(c_geo_PtOf (hp0.le l1) s1 s2 (by omega)).mono ?_
 rintro r V2 l2 g1
 have g10:=g1
 obtain ⟨_,_,_,_,_,_,rfl⟩:=pt_shape g1
 refine ⟨_,_,_,_,_,_,rfl,fun V3 l3=>(c_geo_PtOf (hq0.le (l1.trans (l2.trans l3))) s3 s4 (by omega)).mono ?_⟩
 rintro r V4 l4 g2
 have g20:=g2
 obtain ⟨_,_,_,_,_,_,rfl⟩:=pt_shape g2
 refine ⟨_,_,_,_,_,_,rfl,fun V5 l5=>(c_geo_Pt_Equal (g10.le (l3.trans (l4.trans l5))) (g20.le l5) s1 s2 s3 s4 hk).mono ?_⟩
 rintro r V6 l6 rfl
 exact ⟨_,rfl,fun V7 l7=>rfl⟩
end Go.Proofs.Tryz
/- Contracts: the tape's spans and fragments. -/
namespace Go.Proofs.Tryz
open Go.Eng Go.Big
theorem gcdQ_num_nonneg (x y:Rat):0<=(gcdQ x y).num:=by
 unfold gcdQ
 rw [Rat.num_mkRat]
 split
 ·omega
 ·exact Int.ediv_nonneg (Int.natCast_nonneg _) (Int.natCast_nonneg _)
/-- The parameters of the ends of a segment differ by the divisor. -/
theorem seg_diff {px py qx qy:Rat} (h:¬ (px=qx/\py=qy)):parL (thrL px py qx qy) qx qy - parL (thrL px py qx qy) px py=gcdQ (gcdQ (-(qy - py)) (qx - px)) (-(-(qy - py) * px + (qx - px) * py)):=by
 obtain ⟨hg,e1,e2,-⟩:=mkLn_spec (a:=-(qy - py)) (b:=qx - px) (c:=-(-(qy - py) * px + (qx - px) * py)) (thrL_ne h)
 have hn:=(thrL_nz h).norm
 change _=((thrL px py qx qy).1:Rat) at e1
 change _=((thrL px py qx qy).2.1:Rat) at e2
 generalize gcdQ (gcdQ (-(qy - py)) (qx - px)) (-(-(qy - py) * px + (qx - px) * py))=g at *
 have h1:=Rat.mul_inv_cancel g hg
 have h2:=Rat.mul_inv_cancel _ hn
 unfold parL
 have hN:normL (thrL px py qx qy)=((qy - py) * (qy - py) + (qx - px) * (qx - px)) * (g⁻¹ * g⁻¹):=by
  unfold normL; rw [← e1,← e2]; grind
 rw [← e1,← e2]
 generalize (normL (thrL px py qx qy))⁻¹=N at *
 generalize g⁻¹=i at *
 rw [hN] at h2
 grind
theorem seg_emp {px py qx qy:Rat} (h:¬ (px=qx/\py=qy)):(segS px py qx qy).emp=false:=by
 obtain ⟨hg,-⟩:=mkLn_spec (a:=-(qy - py)) (b:=qx - px) (c:=-(-(qy - py) * px + (qx - px) * py)) (thrL_ne h)
 have hd:=seg_diff h
 have hp:=gcdQ_num_nonneg (gcdQ (-(qy - py)) (qx - px)) (-(-(qy - py) * px + (qx - px) * py))
 unfold segS Sp.emp
 dsimp only
 generalize gcdQ (gcdQ (-(qy - py)) (qx - px)) (-(-(qy - py) * px + (qx - px) * py))=g at *
 have e:cmpQ (parL (thrL px py qx qy) px py) (parL (thrL px py qx qy) qx qy)=- g.num.sign:=by
  rw [cmpQ_swap,← hd]; rfl
 rw [e]
 have hn:g.num≠0:=num_zero hg
 have:g.num.sign=1:=Int.sign_eq_one_of_pos (by omega)
 rw [this]
 rfl
theorem seg_ok {px py qx qy:Rat} (h:¬ (px=qx/\py=qy)):FOk (thrL px py qx qy) (segS px py qx qy):=⟨okL_thrL h,⟨(fun h=>nomatch h),(fun h=>nomatch h)⟩,seg_emp h⟩
theorem s_half:∀i:Fin 6,(mkRat ((i.1:Int) + 1) 2).num.sign=1/\Sz 10 (mkRat ((i.1:Int) + 1) 2):=by unfold Sz; decide +kernel
theorem rq0 (V:View):RQ V (.agg #[.bool false,.slice none 0 0,.slice none 0 0]) 0:=by have:=RQ.zero (V:=V); simpa using this
theorem sz0 (k:Nat) (hk:0 < k):Sz k (0:Rat):=⟨by show (0:Int).natAbs < _; exact Nat.lt_of_lt_of_le (by decide) (Nat.one_le_two_pow),Nat.one_lt_two_pow (by omega)⟩
theorem c_ref06_Full {V:View}:Acts prog 81 #[] V fun r V'=>RSs V' r ⟨0,0,true,true⟩:=
 vc_ref06_Full V _ fun V1 l1=>⟨_,_,_,_,_,_,_,_,_,_,_,_,_,_,rfl,rq0 _,rq0 _⟩
theorem rs_shape {V:View} {v:Value} {s:Sp} (h:RSs V v s):∃b p n c p' n' c' d q m e q' m' e',v=.agg #[.bool b,.slice p n c,.slice p' n' c',.bool d,.slice q m e,.slice q' m' e',.bool s.a,.bool s.b]:=by
 obtain ⟨_,_,_,_,_,_,_,_,_,_,_,_,_,_,e,-⟩:=h; exact ⟨_,_,_,_,_,_,_,_,_,_,_,_,_,_,e⟩
theorem rf_shape {V:View} {v:Value} {l:L3} {s:Sp} (h:RF V v l s):∃b1 p1 n1 c1 b2 p2 n2 c2 b3 p3 n3 c3 b p n c p' n' c' d q m e q' m' e',
 v=.agg #[.bool b1,.slice p1 n1 c1,.bool b2,.slice p2 n2 c2,.bool b3,.slice p3 n3 c3,.bool b,.slice p n c,.slice p' n' c',.bool d,.slice q m e,.slice q' m' e',.bool s.a,.bool s.b]:=by
 obtain ⟨_,_,_,_,_,_,_,_,_,_,_,_,_,_,_,_,_,_,_,_,_,_,_,_,_,_,e,-⟩:=h; exact ⟨_,_,_,_,_,_,_,_,_,_,_,_,_,_,_,_,_,_,_,_,_,_,_,_,_,_,e⟩
theorem c_S {V:View} {tb:Nat} {p:OA} {n c:Nat} {at_:Int} (hr:Rdl V p n) (hn:n<=400) (hw:TpAt V tb p n c at_) (hx:V.X tb) (h0:0<=at_) :
  Acts prog 34 #[.pointer (some ⟨tb,0,none⟩)] V fun r V'=>∃(s:Sp) (at':Int),RSs V' r s/\s.can/\s.emp=false/\s.sz 40/\0<=at'/\TpAt V' tb p n c at':=by
 refine vc_scene_Tape_S tb p n c at_ V _ hw hx fun V1 l1 bk1 e1 h1=>(c_Q (V:=V1.lend [bk1]) (hr.le fun b o h=>l1 b o h) hn e1 ⟨by simp,h1⟩ h0).mono ?_
 rintro r V2 l2 ⟨lo,at1,hq,sq,t1,hw1⟩
 have hq0:=hq
 obtain ⟨qa,qb,qc,qd,qe,qf,rfl⟩:=hq.shape
 refine ⟨_,_,_,_,_,_,_,rfl,_,_,_,_,hw1,fun V3 l3 bk7 e3 h3=>(c_Next (V:=V3.lend [bk7]) 6 (hr.le fun b o h=>l3 b o (l2 b o (l1 b o h))) hn e3 ⟨by simp,h3⟩ t1 (by omega) (by omega)).mono ?_⟩
 rintro r V4 l4 ⟨x,at2,rfl,x0,x1,t2,hw2⟩
 obtain ⟨i,rfl⟩:∃i:Nat,x=i:=⟨x.toNat,by omega⟩
 obtain ⟨z1,z2⟩:=s_half ⟨i,by omega⟩
 dsimp only at z1 z2
 have w1:i64.wrap (1 + (i:Int))=(i:Int) + 1:=by rw [i64w (by omega)]; omega
 refine ⟨_,rfl,_,_,_,_,hw2,fun V5 l5=>?_⟩
 rw [w1]
 refine (c_num_Part ((i:Int) + 1) 2 (by omega) (by omega) (by omega) (by omega)).mono ?_
 generalize mkRat ((i:Int) + 1) 2=q at *
 rintro r V6 l6 gp
 have gp0:=gp
 obtain ⟨_,_,_,_,_,_,rfl⟩:=gp.shape
 have l27:∀{V7:View},V6.Le V7->V2.Le V7:=fun l7 b o h=>l7 b o (l6 b o (l5 b o (l4 b o (l3 b o h))))
 refine ⟨_,_,_,_,_,_,_,rfl,fun V7 l7=>(c_num_Plus (hq0.le (l27 l7)) (gp0.le l7) sq z2 (by omega)).mono ?_⟩
 rintro r V8 l8 gh
 have gh0:=gh
 obtain ⟨ga,gb,gc,gd,ge,gf',rfl⟩:=gh.shape
 have sh:Sz 21 (lo + q):=sq.add z2
 have l02:∀{V9:View},V8.Le V9->V.Le V9:=fun l9 b o h=>l9 b o (l8 b o (l7 b o (l6 b o (l5 b o (l4 b o (l3 b o (l2 b o (l1 b o h))))))))
 refine ⟨_,_,_,_,_,_,_,rfl,fun V9 l9 bk17 e9 h9=>(c_Next (V:=V9.lend [bk17]) 8 (hr.le fun b o h=>l02 l9 b o h) hn e9 ⟨by simp,h9⟩ t2 (by omega) (by omega)).mono ?_⟩
 rintro r V10 l10 ⟨y,at3,rfl,y0,y1,t3,hw3⟩
 have l8_10:∀{V11:View},V10.shut.Le V11->V8.Le V11:=fun l11 b o h=>l11 b o (l10 b o (l9 b o h))
 have l2_10:∀{V11:View},V10.shut.Le V11->V2.Le V11:=fun l11=>(l27 l7).trans (l8.trans (l8_10 l11))
 have full:∀(V11 W:View),V10.shut.Le V11->V11.Le W->∀at4,0<=at4->TpAt W tb p n c at4->∃(s:Sp) (at':Int),RSs W (.agg #[.bool (decide (lo.num < 0)),.slice qa qb qc,.slice qd qe qf,.bool (decide ((lo + q).num < 0)),.slice ga gb gc,.slice gd ge gf',.bool false,.bool false]) s/\s.can/\s.emp=false/\s.sz 40/\0<=at'/\TpAt W tb p n c at':=fun V11 W l11 lw at4 t4 e4=>
  ⟨⟨lo,lo + q,false,false⟩,at4,⟨_,_,_,_,_,_,_,_,_,_,_,_,_,_,rfl,hq0.le ((l2_10 l11).trans lw),gh0.le ((l8_10 l11).trans lw)⟩,⟨(fun h=>nomatch h),(fun h=>nomatch h)⟩,by
   have e:cmpQ lo (lo + q)=- q.num.sign:=by
    rw [cmpQ_swap]
    unfold cmpQ
    rw [show lo + q - lo=q from by grind]
   unfold Sp.emp
   dsimp only
   rw [e,z1]
   rfl,⟨Sz.mono sq (by omega),Sz.mono sh (by omega)⟩,t4,e4⟩
 refine ⟨_,rfl,_,_,_,_,hw3,fun _ V11 l11 e11=>?_,fun _=>⟨fun _ V12 l12 e12=>?_,fun _=>⟨fun _ V13 l13 bk21 e13 h13=>(c_Next (V:=V13.lend [bk21]) 4 (hr.le fun b o h=>l13 b o (l10 b o (l02 l9 b o h))) hn e13 ⟨by simp,h13⟩ t3 (by omega) (by omega)).mono ?_,fun _ V19 l19 e19=>full _ _ l19 (View.Le.refl _) at3 t3 e19⟩⟩⟩
 ·exact ⟨⟨0,lo + q,true,false⟩,at3,⟨_,_,_,_,_,_,_,_,_,_,_,_,_,_,rfl,rq0 _,gh0.le (l8_10 l11)⟩,⟨fun _=>rfl,(fun h=>nomatch h)⟩,rfl,⟨sz0 _ (by omega),Sz.mono sh (by omega)⟩,t3,e11⟩
 ·exact ⟨⟨lo,0,false,true⟩,at3,⟨_,_,_,_,_,_,_,_,_,_,_,_,_,_,rfl,hq0.le (l2_10 l12),rq0 _⟩,⟨(fun h=>nomatch h),fun _=>rfl⟩,rfl,⟨Sz.mono sq (by omega),sz0 _ (by omega)⟩,t3,e12⟩
 ·rintro r V14 l14 ⟨z,at4,rfl,-,-,t4,hw4⟩
  refine ⟨_,rfl,_,_,_,_,hw4,fun _ V15 l15=>c_ref06_Full.mono ?_,fun _ V18 l18 e18=>full _ _ l13 (fun b o h=>l18 b o (l14 b o h)) at4 t4 e18⟩
  rintro r V16 l16 gf
  have gf0:=gf
  obtain ⟨_,_,_,_,_,_,_,_,_,_,_,_,_,_,rfl⟩:=rs_shape gf
  exact ⟨_,_,_,_,_,_,_,_,_,_,_,_,_,_,_,_,rfl,fun V17 l17 e17=>⟨⟨0,0,true,true⟩,at4,gf0.le l17,⟨fun _=>rfl,fun _=>rfl⟩,rfl,⟨sz0 _ (by omega),sz0 _ (by omega)⟩,t4,e17⟩⟩
theorem c_F {V:View} {tb:Nat} {p:OA} {n c:Nat} {at_:Int} (hr:Rdl V p n) (hn:n<=400) (hw:TpAt V tb p n c at_) (hx:V.X tb) (h0:0<=at_) :
  Acts prog 14 #[.pointer (some ⟨tb,0,none⟩)] V fun r V'=>∃(l:L3) (s:Sp) (at':Int),RF V' r l s/\FOk l s/\SzL 5000 l/\s.sz 5000/\0<=at'/\TpAt V' tb p n c at':=by
 refine vc_scene_Tape_F tb p n c at_ V _ hw hx fun V1 l1 bk1 e1 h1=>(c_Next (V:=V1.lend [bk1]) 3 (hr.le fun b o h=>l1 b o h) hn e1 ⟨by simp,h1⟩ h0 (by omega) (by omega)).mono ?_
 rintro r V2 l2 ⟨x,at1,rfl,-,-,t1,hw1⟩
 refine ⟨_,rfl,_,_,_,_,hw1,fun _ V3 l3 bk5 e3 h3=>(c_L (V:=V3.lend [bk5]) (hr.le fun b o h=>l3 b o (l2 b o (l1 b o h))) hn e3 ⟨by simp,h3⟩ t1).mono ?_,fun _ V8 l8 bk25 e8 h8=>(c_P (V:=V8.lend [bk25]) (hr.le fun b o h=>l8 b o (l2 b o (l1 b o h))) hn e8 ⟨by simp,h8⟩ t1).mono ?_⟩
 ·rintro r V4 l4 ⟨l,at2,gl,ho,hb,t2,hw2⟩
  have gl0:=gl
  obtain ⟨_,_,_,_,_,_,_,_,_,_,_,_,rfl⟩:=rl_shape gl
  refine ⟨_,_,_,_,_,_,_,_,_,_,_,_,rfl,_,_,_,_,hw2,fun V5 l5 bk14 e5 h5=>(c_S (V:=V5.lend [bk14]) (hr.le fun b o h=>l5 b o (l4 b o (l3 b o (l2 b o (l1 b o h))))) hn e5 ⟨by simp,h5⟩ t2).mono ?_⟩
  rintro r V6 l6 ⟨s,at3,gs,hc,hne,ss,t3,hw3⟩
  have gs0:=gs
  obtain ⟨_,_,_,_,_,_,_,_,_,_,_,_,_,_,rfl⟩:=rs_shape gs
  obtain ⟨z1,z2,z3⟩:=hb.sz
  exact ⟨_,_,_,_,_,_,_,_,_,_,_,_,_,_,_,_,rfl,_,_,_,_,hw3,fun V7 l7 e7=>⟨l,s,at3,⟨_,_,_,_,_,_,_,_,_,_,_,_,_,_,_,_,_,_,_,_,_,_,_,_,_,_,rfl,gl0.le fun b o h=>l7 b o (l6 b o (l5 b o h)),gs0.le fun b o h=>l7 b o h⟩,⟨ho,hc,hne⟩,⟨Sz.mono z1 (by omega),Sz.mono z2 (by omega),Sz.mono z3 (by omega)⟩,⟨Sz.mono ss.1 (by omega),Sz.mono ss.2 (by omega)⟩,t3,e7⟩⟩
 ·rintro r V9 l9 ⟨x,y,at2,hp,hx1,hy1,t2,hw2⟩
  have hp0:=hp
  obtain ⟨_,_,_,_,_,_,_,_,_,_,_,_,_,_,rfl⟩:=rp_shape hp
  refine ⟨_,_,_,_,_,_,_,_,_,_,_,_,_,_,rfl,_,_,_,_,hw2,fun V10 l10=>(c_num_Of 1 (by omega) (by omega)).mono ?_⟩
  rintro r V11 l11 hq
  have hq0:=hq
  obtain ⟨_,_,_,_,_,_,rfl⟩:=hq.shape
  refine ⟨_,_,_,_,_,_,_,rfl,fun V12 l12 bk37 e12 h12=>(c_V (V:=V12.lend [bk37]) (hr.le fun b o h=>l12 b o (l11 b o (l10 b o (l9 b o (l8 b o (l2 b o (l1 b o h))))))) hn e12 ⟨by simp,h12⟩ t2).mono ?_⟩
  rintro r V13 l13 ⟨u,w,at3,hv,hu1,hw1',hne,t3,hw3⟩
  have hv0:=hv
  obtain ⟨_,_,_,_,_,_,_,_,_,_,_,_,_,_,rfl⟩:=rp_shape hv
  refine ⟨_,_,_,_,_,_,_,_,_,_,_,_,_,_,rfl,_,_,_,_,hw3,fun V14 l14=>?_⟩
  have l9_14:V9.Le V14:=fun b o h=>l14 b o (l13 b o (l12 b o (l11 b o (l10 b o h))))
  have l11_14:V11.Le V14:=fun b o h=>l14 b o (l13 b o (l12 b o h))
  have l13_14:V13.Le V14:=fun b o h=>l14 b o h
  refine (c_ref04_Add (hp0.le l9_14) (hq0.le l11_14) (hv0.le l13_14) (k:=10) (m:=10) (sz4 (by omega)) (sz4 (by omega)) (sz4 (by omega)) (sz4 (by omega)) (sz4 (by omega)) (by omega)).mono ?_
  rintro r V15 l15 hs
  have f1:(x:Rat) + ((1:Int):Rat) * (u:Rat)=((x + u:Int):Rat):=by rw [← Rat.intCast_mul,← Rat.intCast_add,Int.one_mul]
  have f2:(y:Rat) + ((1:Int):Rat) * (w:Rat)=((y + w:Int):Rat):=by rw [← Rat.intCast_mul,← Rat.intCast_add,Int.one_mul]
  rw [f1,f2] at hs
  have hs0:=hs
  obtain ⟨_,_,_,_,_,_,_,_,_,_,_,_,_,_,rfl⟩:=rp_shape hs
  have ne:¬ ((x:Rat)=((x + u:Int):Rat)/\(y:Rat)=((y + w:Int):Rat)):=by
   rintro ⟨e1,e2⟩
   have e1:x=x + u:=by exact_mod_cast e1
   have e2:y=y + w:=by exact_mod_cast e2
   exact hne ⟨by omega,by omega⟩
  have s1:Sz 10 (x:Rat):=sz4 (by omega)
  have s2:Sz 10 (y:Rat):=sz4 (by omega)
  have s3:Sz 10 ((x + u:Int):Rat):=sz4 (by omega)
  have s4:Sz 10 ((y + w:Int):Rat):=sz4 (by omega)
  refine ⟨_,_,_,_,_,_,_,_,_,_,_,_,_,_,rfl,fun V16 l16=>(c_ref06_Segment (hp0.le (l9_14.trans (l15.trans l16))) (hs0.le l16) s1 s2 s3 s4 (by omega) (by omega)).mono ?_⟩
  rintro r V17 l17 ⟨-,m2⟩
  obtain ⟨f,rfl,gf⟩:=m2 ne
  have gf0:=gf
  have sl:=sz_thrL s1 s2 s3 s4 ne
  have ss:=sz_segS s1 s2 s3 s4 ne
  obtain ⟨_,_,_,_,_,_,_,_,_,_,_,_,_,_,_,_,_,_,_,_,_,_,_,_,_,_,rfl⟩:=rf_shape gf
  exact ⟨_,_,_,_,_,_,_,_,_,_,_,_,_,_,_,_,_,_,_,_,_,_,_,_,_,_,_,_,_,rfl,fun V18 l18 e18=>⟨_,_,at3,gf0.le l18,seg_ok ne,⟨Sz.mono sl.1 (by omega),Sz.mono sl.2.1 (by omega),Sz.mono sl.2.2 (by omega)⟩,⟨Sz.mono ss.1 (by omega),Sz.mono ss.2 (by omega)⟩,t3,e18⟩⟩
end Go.Proofs.Tryz
