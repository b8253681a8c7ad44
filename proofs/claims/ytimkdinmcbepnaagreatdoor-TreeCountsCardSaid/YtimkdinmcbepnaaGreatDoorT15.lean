/- A part of the proof (joined by program from: VLine, PtA, VRefF, NumK, RefE, PtB, LineP, LineQ, VSceneF, SceneD, VFrag, RefG, FrA, FrB, FrC, SideP, RefH, FragA, VFrS, FrS, FrT, SceneE, FragB, VFrB, RefI, VMeet, MeetA, OrdL, SortQ, VSrtU, SrtU). -/
import Derived.Test.YtimkdinmcbepnaaGreatDoorT5
import Derived.Test.YtimkdinmcbepnaaGreatDoorT14
import Derived.Test.YtimkdinmcbepnaaGreatDoorT12
import Derived.Test.YtimkdinmcbepnaaGreatDoorT11
import Derived.Test.YtimkdinmcbepnaaGreatDoorT13
import Derived.Test.YtimkdinmcbepnaaGreatDoorT7
set_option linter.unusedVariables false
open Go.IntKind (i64 u64 u32)
/- By program: the conditions of the functions, from their loaded code. -/
namespace Go.Proofs.Tryz
open Go.Eng
open Go.Value renaming int→I,pointer→P,slice→S,agg→A,bool→B,tuple→T
open Go.IntKind renaming i64→J,u64→U,u32→W
set_option maxRecDepth 100000
theorem vc_geo_Ln_Reverse (a b:Int) (c:OA) (d e:Int) (f:OA) (g i:Int) (k:OA) (V:View) (R:VR) (h:(Ca V 142 #[A #[I J a,I J b,P c]] fun w x=>∃l,∃m,∃n,w=A #[I J l,I J m,P n]/\(Ca x 142 #[A #[I J d,I J e,P f]] fun y z=>∃o,∃p,∃q,y=A #[I J o,I J p,P q]/\(Ca z 142 #[A #[I J g,I J i,P k]] fun a0 a1=>∃r,∃s,∃t,a0=A #[I J r,I J s,P t]/\(Rt a1 R (A #[I J l,I J m,P n,I J o,I J p,P q,I J r,I J s,P t])))))):
 Acts prog 211 #[A #[I J a,I J b,P c,I J d,I J e,P f,I J g,I J i,P k]] V R:=
 fd (LF:=LF0) (RF:=[1000010]) [] [] func211 h
end Go.Proofs.Tryz
/- Contracts of points and lines of package geo (printed by straight.py). -/
namespace Go.Proofs.Tryz
open Go.Eng Go.Big
/-- A point of package geo. -/
def RPt (V:View) (v:Value) (x y:Rat):Prop:=∃(x1 x2:Int) (p:OA) (y1 y2:Int) (q:OA),v=.agg #[.int .i64 x1,.int .i64 x2,.pointer p,.int .i64 y1,.int .i64 y2,.pointer q] /\
 RR V (.agg #[.int .i64 x1,.int .i64 x2,.pointer p]) x/\RR V (.agg #[.int .i64 y1,.int .i64 y2,.pointer q]) y
theorem RPt.le {V V':View} {v:Value} {x y:Rat} (h:RPt V v x y) (l:V.Le V'):RPt V' v x y:=by
 obtain ⟨x1,x2,p,y1,y2,q,e,h1,h2⟩:=h
 exact ⟨x1,x2,p,y1,y2,q,e,h1.le l,h2.le l⟩
theorem c_geo_Ln_Reverse {V:View} {l:Value} {l_0 l_1 l_2:Rat} (hl:RLn V l l_0 l_1 l_2) {k:Nat} (sl_0:Sz k l_0) (sl_1:Sz k l_1) (sl_2:Sz k l_2) (hk:1 * k + 1 < 274877906944) :
  Acts prog 211 #[l] V fun r V'=>RLn V' r (-(l_0)) (-(l_1)) (-(l_2)):=by
 have hl0:=hl
 obtain ⟨l0,l1,l2,l3,l4,l5,l6,l7,l8,rfl,hl_0,hl_1,hl_2⟩:=hl
 refine vc_geo_Ln_Reverse l0 l1 l2 l3 l4 l5 l6 l7 l8 V _ fun V1 l1=>(c_R_Neg (hl_0.le (l1)) sl_0 (by omega)).mono ?_
 rintro r V2 l2 g1
 have g10:=g1
 obtain ⟨w0a,w0b,w0c,rfl⟩:=g1.shape
 have z1_0:Sz (1 * k + 0) (-(l_0)):=Sz.mono (Sz.neg sl_0) (by omega)
 refine ⟨_,_,_,rfl,fun V3 l3=>(c_R_Neg (hl_1.le (l1.trans (l2.trans (l3)))) sl_1 (by omega)).mono ?_⟩
 rintro r V4 l4 g2
 have g20:=g2
 obtain ⟨w1a,w1b,w1c,rfl⟩:=g2.shape
 have z2_0:Sz (1 * k + 0) (-(l_1)):=Sz.mono (Sz.neg sl_1) (by omega)
 refine ⟨_,_,_,rfl,fun V5 l5=>(c_R_Neg (hl_2.le (l1.trans (l2.trans (l3.trans (l4.trans (l5)))))) sl_2 (by omega)).mono ?_⟩
 rintro r V6 l6 g3
 have g30:=g3
 obtain ⟨w2a,w2b,w2c,rfl⟩:=g3.shape
 have z3_0:Sz (1 * k + 0) (-(l_2)):=Sz.mono (Sz.neg sl_2) (by omega)
 exact ⟨_,_,_,rfl,fun V7 l7=>⟨_,_,_,_,_,_,_,_,_,rfl,(g10.le (l3.trans (l4.trans (l5.trans (l6.trans (l7)))))),(g20.le (l5.trans (l6.trans (l7)))),(g30.le (l7))⟩⟩
end Go.Proofs.Tryz
/- By program: the conditions of the functions, from their loaded code. -/
namespace Go.Proofs.Tryz
open Go.Eng
open Go.Value renaming int→I,pointer→P,slice→S,agg→A,bool→B,tuple→T
open Go.IntKind renaming i64→J,u64→U,u32→W
set_option maxRecDepth 100000
theorem vc_ref04_Rev (a:Bool) (b:OA) (c d:Nat) (e:Bool) (f:OA) (g i:Nat) (k:Bool) (l:OA) (m n:Nat) (V:View) (R:VR) (h:(Ca V 198 #[A #[B a,S b c d]] fun a2 a3=>∃o,∃p q r,a2=A #[B o,S p q r]/\(Ca a3 198 #[A #[B e,S f g i]] fun a4 a5=>∃s,∃t u w,a4=A #[B s,S t u w]/\(Ca a5 198 #[A #[B k,S l m n]] fun a6 a7=>∃x,∃y z a0,a6=A #[B x,S y z a0]/\(Rt a7 R (A #[B o,S p q r,B s,S t u w,B x,S y z a0])))))):
 Acts prog 220 #[A #[B a,S b c d,B e,S f g i,B k,S l m n]] V R:=
 fd (LF:=LF0) (RF:=[1000010]) [] [] func220 h
end Go.Proofs.Tryz
/- Contracts of the reference's num: Over; ref04's q. -/
namespace Go.Proofs.Tryz
open Go.Eng Go.Big
end Go.Proofs.Tryz
/- Contracts of points and lines of the reference (printed by straight_ref.py). -/
namespace Go.Proofs.Tryz
open Go.Eng Go.Big
end Go.Proofs.Tryz
/- Contracts: points of package api, read, written and compared. -/
namespace Go.Proofs.Tryz
open Go.Eng Go.Big
theorem RA.shape {V:View} {v:Value} {q:Rat} (h:RA V v q):∃b p n c p' n' c',v=.agg #[.bool b,.slice p n c,.slice p' n' c']:=by
 obtain ⟨p,n,c,p',n',c',e,-⟩:=h; exact ⟨_,_,_,_,_,_,_,e⟩
/-- A point of package api in normal form. -/
def RAP (V:View) (v:Value) (x y:Rat):Prop:=∃b p n c p' n' c' d q m e q' m' e',v=.agg #[.bool b,.slice p n c,.slice p' n' c',.bool d,.slice q m e,.slice q' m' e'] /\
 RA V (.agg #[.bool b,.slice p n c,.slice p' n' c']) x/\RA V (.agg #[.bool d,.slice q m e,.slice q' m' e']) y
theorem RAP.le {V V':View} {v:Value} {x y:Rat} (h:RAP V v x y) (l:V.Le V'):RAP V' v x y:=by
 obtain ⟨b,p,n,c,p',n',c',d,q,m,e,q',m',e',rfl,h1,h2⟩:=h
 exact ⟨_,_,_,_,_,_,_,_,_,_,_,_,_,_,rfl,h1.le l,h2.le l⟩
end Go.Proofs.Tryz
/- Plain laws: the line in normal form. -/
namespace Go.Proofs.Tryz
open Go.Eng Go.Big
end Go.Proofs.Tryz
/- Plain laws: the line through two points: program and reference agree. -/
namespace Go.Proofs.Tryz
open Go.Eng Go.Big
end Go.Proofs.Tryz
/- By program: the conditions of the functions, from their loaded code. -/
namespace Go.Proofs.Tryz
open Go.Eng
set_option maxRecDepth 100000
end Go.Proofs.Tryz
/- Contracts: num.Part; the tape's Q and Point. -/
namespace Go.Proofs.Tryz
open Go.Eng Go.Big
end Go.Proofs.Tryz
/- By program: the conditions of the functions, from their loaded code. -/
namespace Go.Proofs.Tryz
open Go.Eng
set_option maxRecDepth 100000
end Go.Proofs.Tryz
/- Contracts: the reference's Side and Rev; the program's interval: Neg. -/
namespace Go.Proofs.Tryz
open Go.Eng Go.Big
theorem c_ref04_Rev {V:View} {l:Value} {a b c:Int} (hl:RL V l a b c):Acts prog 220 #[l] V fun r V'=>RL V' r (-a) (-b) (-c):=by
 obtain ⟨a0,a1,a2,a3,a4,a5,a6,a7,a8,rfl,h1,h2,h3⟩:=hl
 refine vc_ref04_Rev _ a0 a1 a2 _ a3 a4 a5 _ a6 a7 a8 V _ fun V1 l1=>(c_num_Minus a (h1.le l1)).mono ?_
 rintro r V2 l2 ⟨p1,n1,c1,rfl,g1⟩
 refine ⟨_,_,_,_,rfl,fun V3 l3=>(c_num_Minus b (h2.le (l1.trans (l2.trans l3)))).mono ?_⟩
 rintro r V4 l4 ⟨p2,n2,c2,rfl,g2⟩
 refine ⟨_,_,_,_,rfl,fun V5 l5=>(c_num_Minus c (h3.le (l1.trans (l2.trans (l3.trans (l4.trans l5)))))).mono ?_⟩
 rintro r V6 l6 ⟨p3,n3,c3,rfl,g3⟩
 exact ⟨_,_,_,_,rfl,fun V7 l7=>⟨_,_,_,_,_,_,_,_,_,rfl,g1.le (l3.trans (l4.trans (l5.trans (l6.trans l7)))),g2.le (l5.trans (l6.trans l7)),g3.le l7⟩⟩
end Go.Proofs.Tryz
/- Intervals and fragments: how they lie in memory; the values at a line. -/
namespace Go.Eng
open Go.Big
theorem RR.zero (V:View):RR V (.agg #[.int .i64 0,.int .i64 0,.pointer none]) 0:=.inl ⟨rfl,by unfold Wd; decide⟩
end Go.Eng
namespace Go.Proofs.Tryz
open Go.Eng Go.Big
/-- A span: its ends, and whether they are missing. -/
structure Sp where
 lo:Rat
 hi:Rat
 a:Bool
 b:Bool
/-- An end that is missing is 0. -/
def Sp.can (s:Sp):Prop:=(s.a=true->s.lo=0)/\(s.b=true->s.hi=0)
def Sp.sz (k:Nat) (s:Sp):Prop:=Sz k s.lo/\Sz k s.hi
def Sp.zero:Sp:=⟨0,0,false,false⟩
def SzL (k:Nat) (l:L3):Prop:=Sz k (l.1:Rat)/\Sz k (l.2.1:Rat)/\Sz k (l.2.2:Rat)
/-- An interval of package geo. -/
def RIv (V:View) (v:Value) (s:Sp):Prop:=∃(x1 x2:Int) (p:OA) (y1 y2:Int) (q:OA),v=.agg #[.int .i64 x1,.int .i64 x2,.pointer p,.int .i64 y1,.int .i64 y2,.pointer q,.bool s.a,.bool s.b] /\
 RR V (.agg #[.int .i64 x1,.int .i64 x2,.pointer p]) s.lo/\RR V (.agg #[.int .i64 y1,.int .i64 y2,.pointer q]) s.hi
theorem RIv.le {V V':View} {v:Value} {s:Sp} (h:RIv V v s) (l:V.Le V'):RIv V' v s:=by
 obtain ⟨x1,x2,p,y1,y2,q,e,h1,h2⟩:=h
 exact ⟨x1,x2,p,y1,y2,q,e,h1.le l,h2.le l⟩
/-- A line of package geo with integer coefficients. -/
def RLi (V:View) (v:Value) (l:L3):Prop:=RLn V v (l.1:Rat) (l.2.1:Rat) (l.2.2:Rat)
theorem RLi.le {V V':View} {v:Value} {l:L3} (h:RLi V v l) (e:V.Le V'):RLi V' v l:=RLn.le h e
/-- A fragment of package geo. -/
def RFr (V:View) (v:Value) (l:L3) (s:Sp):Prop:=∃(x1 x2:Int) (p:OA) (y1 y2:Int) (q:OA) (z1 z2:Int) (r:OA) (u1 u2:Int) (t:OA) (w1 w2:Int) (o:OA),
 v=.agg #[.int .i64 x1,.int .i64 x2,.pointer p,.int .i64 y1,.int .i64 y2,.pointer q,.int .i64 z1,.int .i64 z2,.pointer r,.int .i64 u1,.int .i64 u2,.pointer t,.int .i64 w1,.int .i64 w2,.pointer o,.bool s.a,.bool s.b] /\
 RLi V (.agg #[.int .i64 x1,.int .i64 x2,.pointer p,.int .i64 y1,.int .i64 y2,.pointer q,.int .i64 z1,.int .i64 z2,.pointer r]) l /\
 RIv V (.agg #[.int .i64 u1,.int .i64 u2,.pointer t,.int .i64 w1,.int .i64 w2,.pointer o,.bool s.a,.bool s.b]) s
theorem RFr.le {V V':View} {v:Value} {l:L3} {s:Sp} (h:RFr V v l s) (e:V.Le V'):RFr V' v l s:=by
 obtain ⟨x1,x2,p,y1,y2,q,z1,z2,r,u1,u2,t,w1,w2,o,rfl,h1,h2⟩:=h
 exact ⟨x1,x2,p,y1,y2,q,z1,z2,r,u1,u2,t,w1,w2,o,rfl,h1.le e,h2.le e⟩
/-- A number of package api in any form. -/
def RRw (V:View) (v:Value) (b:Bool) (xs ys:List Nat):Prop:=∃p n c p' n' c',v=.agg #[.bool b,.slice p n c,.slice p' n' c']/\RD V p n c xs/\RD V p' n' c' ys
theorem RRw.le {V V':View} {v:Value} {b:Bool} {xs ys:List Nat} (h:RRw V v b xs ys) (l:V.Le V'):RRw V' v b xs ys:=by
 obtain ⟨p,n,c,p',n',c',e,h1,h2⟩:=h; exact ⟨p,n,c,p',n',c',e,h1.le l,h2.le l⟩
theorem RRw.nil {V:View}:RRw V (.agg #[.bool false,.slice none 0 0,.slice none 0 0]) false [] []:=⟨_,_,_,_,_,_,rfl,RD.nil,RD.nil⟩
/-- An end of a span of package api. -/
def RE (V:View) (v:Value) (q:Rat) (no:Bool):Prop:=(no=true->RRw V v false [] [])/\(no=false->RA V v q)
theorem RE.le {V V':View} {v:Value} {q:Rat} {no:Bool} (h:RE V v q no) (l:V.Le V'):RE V' v q no:=⟨fun e=>(h.1 e).le l,fun e=>(h.2 e).le l⟩
theorem RE.shape {V:View} {v:Value} {q:Rat} {no:Bool} (h:RE V v q no):∃b p n c p' n' c',v=.agg #[.bool b,.slice p n c,.slice p' n' c']:=by
 cases no with
 | true=>obtain ⟨_,_,_,_,_,_,e,-⟩:=h.1 rfl; exact ⟨_,_,_,_,_,_,_,e⟩
 | false=>exact (h.2 rfl).shape
/-- A span of package api. -/
def RSp (V:View) (v:Value) (s:Sp):Prop:=∃b p n c p' n' c' d q m e q' m' e',v=.agg #[.bool b,.slice p n c,.slice p' n' c',.bool d,.slice q m e,.slice q' m' e',.bool s.a,.bool s.b] /\
 RE V (.agg #[.bool b,.slice p n c,.slice p' n' c']) s.lo s.a/\RE V (.agg #[.bool d,.slice q m e,.slice q' m' e']) s.hi s.b
theorem RSp.le {V V':View} {v:Value} {s:Sp} (h:RSp V v s) (l:V.Le V'):RSp V' v s:=by
 obtain ⟨b,p,n,c,p',n',c',d,q,m,e,q',m',e',rfl,h1,h2⟩:=h
 exact ⟨_,_,_,_,_,_,_,_,_,_,_,_,_,_,rfl,h1.le l,h2.le l⟩
/-- A fragment of package api. -/
def RFa (V:View) (v:Value) (l:L3) (s:Sp):Prop:=∃b1 p1 n1 c1 b2 p2 n2 c2 b3 p3 n3 c3 b p n c p' n' c' d q m e q' m' e',
 v=.agg #[.bool b1,.slice p1 n1 c1,.bool b2,.slice p2 n2 c2,.bool b3,.slice p3 n3 c3,.bool b,.slice p n c,.slice p' n' c',.bool d,.slice q m e,.slice q' m' e',.bool s.a,.bool s.b] /\
 RL V (.agg #[.bool b1,.slice p1 n1 c1,.bool b2,.slice p2 n2 c2,.bool b3,.slice p3 n3 c3]) l.1 l.2.1 l.2.2/\RSp V (.agg #[.bool b,.slice p n c,.slice p' n' c',.bool d,.slice q m e,.slice q' m' e',.bool s.a,.bool s.b]) s
theorem RFa.le {V V':View} {v:Value} {l:L3} {s:Sp} (h:RFa V v l s) (e:V.Le V'):RFa V' v l s:=by
 obtain ⟨b1,p1,n1,c1,b2,p2,n2,c2,b3,p3,n3,c3,b,p,n,c,p',n',c',d,q,m,f,q',m',f',rfl,h1,h2⟩:=h
 exact ⟨_,_,_,_,_,_,_,_,_,_,_,_,_,_,_,_,_,_,_,_,_,_,_,_,_,_,rfl,h1.le e,h2.le e⟩
/-- A span of the reference. -/
def RSs (V:View) (v:Value) (s:Sp):Prop:=∃b p n c p' n' c' d q m e q' m' e',v=.agg #[.bool b,.slice p n c,.slice p' n' c',.bool d,.slice q m e,.slice q' m' e',.bool s.a,.bool s.b] /\
 RQ V (.agg #[.bool b,.slice p n c,.slice p' n' c']) s.lo/\RQ V (.agg #[.bool d,.slice q m e,.slice q' m' e']) s.hi
theorem RSs.le {V V':View} {v:Value} {s:Sp} (h:RSs V v s) (l:V.Le V'):RSs V' v s:=by
 obtain ⟨b,p,n,c,p',n',c',d,q,m,e,q',m',e',rfl,h1,h2⟩:=h
 exact ⟨_,_,_,_,_,_,_,_,_,_,_,_,_,_,rfl,h1.le l,h2.le l⟩
/-- A fragment of the reference. -/
def RF (V:View) (v:Value) (l:L3) (s:Sp):Prop:=∃b1 p1 n1 c1 b2 p2 n2 c2 b3 p3 n3 c3 b p n c p' n' c' d q m e q' m' e',
 v=.agg #[.bool b1,.slice p1 n1 c1,.bool b2,.slice p2 n2 c2,.bool b3,.slice p3 n3 c3,.bool b,.slice p n c,.slice p' n' c',.bool d,.slice q m e,.slice q' m' e',.bool s.a,.bool s.b] /\
 RL V (.agg #[.bool b1,.slice p1 n1 c1,.bool b2,.slice p2 n2 c2,.bool b3,.slice p3 n3 c3]) l.1 l.2.1 l.2.2/\RSs V (.agg #[.bool b,.slice p n c,.slice p' n' c',.bool d,.slice q m e,.slice q' m' e',.bool s.a,.bool s.b]) s
theorem RF.le {V V':View} {v:Value} {l:L3} {s:Sp} (h:RF V v l s) (e:V.Le V'):RF V' v l s:=by
 obtain ⟨b1,p1,n1,c1,b2,p2,n2,c2,b3,p3,n3,c3,b,p,n,c,p',n',c',d,q,m,f,q',m',f',rfl,h1,h2⟩:=h
 exact ⟨_,_,_,_,_,_,_,_,_,_,_,_,_,_,_,_,_,_,_,_,_,_,_,_,_,_,rfl,h1.le e,h2.le e⟩
/-! the values at a line -/
def revL (l:L3):L3:=(-l.1,-l.2.1,-l.2.2)
def Sp.neg (s:Sp):Sp:=⟨if s.b then 0 else -s.hi,if s.a then 0 else -s.lo,s.b,s.a⟩
def Sp.emp (s:Sp):Bool:=!s.a && !s.b && decide (cmpQ s.lo s.hi ≥ 0)
theorem k_Reverse {V:View} {l:Value} {L:L3} (hl:RLi V l L) {k:Nat} (sl:SzL k L) (hk:1 * k + 1 < 274877906944) :
  Acts prog 211 #[l] V fun r V'=>RLi V' r (revL L):=by
 refine (c_geo_Ln_Reverse hl sl.1 sl.2.1 sl.2.2 hk).mono ?_
 rintro r V2 l2 g
 unfold RLi revL
 simpa using g
theorem SzL.rev {k:Nat} {L:L3} (h:SzL k L):SzL k (revL L):=by
 unfold SzL revL
 simp only [Rat.intCast_neg]
 exact ⟨h.1.neg,h.2.1.neg,h.2.2.neg⟩
/-! the same for the reference -/
end Go.Proofs.Tryz
/- Contracts: geo.scaled, Make, Through, Segment. -/
namespace Go.Proofs.Tryz
open Go.Eng Go.Big
/-- Three numbers in a row; those ahead of i are scaled by f. -/
structure Scl (V:View) (vs:List Value) (i:Int) (f a b c:Rat):Prop where
 h0:0<=i
 h3:i<=3
 row:∃(x1 x2:Int) (p:OA) (y1 y2:Int) (q:OA) (z1 z2:Int) (r:OA),vs=[.int .i64 x1,.int .i64 x2,.pointer p,.int .i64 y1,.int .i64 y2,.pointer q,.int .i64 z1,.int .i64 z2,.pointer r] /\
  RR V (.agg #[.int .i64 x1,.int .i64 x2,.pointer p]) (if 0 < i then a * f else a)/\RR V (.agg #[.int .i64 y1,.int .i64 y2,.pointer q]) (if 1 < i then b * f else b)/\RR V (.agg #[.int .i64 z1,.int .i64 z2,.pointer r]) (if 2 < i then c * f else c)
theorem Scl.le {V V':View} {vs:List Value} {i:Int} {f a b c:Rat} (h:Scl V vs i f a b c) (l:V.Le V'):Scl V' vs i f a b c:=by
 obtain ⟨h0,h3,x1,x2,p,y1,y2,q,z1,z2,r,e,g1,g2,g3⟩:=h
 exact ⟨h0,h3,x1,x2,p,y1,y2,q,z1,z2,r,e,g1.le l,g2.le l,g3.le l⟩
end Go.Proofs.Tryz
/- Contracts: spans and fragments of package api, read and written by package geo. -/
namespace Go.Proofs.Tryz
open Go.Eng Go.Big
def rawQ (b:Bool) (xs ys:List Nat):Rat:=mkRat (ival b xs) (val ys)
def nrmQ (b:Bool) (xs ys:List Nat):Bool:=NrmI b xs && decide (digs (val ys)=ys) && !decide (ys=[]) && decide (Nat.gcd (val xs) (val ys)=1)
def zerQ (b:Bool) (xs ys:List Nat):Bool:=!b && decide (xs=[]) && decide (ys=[])
def endQ (b:Bool) (xs ys:List Nat) (no:Bool):Rat:=if no then 0 else rawQ b xs ys
def endOk (b:Bool) (xs ys:List Nat) (no:Bool):Bool:=if no then zerQ b xs ys else nrmQ b xs ys
/-- A span of package api in any form. -/
def RSw (V:View) (v:Value) (b1:Bool) (xs1 ys1:List Nat) (b2:Bool) (xs2 ys2:List Nat) (na nb:Bool):Prop:=∃p n c p' n' c' q m e q' m' e',v=.agg #[.bool b1,.slice p n c,.slice p' n' c',.bool b2,.slice q m e,.slice q' m' e',.bool na,.bool nb] /\
 RRw V (.agg #[.bool b1,.slice p n c,.slice p' n' c']) b1 xs1 ys1/\RRw V (.agg #[.bool b2,.slice q m e,.slice q' m' e']) b2 xs2 ys2
theorem RSw.le {V V':View} {v:Value} {b1:Bool} {xs1 ys1:List Nat} {b2:Bool} {xs2 ys2:List Nat} {na nb:Bool} (h:RSw V v b1 xs1 ys1 b2 xs2 ys2 na nb) (l:V.Le V'):RSw V' v b1 xs1 ys1 b2 xs2 ys2 na nb:=by
 obtain ⟨p,n,c,p',n',c',q,m,e,q',m',e',rfl,h1,h2⟩:=h
 exact ⟨_,_,_,_,_,_,_,_,_,_,_,_,rfl,h1.le l,h2.le l⟩
def spW (b1:Bool) (xs1 ys1:List Nat) (b2:Bool) (xs2 ys2:List Nat) (na nb:Bool):Sp:=⟨endQ b1 xs1 ys1 na,endQ b2 xs2 ys2 nb,na,nb⟩
def okW (b1:Bool) (xs1 ys1:List Nat) (b2:Bool) (xs2 ys2:List Nat) (na nb:Bool):Bool:=endOk b1 xs1 ys1 na && endOk b2 xs2 ys2 nb && !(spW b1 xs1 ys1 b2 xs2 ys2 na nb).emp
theorem RLi.api {V:View} {r:Value} {l:L3} (h:RL V r ((l.1:Rat)).num ((l.2.1:Rat)).num ((l.2.2:Rat)).num):RL V r l.1 l.2.1 l.2.2:=by
 simpa [Rat.num_intCast] using h
end Go.Proofs.Tryz
/- Plain laws: the part of a span on one side of a line and its sample; the only common point of two fragments is symmetric. -/
namespace Go.Proofs.Tryz
open Go.Eng Go.Big
/-! the only common point -/
end Go.Proofs.Tryz
/- Contracts: the reference's spans and fragments: written, compared, a number's class, Has. -/
namespace Go.Proofs.Tryz
open Go.Eng Go.Big
theorem SzL.digs {k:Nat} {l:L3} (h:SzL k l) (hk:k<=1099511627776):(digs l.1.natAbs).length<=1099511627776/\(digs l.2.1.natAbs).length<=1099511627776/\(digs l.2.2.natAbs).length<=1099511627776:=by
 have d1:=digs_len_bits (show l.1.natAbs < 2 ^ k from h.1.1)
 have d2:=digs_len_bits (show l.2.1.natAbs < 2 ^ k from h.2.1.1)
 have d3:=digs_len_bits (show l.2.2.natAbs < 2 ^ k from h.2.2.1)
 exact ⟨by omega,by omega,by omega⟩
/-- A fragment that lies at an address; a list of fragments. -/
def FAt (V:View) (ad:Addr) (l:L3) (s:Sp):Prop:=∃xs:List Value,RFa V (.agg xs.toArray) l s/\∀i x,xs[i]?=some x->V.at (ad.add i) x
theorem FAt.le {V V':View} {ad:Addr} {l:L3} {s:Sp} (h:FAt V ad l s) (e:V.Le V'):FAt V' ad l s:=by
 obtain ⟨xs,h1,h2⟩:=h; exact ⟨xs,h1.le e,fun i x hx=>e.at (h2 i x hx)⟩
structure RFas (V:View) (p:OA) (n:Nat) (fs:List (L3 × Sp)):Prop where
 len:n=fs.length
 at_:∀(i:Nat) (h:i < fs.length),∃ad,addrAdd p (i * 14)=some ad/\FAt V ad fs[i].1 fs[i].2
theorem RFas.le {V V':View} {p:OA} {n:Nat} {fs:List (L3 × Sp)} (h:RFas V p n fs) (e:V.Le V'):RFas V' p n fs:=⟨h.len,fun i hi=>by obtain ⟨ad,h1,h2⟩:=h.at_ i hi; exact ⟨ad,h1,h2.le e⟩⟩
theorem isSome_addr {p:OA} {j:Nat} {ad:Addr} (h:addrAdd p j=some ad):p.isSome=true:=by
 cases p with
 | none=>cases h
 | some a=>rfl
/-- A span that lies at an address; a list of spans. -/
def SAt (V:View) (ad:Addr) (s:Sp):Prop:=∃xs:List Value,RSs V (.agg xs.toArray) s/\∀i x,xs[i]?=some x->V.at (ad.add i) x
theorem SAt.le {V V':View} {ad:Addr} {s:Sp} (h:SAt V ad s) (e:V.Le V'):SAt V' ad s:=by
 obtain ⟨xs,h1,h2⟩:=h; exact ⟨xs,h1.le e,fun i x hx=>e.at (h2 i x hx)⟩
structure RSl (V:View) (p:OA) (n:Nat) (ss:List Sp):Prop where
 len:n=ss.length
 at_:∀(i:Nat) (h:i < ss.length),∃ad,addrAdd p (i * 8)=some ad/\SAt V ad ss[i]
theorem RSl.le {V V':View} {p:OA} {n:Nat} {ss:List Sp} (h:RSl V p n ss) (e:V.Le V'):RSl V' p n ss:=⟨h.len,fun i hi=>by obtain ⟨ad,h1,h2⟩:=h.at_ i hi; exact ⟨ad,h1,h2.le e⟩⟩
def Sp.la (s:Sp) (t:Rat):Int:=if s.a then 1 else cmpQ t s.lo
def Sp.lb (s:Sp) (t:Rat):Int:=if s.b then -1 else cmpQ t s.hi
end Go.Proofs.Tryz
/- Contracts of package fragment; points made of ints. -/
namespace Go.Proofs.Tryz
open Go.Eng Go.Big
theorem FrSh.ex {V:View} {v:Value} {l:L3} {s:Sp} (h:RFr V v l s):∃(x1 x2:Int) (p:OA) (y1 y2:Int) (q:OA) (z1 z2:Int) (r:OA) (u1 u2:Int) (t:OA) (w1 w2:Int) (o:OA),
 v=.agg #[.int .i64 x1,.int .i64 x2,.pointer p,.int .i64 y1,.int .i64 y2,.pointer q,.int .i64 z1,.int .i64 z2,.pointer r,.int .i64 u1,.int .i64 u2,.pointer t,.int .i64 w1,.int .i64 w2,.pointer o,.bool s.a,.bool s.b]:=by
 obtain ⟨_,_,_,_,_,_,_,_,_,_,_,_,_,_,_,e,-⟩:=h; exact ⟨_,_,_,_,_,_,_,_,_,_,_,_,_,_,_,e⟩
end Go.Proofs.Tryz
/- By program: the conditions of the functions, from their loaded code. -/
namespace Go.Proofs.Tryz
open Go.Eng
set_option maxRecDepth 100000
end Go.Proofs.Tryz
/- Contracts: the parts of a fragment on the sides of a line; the only common point of two fragments. -/
namespace Go.Proofs.Tryz
open Go.Eng Go.Big
/-- A list of fragments of package geo. -/
structure RFrs (V:View) (p:OA) (n:Nat) (fs:List (L3 × Sp)):Prop where
 len:n=fs.length
 at_:∀(i:Nat) (h:i < fs.length),∃ad,addrAdd p (i * 17)=some ad/\∃xs:List Value,RFr V (.agg xs.toArray) fs[i].1 fs[i].2/\∀j x,xs[j]?=some x->V.at (ad.add j) x
theorem RFrs.le {V V':View} {p:OA} {n:Nat} {fs:List (L3 × Sp)} (h:RFrs V p n fs) (e:V.Le V'):RFrs V' p n fs:=⟨h.len,fun i hi=>by obtain ⟨ad,h1,xs,h2,h3⟩:=h.at_ i hi; exact ⟨ad,h1,xs,h2.le e,fun j x hx=>e.at (h3 j x hx)⟩⟩
theorem RFrs.nil {V:View}:RFrs V none 0 []:=⟨rfl,fun i hi=>by simp at hi⟩
theorem RFrs.one {V:View} {bk:Nat} {xs:List Value} {ty:TypeId} {l:L3} {s:Sp} (hb:V.blk bk (.cells xs.toArray ty (0,0))) (hf:RFr V (.agg xs.toArray) l s):RFrs V (some ⟨bk,0,none⟩) 1 [(l,s)]:=by
 refine ⟨rfl,fun i hi=>?_⟩
 obtain rfl:i=0:=by simpa using hi
 refine ⟨⟨bk,0,none⟩,by simp [addrAdd,add_zero'],_,hf,fun j x hx=>?_⟩
 rw [add_zero']
 exact blk_at hb hx
end Go.Proofs.Tryz
/- Contracts: Write of fragments; fragment.Split; the only common point: onto, Meet. -/
namespace Go.Proofs.Tryz
open Go.Eng Go.Big
end Go.Proofs.Tryz
/- Contracts: the tape's spans and fragments. -/
namespace Go.Proofs.Tryz
open Go.Eng Go.Big
end Go.Proofs.Tryz
/- Fragments taken apart; equal zero points. -/
namespace Go.Proofs.Tryz
open Go.Eng Go.Big
end Go.Proofs.Tryz
/- By program: the conditions of the functions, from their loaded code. -/
namespace Go.Proofs.Tryz
open Go.Eng
set_option maxRecDepth 100000
end Go.Proofs.Tryz
/- Contracts: the reference reads numbers, points, lines, spans, fragments of package api in any form. -/
namespace Go.Proofs.Tryz
open Go.Eng Go.Big
/-- A line of package api in any form. -/
def RLw (V:View) (v:Value) (b1:Bool) (xs:List Nat) (b2:Bool) (ys:List Nat) (b3:Bool) (zs:List Nat):Prop:=∃p n c q m e s i j,v=.agg #[.bool b1,.slice p n c,.bool b2,.slice q m e,.bool b3,.slice s i j]/\RD V p n c xs/\RD V q m e ys/\RD V s i j zs
theorem RLw.le {V V':View} {v:Value} {b1:Bool} {xs:List Nat} {b2:Bool} {ys:List Nat} {b3:Bool} {zs:List Nat} (h:RLw V v b1 xs b2 ys b3 zs) (l:V.Le V'):RLw V' v b1 xs b2 ys b3 zs:=by
 obtain ⟨p,n,c,q,m,e,s,i,j,rfl,h1,h2,h3⟩:=h
 exact ⟨_,_,_,_,_,_,_,_,_,rfl,h1.le l,h2.le l,h3.le l⟩
def lnW (b1:Bool) (xs:List Nat) (b2:Bool) (ys:List Nat) (b3:Bool) (zs:List Nat):L3:=(ival b1 xs,ival b2 ys,ival b3 zs)
/-- A fragment of package api in any form. -/
structure FW where
 b1:Bool
 xs:List Nat
 b2:Bool
 ys:List Nat
 b3:Bool
 zs:List Nat
 c1:Bool
 us:List Nat
 vs:List Nat
 c2:Bool
 ws:List Nat
 ts:List Nat
 na:Bool
 nb:Bool
def FW.ln (f:FW):L3:=lnW f.b1 f.xs f.b2 f.ys f.b3 f.zs
def FW.sp (f:FW):Sp:=spW f.c1 f.us f.vs f.c2 f.ws f.ts f.na f.nb
def FW.ok (f:FW):Bool:=okLn f.b1 f.xs f.b2 f.ys f.b3 f.zs && okW f.c1 f.us f.vs f.c2 f.ws f.ts f.na f.nb
structure FW.short (f:FW):Prop where
 x:f.xs.length<=1000000
 y:f.ys.length<=1000000
 z:f.zs.length<=1000000
 u:f.us.length<=1000000
 v:f.vs.length<=1000000
 w:f.ws.length<=1000000
 t:f.ts.length<=1000000
def RFw (V:View) (v:Value) (f:FW):Prop:=∃p1 n1 d1 p2 n2 d2 p3 n3 d3 p n c p' n' c' q m e q' m' e',
 v=.agg #[.bool f.b1,.slice p1 n1 d1,.bool f.b2,.slice p2 n2 d2,.bool f.b3,.slice p3 n3 d3,.bool f.c1,.slice p n c,.slice p' n' c',.bool f.c2,.slice q m e,.slice q' m' e',.bool f.na,.bool f.nb] /\
 RLw V (.agg #[.bool f.b1,.slice p1 n1 d1,.bool f.b2,.slice p2 n2 d2,.bool f.b3,.slice p3 n3 d3]) f.b1 f.xs f.b2 f.ys f.b3 f.zs /\
 RSw V (.agg #[.bool f.c1,.slice p n c,.slice p' n' c',.bool f.c2,.slice q m e,.slice q' m' e',.bool f.na,.bool f.nb]) f.c1 f.us f.vs f.c2 f.ws f.ts f.na f.nb
theorem RFw.le {V V':View} {v:Value} {f:FW} (h:RFw V v f) (l:V.Le V'):RFw V' v f:=by
 obtain ⟨p1,n1,d1,p2,n2,d2,p3,n3,d3,p,n,c,p',n',c',q,m,e,q',m',e',rfl,h1,h2⟩:=h
 exact ⟨_,_,_,_,_,_,_,_,_,_,_,_,_,_,_,_,_,_,_,_,_,rfl,h1.le l,h2.le l⟩
end Go.Proofs.Tryz
/- By program: the conditions of the functions, from their loaded code. -/
namespace Go.Proofs.Tryz
open Go.Eng
open Go.Value renaming int→I,pointer→P,slice→S,agg→A,bool→B,tuple→T
open Go.IntKind renaming i64→J,u64→U,u32→W
set_option maxRecDepth 100000
theorem vc_ref04_Cmp (c:Bool) (d:OA) (e f:Nat) (g:Bool) (i:OA) (k l:Nat) (m:Bool) (n:OA) (o p:Nat) (q:Bool) (r:OA) (s t:Nat) (u:Bool) (w:OA) (x y:Nat) (z:Bool) (a0:OA) (a1 a2:Nat) (V:View) (R:VR) (h:(Ca V 221 #[A #[B c,S d e f],A #[B q,S r s t]] fun a9 a3=>∃a,a9=I J a/\(((a != (0:Int))=true->(Rt a3 R (I J a)))/\((a != (0:Int))=false->(Ca a3 221 #[A #[B g,S i k l],A #[B u,S w x y]] fun b0 a5=>∃b,b0=I J b/\(((b != (0:Int))=true->(Rt a5 R (I J b)))/\((b != (0:Int))=false->(Ca a5 221 #[A #[B m,S n o p],A #[B z,S a0 a1 a2]] fun b1 b2=>∃a7,b1=I J a7/\(Rt b2 R (I J a7)))))))))):
 Acts prog 174 #[A #[B c,S d e f,B g,S i k l,B m,S n o p],A #[B q,S r s t,B u,S w x y,B z,S a0 a1 a2]] V R:=
 fd (LF:=LF0) (RF:=[1000010]) [] [] func174 h
end Go.Proofs.Tryz
/- Contracts of the reference: Compare, Cmp, Collinear, the common point of two lines, onto (printed by mkma.py). -/
namespace Go.Proofs.Tryz
open Go.Eng Go.Big
theorem c_num_Compare {V:View} (z w:Int) {p q:OA} {n c m e:Nat} (ha:RD V p n c (digs z.natAbs)) (hb:RD V q m e (digs w.natAbs)) (hm:(digs z.natAbs).length<=1099511627776) (hn:(digs w.natAbs).length<=1099511627776) :
  Acts prog 221 #[.agg #[.bool (decide (z < 0)),.slice p n c],.agg #[.bool (decide (w < 0)),.slice q m e]] V fun r V'=>r=.int .i64 (z - w).sign:=by
 refine vc_num_Compare _ p n c _ q m e V _ fun V1 l1=>(c_num_Minus w (hb.le l1)).mono ?_
 rintro r V2 l2 ⟨p1,n1,c1,rfl,g1⟩
 refine ⟨_,_,_,_,rfl,fun V3 l3=>(c_num_Add z (-w) (ha.le (l1.trans (l2.trans l3))) (g1.le l3) hm (by rw [Int.natAbs_neg]; exact hn)).mono ?_⟩
 rintro r V4 l4 ⟨p2,n2,c2,rfl,g2⟩
 refine ⟨_,_,_,_,rfl,fun V5 l5=>(c_num_Sign _ (g2.le l5)).mono ?_⟩
 rintro r V6 l6 rfl
 exact ⟨_,rfl,fun V7 l7=>by rw [Int.sub_eq_add_neg]⟩
def cmpL (l m:L3):Int:=if (l.1 - m.1).sign≠0 then (l.1 - m.1).sign else if (l.2.1 - m.2.1).sign≠0 then (l.2.1 - m.2.1).sign else (l.2.2 - m.2.2).sign
theorem cmpL_eq {l m:L3}:cmpL l m=0↔l=m:=by
 have e:∀{a b:Int},(a - b).sign=0↔a=b:=fun {a b}=>by rw [Int.sign_eq_zero_iff_zero]; omega
 unfold cmpL
 constructor
 ·intro h
  by_cases h1:(l.1 - m.1).sign=0
  ·rw [if_neg (by simpa using h1)] at h
   by_cases h2:(l.2.1 - m.2.1).sign=0
   ·rw [if_neg (by simpa using h2)] at h
    exact Prod.ext (e.1 h1) (Prod.ext (e.1 h2) (e.1 h))
   ·rw [if_pos h2] at h; exact absurd h h2
  ·rw [if_pos h1] at h; exact absurd h h1
 ·rintro rfl
  simp
theorem c_ref04_Cmp {V:View} {v w:Value} {l m:L3} (hl:RL V v l.1 l.2.1 l.2.2) (hm:RL V w m.1 m.2.1 m.2.2) {k:Nat} (sl:SzL k l) (sm:SzL k m) (hk:k<=1099511627776) :
  Acts prog 174 #[v,w] V fun r V'=>r=.int .i64 (cmpL l m):=by
 obtain ⟨d1,d2,d3⟩:=sl.digs hk
 obtain ⟨e1,e2,e3⟩:=sm.digs hk
 obtain ⟨_,_,_,_,_,_,_,_,_,rfl,a1,a2,a3⟩:=hl
 obtain ⟨_,_,_,_,_,_,_,_,_,rfl,b1,b2,b3⟩:=hm
 refine vc_ref04_Cmp _ _ _ _ _ _ _ _ _ _ _ _ _ _ _ _ _ _ _ _ _ _ _ _ V _ fun V1 l1=>(c_num_Compare _ _ (a1.le l1) (b1.le l1) d1 e1).mono ?_
 rintro r V2 l2 rfl
 unfold cmpL
 refine ⟨_,rfl,fun h V3 l3=>?_,fun h V4 l4=>(c_num_Compare _ _ (a2.le (l1.trans (l2.trans l4))) (b2.le (l1.trans (l2.trans l4))) d2 e2).mono ?_⟩
 ·rw [bne_iff_ne] at h
  rw [if_pos h]
 ·rw [bne_eq_false_iff_eq] at h
  rw [if_neg (by rw [h]; decide)]
  rintro r V5 l5 rfl
  refine ⟨_,rfl,fun h V6 l6=>?_,fun h V7 l7=>(c_num_Compare _ _ (a3.le (l1.trans (l2.trans (l4.trans (l5.trans l7))))) (b3.le (l1.trans (l2.trans (l4.trans (l5.trans l7))))) d3 e3).mono ?_⟩
  ·rw [bne_iff_ne] at h
   rw [if_pos h]
  ·rw [bne_eq_false_iff_eq] at h
   rw [if_neg (by rw [h]; decide)]
   rintro r V8 l8 rfl
   exact ⟨_,rfl,fun V9 l9=>rfl⟩
end Go.Proofs.Tryz
/- Lines (package geo) in a row that is sorted: how they are compared. -/
namespace Go.Proofs.Tryz
open Go.Eng Go.Big
def dCL:L3:=(0,0,0)
def cCL (a b:L3):Int:=cmpL a b
theorem cmpL_lt {a b:L3}:cmpL a b < 0↔(a.1 < b.1 \/ a.1=b.1/\(a.2.1 < b.2.1 \/ a.2.1=b.2.1/\a.2.2 < b.2.2)):=by
 have s:∀{x y:Int},(x < y/\(x - y).sign=-1) \/ (x=y/\(x - y).sign=0) \/ (y < x/\(x - y).sign=1):=by
  intro x y
  rcases Int.lt_trichotomy x y with h | h | h
  ·exact .inl ⟨h,Int.sign_eq_neg_one_of_neg (by omega)⟩
  ·exact .inr (.inl ⟨h,by rw [h,Int.sub_self]; rfl⟩)
  ·exact .inr (.inr ⟨h,Int.sign_eq_one_of_pos (by omega)⟩)
 unfold cmpL
 rcases @s a.1 b.1 with ⟨h1,e1⟩ | ⟨h1,e1⟩ | ⟨h1,e1⟩ <;> rcases @s a.2.1 b.2.1 with ⟨h2,e2⟩ | ⟨h2,e2⟩ | ⟨h2,e2⟩ <;> rcases @s a.2.2 b.2.2 with ⟨h3,e3⟩ | ⟨h3,e3⟩ | ⟨h3,e3⟩ <;> rw [e1,e2,e3] <;> simp <;> omega
theorem ordCL:Ord cCL:=⟨fun a b h=>by unfold cCL at *; rw [cmpL_lt] at *; omega,fun a b d h h'=>by unfold cCL at *; rw [cmpL_lt] at *; omega⟩
theorem orI_cmpL {a b:L3}:orI [cmpQ (a.1:Rat) (b.1:Rat),cmpQ (a.2.1:Rat) (b.2.1:Rat),cmpQ (a.2.2:Rat) (b.2.2:Rat)]=cmpL a b:=by
 have e:∀x y:Int,cmpQ (x:Rat) (y:Rat)=(x - y).sign:=fun x y=>by
  unfold cmpQ
  rw [← Rat.intCast_sub,Rat.num_intCast]
 rw [e,e,e]
 unfold cmpL
 generalize (a.1 - b.1).sign=x
 generalize (a.2.1 - b.2.1).sign=y
 generalize (a.2.2 - b.2.2).sign=z
 simp only [orI]
 by_cases h1:x=0 <;> by_cases h2:y=0 <;> by_cases h3:z=0 <;> simp [h1,h2,h3]
/-- A line; its numbers are small. -/
def RCL (V:View) (v:Value) (c:L3):Prop:=RLn V v c.1 c.2.1 c.2.2/\Bd c
theorem RCL.le {V V':View} {v:Value} {c:L3} (h:RCL V v c) (l:V.Le V'):RCL V' v c:=⟨h.1.le l,h.2⟩
theorem RCL.shape {V:View} {v:Value} {c:L3} (h:RCL V v c):∃(x y:Int) (p:OA) (xb yb:Int) (pb:OA) (xc yc:Int) (pc:OA),v=.agg #[.int .i64 x,.int .i64 y,.pointer p,.int .i64 xb,.int .i64 yb,.pointer pb,.int .i64 xc,.int .i64 yc,.pointer pc]:=by
 obtain ⟨⟨x1,x2,p,y1,y2,q,z1,z2,r,e,-⟩,-⟩:=h; exact ⟨_,_,_,_,_,_,_,_,_,e⟩
theorem c_chg_cmpL {V:View} {v w:Value} {a b:L3} (h:RCL V v a) (h':RCL V w b):Acts prog 164 #[v,w] V fun r V'=>r=.int .i64 (cCL a b):=by
 obtain ⟨s1,s2,s3⟩:=h.2.sz
 obtain ⟨t1,t2,t3⟩:=h'.2.sz
 refine (c_geo_Cmp h.1 h'.1 s1 s2 s3 t1 t2 t3 (by omega)).mono ?_
 rintro r V1 l1 rfl
 rw [orI_cmpL]; rfl
def eL (a b:L3):Bool:=decide (a=b)
theorem c_eqvL {V:View} {v w:Value} {a b:L3} (h:RCL V v a) (h':RCL V w b):Acts prog 166 #[v,w] V fun r V'=>r=.bool (eL a b):=by
 obtain ⟨s1,s2,s3⟩:=h.2.sz
 obtain ⟨t1,t2,t3⟩:=h'.2.sz
 refine (c_geo_Equal h.1 h'.1 s1 s2 s3 t1 t2 t3 (by omega)).mono ?_
 rintro r V1 l1 rfl
 unfold eL
 congr 1
 refine decide_eq_decide.2 ⟨fun ⟨e1,e2,e3⟩=>Prod.ext (Rat.intCast_inj.1 e1) (Prod.ext (Rat.intCast_inj.1 e2) (Rat.intCast_inj.1 e3)),fun e=>by rw [e]; exact ⟨rfl,rfl,rfl⟩⟩
end Go.Proofs.Tryz
/- Plain: quicksort's state between two partitions. -/
namespace Go.Proofs.Tryz
open Go.Big
section
variable {α:Type} {c:α->α->Int} {d:α}
structure PQ (c:α->α->Int) (d:α) (l0 l:List α) (a0 b0 a b:Nat):Prop where
 seg:Seg d l0 l a0 b0
 ha:a0<=a
 hab:a<=b
 hb:b<=b0
 lo:Asc c d l a0 a
 hi:Asc c d l b b0
 s1:Sep c d l a0 a b0
 s2:Sep c d l a0 b b0
 pre:0 < a->∀k,a<=k->k < b->¬ c (l.getD k d) (l.getD (a - 1) d) < 0
variable {l0 l m:List α} {a0 b0 a b mid:Nat}
theorem PQ.start {l:List α} (h:a<=b) (hp:0 < a->∀k,a<=k->k < b->¬ c (l.getD k d) (l.getD (a - 1) d) < 0):PQ c d l l a b a b:=
 ⟨.refl _ _ _,Nat.le_refl _,h,Nat.le_refl _,.short (by omega),.short (by omega),fun p q h1 h2=>by omega,fun p q h1 h2 h3 h4=>by omega,hp⟩
theorem PQ.change (h:PQ c d l0 l a0 b0 a b) (hs:Seg d l m a b):PQ c d l0 m a0 b0 a b:=
 ⟨h.seg.trans (hs.wide h.ha h.hb),h.ha,h.hab,h.hb,hs.asc h.lo (.inl (Nat.le_refl _)),hs.asc h.hi (.inr (Nat.le_refl _)),hs.sep h.s1 (.inr (.inl ⟨Nat.le_refl _,h.hb⟩)),hs.sep h.s2 (.inl ⟨h.ha,Nat.le_refl _⟩),fun h0 k h1 h2=>by
  obtain ⟨k',h3,h4,e⟩:=hs.mem k h1 h2
  rw [e,hs.out (a - 1) (by omega)]
  exact h.pre h0 k' h3 h4⟩
theorem PQ.fin (h:PQ c d l0 l a0 b0 a b) (hs:Seg d l m a b) (ha:Asc c d m a b):Seg d l0 m a0 b0/\Asc c d m a0 b0:=by
 have h':=h.change hs
 refine ⟨h'.seg,h'.lo.join (ha.join h'.hi fun p q h1 h2 h3 h4=>h'.s2 p q (by have:=h.ha; omega) h2 h3 h4) h'.s1⟩
theorem PQ.left (ho:Ord c) (h:PQ c d l0 l a0 b0 a b) (hm:a<=mid) (hm':mid < b) (h1:∀k,a<=k->k < mid->c (l.getD k d) (l.getD mid d) < 0) (h2:∀k,mid < k->k < b->¬ c (l.getD k d) (l.getD mid d) < 0)
  (hs:Seg d l m a mid) (ha:Asc c d m a mid):PQ c d l0 m a0 b0 (mid + 1) b:=by
 have e0:=h.ha
 have e1:=h.hb
 have em:m.getD mid d=l.getD mid d:=hs.out mid (by omega)
 have below:∀k,a<=k->k < mid->¬ c (m.getD mid d) (m.getD k d) < 0:=fun k g1 g2=>by
  obtain ⟨k',g3,g4,e⟩:=hs.mem k g1 g2
  rw [em,e]; exact ho.asy _ _ (h1 k' g3 g4)
 have t1:=hs.sep h.s1 (.inr (.inl ⟨Nat.le_refl _,by omega⟩))
 have t2:=hs.sep h.s2 (.inl ⟨e0,by omega⟩)
 have up:∀q,mid < q->q < b->¬ c (m.getD q d) (m.getD mid d) < 0:=fun q g1 g2=>by rw [em,hs.out q (by omega)]; exact h2 q g1 g2
 refine ⟨h.seg.trans (hs.wide e0 (by omega)),by omega,by omega,e1,(hs.asc h.lo (.inl (Nat.le_refl _))).join (m:=a) (fun p q g1 g2 g3=>?_) fun p q g1 g2 g3 g4=>t1 p q g1 g2 g3 (by omega),hs.asc h.hi (.inr (by omega)),fun p q g1 g2 g3 g4=>?_,t2,fun _ k g1 g2=>up k (by omega) g2⟩
 ·by_cases e:q=mid
  ·subst e; exact below p g1 g2
  ·exact ha p q g1 g2 (by omega)
 ·by_cases hq:b<=q
  ·exact t2 p q g1 (by omega) hq g4
  ·by_cases hp:p < a
   ·exact t1 p q g1 hp (by omega) g4
   ·have u:=up q (by omega) (by omega)
    by_cases e:p=mid
    ·subst e; exact u
    ·exact ho.tr _ _ _ u (below p (by omega) (by omega))
theorem PQ.right (ho:Ord c) (h:PQ c d l0 l a0 b0 a b) (hm:a<=mid) (hm':mid < b) (h1:∀k,a<=k->k < mid->c (l.getD k d) (l.getD mid d) < 0) (h2:∀k,mid < k->k < b->¬ c (l.getD k d) (l.getD mid d) < 0)
  (hs:Seg d l m (mid + 1) b) (ha:Asc c d m (mid + 1) b):PQ c d l0 m a0 b0 a mid:=by
 have e0:=h.ha
 have e1:=h.hb
 have em:m.getD mid d=l.getD mid d:=hs.out mid (by omega)
 have up:∀q,mid < q->q < b->¬ c (m.getD q d) (m.getD mid d) < 0:=fun q g1 g2=>by
  obtain ⟨k',g3,g4,e⟩:=hs.mem q (by omega) g2
  rw [em,e]; exact h2 k' (by omega) g4
 have below:∀k,a<=k->k < mid->¬ c (m.getD mid d) (m.getD k d) < 0:=fun k g1 g2=>by
  rw [em,hs.out k (by omega)]; exact ho.asy _ _ (h1 k g1 g2)
 have t1:=hs.sep h.s1 (.inr (.inl ⟨by omega,e1⟩))
 have t2:=hs.sep h.s2 (.inl ⟨by omega,Nat.le_refl _⟩)
 have t3:=hs.asc h.hi (.inr (Nat.le_refl _))
 refine ⟨h.seg.trans (hs.wide (by omega) e1),e0,hm,by omega,hs.asc h.lo (.inl (by omega)),fun p q g1 g2 g3=>?_,t1,fun p q g1 g2 g3 g4=>?_,fun h0 k g1 g2=>?_⟩
 ·by_cases hq:q < b
  ·by_cases e:p=mid
   ·subst e; exact up q g2 hq
   ·exact ha p q (by omega) g2 hq
  ·by_cases hp:p < b
   ·exact t2 p q (by omega) hp (by omega) g3
   ·exact t3 p q (by omega) g2 g3
 ·by_cases hq:b<=q
  ·exact t2 p q g1 (by omega) hq g4
  ·by_cases hp:p < a
   ·exact t1 p q g1 hp (by omega) g4
   ·have u:=below p (by omega) g2
    by_cases e:q=mid
    ·subst e; exact u
    ·exact ho.tr _ _ _ (up q (by omega) (by omega)) u
 ·rw [hs.out k (by omega),hs.out (a - 1) (by omega)]; exact h.pre h0 k g1 (by omega)
/-- Where the pivot is no greater than what lies ahead, the elements equal to it go to the front. -/
theorem PQ.equ (ho:Ord c) (h:PQ c d l0 l a0 b0 a b) (h0:0 < a) (hm:a < mid) (hm':mid<=b) {x:α} (hx:¬ c (l.getD (a - 1) d) x < 0) (hs:Seg d l m a b)
  (h1:∀k,a<=k->k < mid->¬ c x (m.getD k d) < 0) (h2:∀k,mid<=k->k < b->c x (m.getD k d) < 0):PQ c d l0 m a0 b0 mid b:=by
 have h':=h.change hs
 have e0:=h.ha
 have e1:=h.hb
 have ex:¬ c (m.getD (a - 1) d) x < 0:=by rw [hs.out (a - 1) (by omega)]; exact hx
 have pr:=h'.pre h0
 refine ⟨h'.seg,by omega,hm',e1,h'.lo.join (m:=a) (fun p q g1 g2 g3=>?_) fun p q g1 g2 g3 g4=>h'.s1 p q g1 g2 g3 (by omega),h'.hi,fun p q g1 g2 g3 g4=>?_,h'.s2,fun _ k g1 g2=>?_⟩
 ·exact ho.tr _ _ _ (pr q (by omega) (by omega)) (ho.tr _ _ _ ex (h1 p g1 (by omega)))
 ·by_cases hq:b<=q
  ·exact h'.s2 p q g1 (by omega) hq g4
  ·by_cases hp:p < a
   ·exact h'.s1 p q g1 hp (by omega) g4
   ·exact ho.tr _ _ _ (ho.asy _ _ (h2 q g3 (by omega))) (h1 p (by omega) g2)
 ·exact ho.tr _ _ _ (ho.asy _ _ (h2 k g1 g2)) (h1 (mid - 1) (by omega) (by omega))
/-- The second half of a heap sort: a heap in front, the greatest behind, in order. -/
structure HQ (c:α->α->Int) (d:α) (l:List α) (f i n:Nat):Prop where
 hp:Hp c d l f 0 i none
 asc:Asc c d l (f + i) (f + n)
 sep:Sep c d l f (f + i) (f + n)
theorem HQ.start {f n:Nat} (h:Hp c d l f 0 n none):HQ c d l f n n:=⟨h,.short (by omega),fun p q h1 h2 h3 h4=>by omega⟩
theorem HQ.step (ho:Ord c) {f k n:Nat} (h:HQ c d l f (k + 1) n) (hk:k + 1<=n) (hl:f + n<=l.length) (hs:Seg d (swp d l f (f + k)) m f (f + k)) (hm:Hp c d m f 0 k none):HQ c d m f k n:=by
 have ha:=fun x=>swp_at (d:=d) (l:=l) (i:=f) (j:=f + k) (k:=x) (by omega) (by omega)
 have out:∀q,f + k < q->m.getD q d=l.getD q d:=fun q hq=>by rw [hs.out q (by omega),ha,if_neg (by omega),if_neg (by omega)]
 have top:m.getD (f + k) d=l.getD f d:=by rw [hs.out (f + k) (by omega),ha,if_pos rfl]
 refine ⟨hm,fun p q g1 g2 g3=>?_,fun p q g1 g2 g3 g4=>?_⟩
 ·rw [out q (by omega)]
  by_cases e:p=f + k
  ·rw [e,top]; exact h.sep f q (Nat.le_refl _) (by omega) (by omega) g3
  ·rw [out p (by omega)]; exact h.asc p q (by omega) g2 g3
 ·have hp:∃j,j < k + 1/\m.getD p d=l.getD (f + j) d:=by
   obtain ⟨p',e1,e2,e⟩:=hs.mem p g1 g2
   rw [e,ha,if_neg (by omega)]
   split
   ·exact ⟨k,by omega,rfl⟩
   ·exact ⟨p' - f,by omega,by rw [show f + (p' - f)=p' by omega]⟩
  obtain ⟨j,hj,e⟩:=hp
  rw [e]
  by_cases eq:q=f + k
  ·rw [eq,top]; exact h.hp.top ho j hj
  ·rw [out q (by omega)]; exact h.sep (f + j) q (by omega) (by omega) (by omega) g4
theorem HQ.fin {f n:Nat} (h:HQ c d l f 0 n):Asc c d l f (f + n):=by have:=h.asc; simpa using this
/-- A partition in progress: the pivot at a, the elements with P ahead of i, the others behind j. -/
structure PT (P:α->Prop) (d:α) (l:List α) (a b i j:Nat):Prop where
 hi:a < i
 hij:i<=j + 1
 hj:j < b
 lo:∀k,a < k->k < i->P (l.getD k d)
 up:∀k,j < k->k < b->¬ P (l.getD k d)
variable {P:α->Prop} {i j:Nat}
theorem PT.start (h:a + 1 < b):PT P d l a b (a + 1) (b - 1):=⟨by omega,by omega,by omega,fun k h1 h2=>by omega,fun k h1 h2=>by omega⟩
theorem PT.incr (h:PT P d l a b i j) (hij:i<=j) (hp:P (l.getD i d)):PT P d l a b (i + 1) j:=⟨by have:=h.hi; omega,by omega,h.hj,fun k h1 h2=>by
 by_cases e:k=i
 ·subst e; exact hp
 ·exact h.lo k h1 (by omega),h.up⟩
theorem PT.decr (h:PT P d l a b i j) (hij:i<=j) (hp:¬ P (l.getD j d)):PT P d l a b i (j - 1):=⟨h.hi,by omega,by have:=h.hj; omega,h.lo,fun k h1 h2=>by
 by_cases e:k=j
 ·subst e; exact hp
 ·exact h.up k (by have:=h.hi; omega) h2⟩
theorem PT.swap (h:PT P d l a b i j) (hij:i<=j) (hl:b<=l.length) (h1:¬ P (l.getD i d)) (h2:P (l.getD j d)):PT P d (swp d l i j) a b (i + 1) (j - 1)/\(swp d l i j).getD a d=l.getD a d/\Seg d l (swp d l i j) a b:=by
 have e0:=h.hi
 have e1:=h.hj
 have ne:i≠j:=fun e=>h1 (e ▸ h2)
 have ha:=fun x=>swp_at (d:=d) (l:=l) (i:=i) (j:=j) (k:=x) (by omega) (by omega)
 refine ⟨⟨by omega,by omega,by omega,fun k g1 g2=>?_,fun k g1 g2=>?_⟩,by rw [ha,if_neg (by omega),if_neg (by omega)],Seg.swp (by omega) (by omega) (by omega) e1 hl⟩
 ·rw [ha,if_neg (by omega)]
  by_cases e:k=i
  ·rw [if_pos e]; exact h2
  ·rw [if_neg e]; exact h.lo k g1 (by omega)
 ·rw [ha]
  by_cases e:k=j
  ·rw [if_pos e]; exact h1
  ·rw [if_neg e,if_neg (by omega)]; exact h.up k (by omega) g2
/-- The end: the pivot goes between the parts. -/
theorem PT.fin (ho:Ord c) (h:PT (fun x=>c x (l.getD a d) < 0) d l a b i j) (hij:¬ i<=j) (hl:b<=l.length):Seg d l (swp d l j a) a b/\a<=j/\j < b /\
  (∀k,a<=k->k < j->c ((swp d l j a).getD k d) ((swp d l j a).getD j d) < 0)/\(∀k,j < k->k < b->¬ c ((swp d l j a).getD k d) ((swp d l j a).getD j d) < 0):=by
 have e0:=h.hi
 have e1:=h.hij
 have e2:=h.hj
 have ha:=fun x=>swp_at (d:=d) (l:=l) (i:=j) (j:=a) (k:=x) (by omega) (by omega)
 have ej:(swp d l j a).getD j d=l.getD a d:=by
  rw [ha]
  by_cases e:j=a
  ·rw [if_pos e,e]
  ·rw [if_neg e,if_pos rfl]
 refine ⟨Seg.swp (by omega) e2 (Nat.le_refl _) (by omega) hl,by omega,e2,fun k g1 g2=>?_,fun k g1 g2=>?_⟩
 ·rw [ej,ha]
  by_cases e:k=a
  ·rw [if_pos e]; exact h.lo j (by omega) (by omega)
  ·rw [if_neg e,if_neg (by omega)]; exact h.lo k (by omega) (by omega)
 ·rw [ej,ha,if_neg (by omega),if_neg (by omega)]; exact h.up k g1 g2
end
end Go.Proofs.Tryz
/- By program: the conditions of the functions, from their loaded code. -/
namespace Go.Proofs.Tryz
open Go.Eng
open Go.Value renaming int→I,pointer→P,slice→S,agg→A,bool→B,tuple→T
open Go.IntKind renaming i64→J,u64→U,u32→W
set_option maxRecDepth 100000
theorem vc_slices_xorshift_Next (b:Nat) (a:Int) (V:View) (R:VR) (hw100000:V.w.heap[b]?=some (.cells #[I U a] 325 (0,0))) (hx100000:V.X b) (h:(0<=(13:Int))/\(0<=(7:Int))/\(0<=(17:Int))/\(∀d,V.Le d->d.w.heap[b]?=some (.cells #[I U (bitI .xor .u64 (bitI .xor .u64 (bitI .xor .u64 a (U.wrap (a * 2 ^ 13))) ((bitI .xor .u64 a (U.wrap (a * 2 ^ 13))).fdiv (2 ^ 7))) (U.wrap ((bitI .xor .u64 (bitI .xor .u64 a (U.wrap (a * 2 ^ 13))) ((bitI .xor .u64 a (U.wrap (a * 2 ^ 13))).fdiv (2 ^ 7))) * 2 ^ 17)))] 325 (0,0))->R (I U (bitI .xor .u64 (bitI .xor .u64 (bitI .xor .u64 a (U.wrap (a * 2 ^ 13))) ((bitI .xor .u64 a (U.wrap (a * 2 ^ 13))).fdiv (2 ^ 7))) (U.wrap ((bitI .xor .u64 (bitI .xor .u64 a (U.wrap (a * 2 ^ 13))) ((bitI .xor .u64 a (U.wrap (a * 2 ^ 13))).fdiv (2 ^ 7))) * 2 ^ 17)))) d)):
 Acts prog 256 #[P (some ⟨b,0,none⟩)] V R:=
 fn_does (LF:=LF0) (RF:=[1000010]) (β0:=(upd1 (fun _=>0) 100000 b)) tab_ok mixed [] [] func256 (by kernel_rfl) [(0,.c (.ptr 100000 0))] [(100000,⟨.lit [.v (I U a)],325⟩)] (by kernel_rfl) ⟨⟨hw100000,hx100000⟩,trivial,trivial⟩ h (by kernel_rfl)
theorem vc_math_bits_Len64 (e:Int) (V:View) (R:VR) (h:(∃k:(Int × Int)->VP,(((decide (e ≥ (4294967296:Int)))=true->(0<=(32:Int))/\(∃l,(((e.fdiv (2 ^ 32))=l.1)/\((32:Int)=l.2))/\k l V))/\((decide (e ≥ (4294967296:Int)))=false->(∃m,((e=m.1)/\((0:Int)=m.2))/\k m V)))/\∀(b:Int × Int) (f:View),V.Le f->k b f->(true=true/\(∃n:(Int × Int)->VP,(((decide (b.1 ≥ (65536:Int)))=true->(0<=(16:Int))/\(∃o,(((b.1.fdiv (2 ^ 16))=o.1)/\((J.wrap (b.2 + (16:Int)))=o.2))/\n o f))/\((decide (b.1 ≥ (65536:Int)))=false->(∃p,((b.1=p.1)/\(b.2=p.2))/\n p f)))/\∀(d:Int × Int) (g:View),f.Le g->n d g->(true=true/\(∃q:(Int × Int)->VP,(((decide (d.1 ≥ (256:Int)))=true->(0<=(8:Int))/\(∃r,(((d.1.fdiv (2 ^ 8))=r.1)/\((J.wrap (d.2 + (8:Int)))=r.2))/\q r g))/\((decide (d.1 ≥ (256:Int)))=false->(∃s,((d.1=s.1)/\(d.2=s.2))/\q s g)))/\∀(i:Int × Int) (t:View),g.Le t->q i t->(true=true/\(0<=(IntKind.u8.wrap (i.1))/\(IntKind.u8.wrap (i.1)) < (((⟨#[0,1,2,2,3,3,3,3,4,4,4,4,4,4,4,4,5,5,5,5,5,5,5,5,5,5,5,5,5,5,5,5,6,6,6,6,6,6,6,6,6,6,6,6,6,6,6,6,6,6,6,6,6,6,6,6,6,6,6,6,6,6,6,6,7,7,7,7,7,7,7,7,7,7,7,7,7,7,7,7,7,7,7,7,7,7,7,7,7,7,7,7,7,7,7,7,7,7,7,7,7,7,7,7,7,7,7,7,7,7,7,7,7,7,7,7,7,7,7,7,7,7,7,7,7,7,7,7,8,8,8,8,8,8,8,8,8,8,8,8,8,8,8,8,8,8,8,8,8,8,8,8,8,8,8,8,8,8,8,8,8,8,8,8,8,8,8,8,8,8,8,8,8,8,8,8,8,8,8,8,8,8,8,8,8,8,8,8,8,8,8,8,8,8,8,8,8,8,8,8,8,8,8,8,8,8,8,8,8,8,8,8,8,8,8,8,8,8,8,8,8,8,8,8,8,8,8,8,8,8,8,8,8,8,8,8,8,8,8,8,8,8,8,8,8,8,8,8,8,8,8,8,8,8,8,8]⟩:ByteArray).size:Nat):Int))/\(Rt t R (I J (J.wrap (i.2 + (J.wrap ((((⟨#[0,1,2,2,3,3,3,3,4,4,4,4,4,4,4,4,5,5,5,5,5,5,5,5,5,5,5,5,5,5,5,5,6,6,6,6,6,6,6,6,6,6,6,6,6,6,6,6,6,6,6,6,6,6,6,6,6,6,6,6,6,6,6,6,7,7,7,7,7,7,7,7,7,7,7,7,7,7,7,7,7,7,7,7,7,7,7,7,7,7,7,7,7,7,7,7,7,7,7,7,7,7,7,7,7,7,7,7,7,7,7,7,7,7,7,7,7,7,7,7,7,7,7,7,7,7,7,7,8,8,8,8,8,8,8,8,8,8,8,8,8,8,8,8,8,8,8,8,8,8,8,8,8,8,8,8,8,8,8,8,8,8,8,8,8,8,8,8,8,8,8,8,8,8,8,8,8,8,8,8,8,8,8,8,8,8,8,8,8,8,8,8,8,8,8,8,8,8,8,8,8,8,8,8,8,8,8,8,8,8,8,8,8,8,8,8,8,8,8,8,8,8,8,8,8,8,8,8,8,8,8,8,8,8,8,8,8,8,8,8,8,8,8,8,8,8,8,8,8,8,8,8,8,8,8,8]⟩:ByteArray).data.toList.getD ((IntKind.u8.wrap (i.1)).toNat) 0).toNat:Int)))))))))))))):
 Acts prog 241 #[I U e] V R:=
 fd (LF:=LF0) (RF:=[1000010]) [] [(2,⟨Int × Int,false,[],[],fun a=>[(0,.c (.v (I U a.1))),(2,.c (.v (I J a.2)))],fun a=>[]⟩),(5,⟨Int × Int,false,[],[],fun a=>[(0,.c (.v (I U a.1))),(2,.c (.v (I J a.2)))],fun a=>[]⟩),(8,⟨Int × Int,false,[],[],fun a=>[(0,.c (.v (I U a.1))),(2,.c (.v (I J a.2)))],fun a=>[]⟩)] func241 h
theorem vc_math_bits_Len (a:Int) (V:View) (R:VR) (h:(Ca V 241 #[I U a] fun d e=>∃b,d=I J b/\(Rt e R (I J b)))):
 Acts prog 213 #[I U a] V R:=
 fd (LF:=LF0) (RF:=[1000010]) [] [] func213 h
theorem vc_slices_nextPowerOfTwo (b:Int) (V:View) (R:VR) (h:(Ca V 213 #[I U (U.wrap b)] fun d e=>∃a,d=I J a/\(0<=a)/\(Rt e R (I U (U.wrap ((1:Int) * 2 ^ (min a.toNat IntKind.u64.bits))))))):
 Acts prog 255 #[I J b] V R:=
 fd (LF:=LF0) (RF:=[1000010]) [] [] func255 h
end Go.Proofs.Tryz
/- Sorting: what does not depend on the elements. -/
namespace Go.Proofs.Tryz
open Go.Eng Go.Big
theorem le_shut' (V:View):V.Le V.shut:=fun _ _ h=>h
set_option maxRecDepth 10000 in
theorem c_Len64 {V:View} (x:Nat) (hx:x < 256):Acts prog 241 #[.int .u64 (x:Int)] V fun r V'=>r=.int .i64 (blen x:Int):=by
 refine vc_math_bits_Len64 _ V _ ⟨fun z _=>z=((x:Int),0),⟨fun h0=>absurd (of_decide_eq_true h0) (by omega),fun _=>⟨_,⟨rfl,rfl⟩,rfl⟩⟩,?_⟩
 rintro _ V1 l1 rfl
 refine ⟨rfl,fun z _=>z=((x:Int),0),⟨fun h0=>absurd (of_decide_eq_true h0) (by dsimp only; omega),fun _=>⟨_,⟨rfl,rfl⟩,rfl⟩⟩,?_⟩
 rintro _ V2 l2 rfl
 refine ⟨rfl,fun z _=>z=((x:Int),0),⟨fun h0=>absurd (of_decide_eq_true h0) (by dsimp only; omega),fun _=>⟨_,⟨rfl,rfl⟩,rfl⟩⟩,?_⟩
 rintro _ V3 l3 rfl
 have hw:IntKind.u8.wrap (x:Int)=x:=IntWalk.u8_in _ (by omega)
 have hsz:(len8.size:Int)=256:=rfl
 dsimp only
 rw [hw]
 refine ⟨rfl,⟨by omega,by show (x:Int) < (len8.size:Int); rw [hsz]; omega⟩,fun V4 l4=>?_⟩
 show Value.int .i64 (i64.wrap (0 + i64.wrap ((len8.data.toList.getD (x:Int).toNat 0).toNat:Int)))=_
 congr 1
 have key:∀y:Nat,y < 256->(len8.data.toList.getD y 0).toNat=blen y:=by decide +kernel
 have hbl:blen x<=8:=blen_le.2 (by omega)
 have:=key x hx
 rw [Int.toNat_natCast,this]
 simp (disch:=omega) only [i64w]
 omega
theorem c_bits_Len {V:View} (x:Nat) (hx:x < 256):Acts prog 213 #[.int .u64 (x:Int)] V fun r V'=>r=.int .i64 (blen x:Int):=by
 refine vc_math_bits_Len _ V _ fun V1 l1=>(c_Len64 x hx).mono ?_
 rintro r V2 l2 rfl
 exact ⟨_,rfl,fun V3 l3=>rfl⟩
theorem c_nextPowerOfTwo {V:View} (x:Nat) (h0:1<=x) (hx:x < 50):Acts prog 255 #[.int .i64 (x:Int)] V fun r V'=>∃m:Nat,r=.int .u64 m/\1<=m/\m<=2 * x:=by
 have w:u64.wrap (x:Int)=x:=u64w (by omega)
 refine vc_slices_nextPowerOfTwo _ V _ fun V1 l1=>?_
 rw [w]
 refine (c_bits_Len x (by omega)).mono ?_
 rintro r V2 l2 rfl
 have key:∀y:Nat,y < 50->1<=y->2 ^ blen y<=2 * y/\blen y<=6:=by decide +kernel
 obtain ⟨k1,k2⟩:=key x hx h0
 have e:min ((blen x:Nat):Int).toNat IntKind.u64.bits=blen x:=by
  show min ((blen x:Nat):Int).toNat 64=_
  rw [Int.toNat_natCast]; omega
 have e2:((1:Int) * 2 ^ blen x)=((2 ^ blen x:Nat):Int):=by rw [Int.one_mul]; simp
 refine ⟨_,rfl,by omega,fun V3 l3=>⟨2 ^ blen x,?_,Nat.one_le_two_pow,k1⟩⟩
 rw [e,e2]
 generalize 2 ^ blen x=P at *
 rw [u64w (by omega)]
theorem and_le {x m:Int} (h0:0<=m) (h1:m < 1000):0<=bitI .and .u64 x m/\bitI .and .u64 x m<=m:=by
 have hb:(BitVec.ofInt 64 m).toNat=m.toNat:=by rw [BitVec.toNat_ofInt]; omega
 have h:((BitVec.ofInt 64 x &&& BitVec.ofInt 64 m).toNat)<=m.toNat:=by rw [BitVec.toNat_and,hb]; exact Nat.and_le_right
 show 0<=u64.wrap ((BitVec.ofInt 64 x &&& BitVec.ofInt 64 m).toNat:Int)/\u64.wrap ((BitVec.ofInt 64 x &&& BitVec.ofInt 64 m).toNat:Int)<=m
 rw [u64w (by omega)]
 omega
theorem c_xorshift {V:View} {rb:Nat} {x:Int} (hw:V.w.heap[rb]?=some (.cells #[.int .u64 x] 325 (0,0))) (hx:V.X rb) :
  Acts prog 256 #[.pointer (some ⟨rb,0,none⟩)] V fun r V'=>∃y:Int,r=.int .u64 y/\V'.w.heap[rb]?=some (.cells #[.int .u64 y] 325 (0,0)):=
 vc_slices_xorshift_Next rb x V _ hw hx ⟨by decide,by decide,by decide,fun V1 l1 h=>⟨_,rfl,h⟩⟩
end Go.Proofs.Tryz
