/- A part of the proof (joined by program from: NewA, VLaw07, Law7A, SideP, VFrS, FrS, FrT, FragB, VFrB, RefI). -/
import Derived.Test.YtalijajeenhebaaGreatDoorM15
import Derived.Test.YtalijajeenhebaaGreatDoorM5
import Derived.Test.YtalijajeenhebaaGreatDoorM16
set_option linter.unusedVariables false
open Go.IntKind (i64 u64 u32)
/- A new block that is handed back; scene.New. -/
namespace Go.Proofs.Tryz
open Go.Eng Go.Big
/-- All that is there is hidden. -/
def hideAll (V:View):View:=⟨V.w,fun b=>b < V.w.heap.size,fun _=>False,fun _ h=>h,fun _ h=>h.elim⟩
/-- A block that is seen when all was hidden is new. -/
theorem acts_fresh {f:FuncId} {args:Array Value} {V:View} {o:Obj} (h:Acts prog f args (hideAll V) fun r V'=>∃bk,r=.pointer (some ⟨bk,0,none⟩)/\V'.blk bk o) :
  Acts prog f args V fun r V'=>∃bk,r=.pointer (some ⟨bk,0,none⟩)/\V.w.heap.size<=bk/\V'.blk bk o:=
 ⟨h.1,h.2.mono fun _ _ ⟨_,he,hx,bk,hr,hb⟩=>⟨_,he,⟨hx.size,fun b hb _=>hx.blk b hb (fun h=>h),hx.os,hx.tape,hx.out⟩,bk,hr,Nat.le_of_not_lt hb.1,fun hh=>hb.1 (V.hH bk hh),hb.2⟩⟩
theorem c_scene_New {V:View} {lp:OA} {ln lc:Nat} (hc:ln<=lc) :
  Acts prog 7 #[.slice lp ln lc] V fun r V'=>∃bk,r=.pointer (some ⟨bk,0,none⟩)/\V.w.heap.size<=bk/\V'.blk bk (.cells #[.slice lp (min ln 400) lc,.int .i64 0] 105 (0,0)):=by
 refine acts_fresh (vc_scene_New lp ln lc (hideAll V) _ ?_)
 have e:minI (ln:Int) 400=((min ln 400:Nat):Int):=by
  unfold minI
  simp only [Nat.min_def]
  split <;> split <;> omega
 rw [e,Int.toNat_natCast]
 have:=Nat.min_le_left ln 400
 exact ⟨⟨by omega,by omega⟩,fun V1 l1 bk hb=>⟨bk,rfl,hb⟩⟩
/-- What was seen is seen behind a new block that is hidden. -/
theorem le_fresh {V1 V2 V3:View} {bk:Nat} (l2:V1.Le V2) (hfr:V1.w.heap.size<=bk) (l3:(V2.hide bk).Le V3):V1.Le V3:=fun b o h=>l3 b o ⟨fun hh=>hh.elim (l2 b o h).1 fun e=>by
  have hlt:b < V1.w.heap.size:=by
   rcases Nat.lt_or_ge b V1.w.heap.size with h' | h'
   ·exact h'
   ·have:=h.2; rw [Array.getElem?_eq_none h'] at this; cases this
  have:=e.1
  omega,(l2 b o h).2⟩
end Go.Proofs.Tryz
/- By program: the conditions of the functions, from their loaded code. -/
namespace Go.Proofs.Tryz
open Go.Eng
open Go.Value renaming int→I,pointer→P,slice→S,agg→A,bool→B,tuple→T
open Go.IntKind renaming i64→J,u64→U,u32→W
set_option maxRecDepth 100000
theorem vc_law07_same (b:Bool) (c:OA) (d e:Nat) (f:Bool) (g:OA) (i k:Nat) (l:Bool) (m:OA) (n o:Nat) (p:Bool) (q:OA) (r s:Nat) (t:OA) (u w:Nat) (x:Bool) (y:OA) (z a0:Nat) (a1:OA) (a2 a3:Nat) (a4 a5 a6:Bool) (a7:OA) (a8 a9:Nat) (b0:Bool) (b1:OA) (b2 b3:Nat) (b4:Bool) (b5:OA) (b6 b7:Nat) (b8:Bool) (b9:OA) (c0 c1:Nat) (c2:OA) (c3 c4:Nat) (c5:Bool) (c6:OA) (c7 c8:Nat) (c9:OA) (d0 d1:Nat) (d2 d3:Bool) (V:View) (R:VR) (h:(Ca V 15 #[A #[B a6,S a7 a8 a9,B b0,S b1 b2 b3,B b4,S b5 b6 b7,B b8,S b9 c0 c1,S c2 c3 c4,B c5,S c6 c7 c8,S c9 d0 d1,B d2,B d3]] fun g6 g7=>∃d4,∃d5 d6 d7,∃d8,∃d9 e0 e1,∃e2,∃e3 e4 e5,∃e6,∃e7 e8 e9,∃f0 f1 f2,∃f3,∃f4 f5 f6,∃f7 f8 f9,∃g0,∃g1,g6=A #[B d4,S d5 d6 d7,B d8,S d9 e0 e1,B e2,S e3 e4 e5,B e6,S e7 e8 e9,S f0 f1 f2,B f3,S f4 f5 f6,S f7 f8 f9,B g0,B g1]/\(∀a,g7.Le a->∀g2 g3:Nat,(a.blk g2 (.cells #[B b,S c d e,B f,S g i k,B l,S m n o,B p,S q r s,S t u w,B x,S y z a0,S a1 a2 a3,B a4,B a5] 44 (0,0)))->(a.blk g3 (.cells #[B d4,S d5 d6 d7,B d8,S d9 e0 e1,B e2,S e3 e4 e5,B e6,S e7 e8 e9,S f0 f1 f2,B f3,S f4 f5 f6,S f7 f8 f9,B g0,B g1] 44 (0,0)))->Acts prog 53 #[S (some ⟨g2,0,none⟩) 1 1,S (some ⟨g3,0,none⟩) 1 1] a fun g8 g9=>∃g4,g8=B g4/\∀i0:C->Value,(Rt g9 R (B g4))))):
 Acts prog 12 #[A #[B b,S c d e,B f,S g i k,B l,S m n o,B p,S q r s,S t u w,B x,S y z a0,S a1 a2 a3,B a4,B a5],A #[B a6,S a7 a8 a9,B b0,S b1 b2 b3,B b4,S b5 b6 b7,B b8,S b9 c0 c1,S c2 c3 c4,B c5,S c6 c7 c8,S c9 d0 d1,B d2,B d3]] V R:=
 fd (LF:=LF0) (RF:=[53,1000007]) [] [] func12 h
theorem vc_law07_same0 (e:Bool) (f:OA) (g i:Nat) (k:Bool) (l:OA) (m n:Nat) (o:Bool) (p:OA) (q r:Nat) (z:Bool) (a0:OA) (a1 a2:Nat) (a3:OA) (s a4:Nat) (a5:Bool) (a6:OA) (a7 a8:Nat) (a9:OA) (t b0:Nat) (b c:Bool) (V:View) (R:VR) (h:(Ca V 54 #[A #[B e,S f g i,B k,S l m n,B o,S p q r],A #[B false,S none 0 0,B false,S none 0 0,B false,S none 0 0]] fun b1 a=>∃d,b1=B d/\((d=true->(((!b)=true->(((!c)=true->(Rt a R (B ((J.wrap ((s:Int) + (t:Int))) == (0:Int)))))/\((!c)=false->(Rt a R (B false)))))/\((!b)=false->(Rt a R (B false)))))/\(d=false->(Rt a R (B false)))))):
 Acts prog 13 #[A #[B e,S f g i,B k,S l m n,B o,S p q r,B z,S a0 a1 a2,S a3 s a4,B a5,S a6 a7 a8,S a9 t b0,B b,B c]] V R:=
 fd (LF:=LF0) (RF:=[1000007]) [] [] func13 h
theorem vc_law07_known (V:View) (R:VR) (h:(Ca V 69 #[I J 0,I J 0] fun i1 i2=>∃a9,∃b0 b1 b2,∃b3 b4 b5,∃b6,∃b7 b8 b9,∃c0 c1 c2,i1=A #[B a9,S b0 b1 b2,S b3 b4 b5,B b6,S b7 b8 b9,S c0 c1 c2]/\(Ca i2 69 #[I J 2,I J 0] fun i3 i4=>∃c3,∃c4 c5 c6,∃c7 c8 c9,∃d0,∃d1 d2 d3,∃d4 d5 d6,i3=A #[B c3,S c4 c5 c6,S c7 c8 c9,B d0,S d1 d2 d3,S d4 d5 d6]/\(Ca i4 9 #[A #[B a9,S b0 b1 b2,S b3 b4 b5,B b6,S b7 b8 b9,S c0 c1 c2],A #[B c3,S c4 c5 c6,S c7 c8 c9,B d0,S d1 d2 d3,S d4 d5 d6]] fun i5 i6=>∃a,∃b c d,∃e,∃f g i,∃k,∃l m n,∃o,∃p q r,∃s t u,∃w,∃x y z,∃a0 a1 a2,∃a3,∃a4,∃a5,i5=T #[A #[B a,S b c d,B e,S f g i,B k,S l m n,B o,S p q r,S s t u,B w,S x y z,S a0 a1 a2,B a3,B a4],B a5]/\(Ca i6 17 #[A #[B a,S b c d,B e,S f g i,B k,S l m n,B o,S p q r,S s t u,B w,S x y z,S a0 a1 a2,B a3,B a4]] fun i7 a6=>∃d7,∃d8 d9 e0,∃e1 e2 e3,∃e4,∃e5 e6 e7,∃e8 e9 f0,∃a7,i7=T #[A #[B d7,S d8 d9 e0,S e1 e2 e3,B e4,S e5 e6 e7,S e8 e9 f0],B a7]/\((a5=true->((a7=true->(Ca a6 30 #[A #[B a,S b c d,B e,S f g i,B k,S l m n,B o,S p q r,S s t u,B w,S x y z,S a0 a1 a2,B a3,B a4]] fun i8 f1=>∃a8,i8=B a8/\((a8=true->(Ca f1 69 #[I J 2,I J 0] fun i9 k0=>∃f2,∃f3 f4 f5,∃f6 f7 f8,∃f9,∃g0 g1 g2,∃g3 g4 g5,i9=A #[B f2,S f3 f4 f5,S f6 f7 f8,B f9,S g0 g1 g2,S g3 g4 g5]/\(Ca k0 70 #[A #[B d7,S d8 d9 e0,S e1 e2 e3,B e4,S e5 e6 e7,S e8 e9 f0],A #[B f2,S f3 f4 f5,S f6 f7 f8,B f9,S g0 g1 g2,S g3 g4 g5]] fun k1 k2=>∃g6,k1=B g6/\(Rt k2 R (B g6)))))/\(a8=false->(Rt f1 R (B false))))))/\(a7=false->(Rt a6 R (B false)))))/\(a5=false->(Rt a6 R (B false))))))))):
 Acts prog 23 #[] V R:=
 fd (LF:=LF0) (RF:=[1000007]) [] [] func23 h
end Go.Proofs.Tryz
/- Law 07: same, same0, known; the law FragmentEnds. -/
namespace Go.Proofs.Tryz
open Go.Eng Go.Big
theorem c_same {V:View} {v w:Value} {l:L3} {s:Sp} (h:RFa V v l s) (h':RF V w l s) {k:Nat} (sl:SzL k l) (hs:s.sz k) (hk:k<=1099511627776) :
  Acts prog 12 #[v,w] V fun r V'=>r=.bool true:=by
 have h0:=h
 have h0':=h'
 obtain ⟨_,_,_,_,_,_,_,_,_,_,_,_,_,_,_,_,_,_,_,_,_,_,_,_,_,_,rfl⟩:=fa_shape h
 obtain ⟨_,_,_,_,_,_,_,_,_,_,_,_,_,_,_,_,_,_,_,_,_,_,_,_,_,_,rfl⟩:=rf_shape h'
 refine vc_law07_same _ _ _ _ _ _ _ _ _ _ _ _ _ _ _ _ _ _ _ _ _ _ _ _ _ _ _ _ _ _ _ _ _ _ _ _ _ _ _ _ _ _ _ _ _ _ _ _ _ _ _ _ _ _ _ _ V _ fun V1 l1=>(c_ref06_WriteF (h0'.le l1) sl hs hk).mono ?_
 rintro r V2 l2 g
 have g0:=g
 obtain ⟨_,_,_,_,_,_,_,_,_,_,_,_,_,_,_,_,_,_,_,_,_,_,_,_,_,_,rfl⟩:=fa_shape g
 refine ⟨_,_,_,_,_,_,_,_,_,_,_,_,_,_,_,_,_,_,_,_,_,_,_,_,_,_,_,_,rfl,fun V3 l3 bk1 bk2 b1 b2=>?_⟩
 have one:∀{bk:Nat} {xs:List Value} {ty:TypeId},V3.blk bk (.cells xs.toArray ty (0,0))->RFa V3 (.agg xs.toArray) l s->RFas V3 (some ⟨bk,0,none⟩) 1 [(l,s)]:=by
  intro bk xs ty hb hf
  refine ⟨rfl,fun i hi=>?_⟩
  obtain rfl:i=0:=by simpa using hi
  refine ⟨⟨bk,0,none⟩,by simp [addrAdd,add_zero'],_,hf,fun j x hx=>?_⟩
  rw [add_zero']
  exact blk_at hb hx
 refine (c_SameFs_same (fs:=[(l,s)]) (one b1 (h0.le (l1.trans (l2.trans l3)))) (one b2 (g0.le l3)) (k:=k) (by intro f hf; rw [List.mem_singleton] at hf; subst hf; exact ⟨sl,hs⟩) hk (by simp)).mono ?_
 rintro r V4 l4 rfl
 exact ⟨_,rfl,fun J V5 l5=>rfl⟩
theorem rl0 (V:View):RL V (.agg #[.bool false,.slice none 0 0,.bool false,.slice none 0 0,.bool false,.slice none 0 0]) 0 0 0:=⟨_,_,_,_,_,_,_,_,_,rfl,RD.nil,RD.nil,RD.nil⟩
theorem c_same0 {V:View} {v:Value} (h:FZero v):Acts prog 13 #[v] V fun r V'=>r=.bool true:=by
 obtain rfl:=h
 refine vc_law07_same0 _ _ _ _ _ _ _ _ _ _ _ _ _ _ _ _ _ _ _ _ _ _ _ _ _ _ _ _ V _ fun V1 l1=>(c_ref04_SameL (rl0 V1) (rl0 V1) (by decide) (by decide) (by decide)).mono ?_
 rintro r V2 l2 rfl
 exact ⟨_,rfl,fun _=>⟨fun _=>⟨fun _ V3 l3=>rfl,(fun h=>nomatch h)⟩,(fun h=>nomatch h)⟩,(by intro h; simp at h)⟩
theorem at_known:atX (thrL ((0:Int):Rat) ((0:Int):Rat) ((2:Int):Rat) ((0:Int):Rat)) (segS ((0:Int):Rat) ((0:Int):Rat) ((2:Int):Rat) ((0:Int):Rat)).hi=((2:Int):Rat) /\
  atY (thrL ((0:Int):Rat) ((0:Int):Rat) ((2:Int):Rat) ((0:Int):Rat)) (segS ((0:Int):Rat) ((0:Int):Rat) ((2:Int):Rat) ((0:Int):Rat)).hi=((0:Int):Rat):=by decide +kernel
theorem c_known7 {V:View}:Acts prog 23 #[] V fun r V'=>r=.bool true:=by
 have s0:Sz 10 ((0:Int):Rat):=sz4 (by omega)
 have s2:Sz 10 ((2:Int):Rat):=sz4 (by omega)
 have ne:¬ (((0:Int):Rat)=((2:Int):Rat)/\((0:Int):Rat)=((0:Int):Rat)):=by decide
 have sl:=sz_thrL s0 s0 s2 s0 ne
 have ss:=sz_segS s0 s0 s2 s0 ne
 have sl':SzL 5000 (thrL ((0:Int):Rat) ((0:Int):Rat) ((2:Int):Rat) ((0:Int):Rat)):=⟨Sz.mono sl.1 (by omega),Sz.mono sl.2.1 (by omega),Sz.mono sl.2.2 (by omega)⟩
 have ss':(segS ((0:Int):Rat) ((0:Int):Rat) ((2:Int):Rat) ((0:Int):Rat)).sz 5000:=⟨Sz.mono ss.1 (by omega),Sz.mono ss.2 (by omega)⟩
 have ok:=seg_ok ne
 refine vc_law07_known V _ fun V1 l1=>(c_FromInts 0 0 (by omega) (by omega) (by omega) (by omega)).mono ?_
 rintro r V2 l2 g1
 have g10:=g1
 obtain ⟨_,_,_,_,_,_,_,_,_,_,_,_,_,_,rfl⟩:=ap_shape g1
 refine ⟨_,_,_,_,_,_,_,_,_,_,_,_,_,_,rfl,fun V3 l3=>(c_FromInts 2 0 (by omega) (by omega) (by omega) (by omega)).mono ?_⟩
 rintro r V4 l4 g2
 have g20:=g2
 obtain ⟨_,_,_,_,_,_,_,_,_,_,_,_,_,_,rfl⟩:=ap_shape g2
 refine ⟨_,_,_,_,_,_,_,_,_,_,_,_,_,_,rfl,fun V5 l5=>(c_FromPoints (g10.le (l3.trans (l4.trans l5))) (g20.le l5) s0 s0 s2 s0 (by omega)).mono ?_⟩
 rintro r V6 l6 ⟨-,m2⟩
 obtain ⟨f,rfl,gf⟩:=m2 ne
 have gf0:=gf
 obtain ⟨_,_,_,_,_,_,_,_,_,_,_,_,_,_,_,_,_,_,_,_,_,_,_,_,_,_,rfl⟩:=fa_shape gf
 refine ⟨_,_,_,_,_,_,_,_,_,_,_,_,_,_,_,_,_,_,_,_,_,_,_,_,_,_,_,_,_,rfl,fun V7 l7=>(c_End (gf0.le l7) ok sl' ss' (by omega)).mono ?_⟩
 rintro r V8 l8 ⟨w,rfl,e1,-⟩
 have e1:=e1 rfl
 rw [at_known.1,at_known.2] at e1
 have e10:=e1
 obtain ⟨_,_,_,_,_,_,_,_,_,_,_,_,_,_,rfl⟩:=ap_shape e1
 refine ⟨_,_,_,_,_,_,_,_,_,_,_,_,_,_,_,rfl,fun _=>⟨fun _ V9 l9=>(c_Valid_ok (gf0.le (l7.trans (l8.trans l9))) ok sl' ss' (by omega)).mono ?_,(fun h=>nomatch h)⟩,(fun h=>nomatch h)⟩
 rintro r V10 l10 rfl
 refine ⟨_,rfl,fun _ V11 l11=>(c_FromInts 2 0 (by omega) (by omega) (by omega) (by omega)).mono ?_,(fun h=>nomatch h)⟩
 rintro r V12 l12 g3
 have g30:=g3
 obtain ⟨_,_,_,_,_,_,_,_,_,_,_,_,_,_,rfl⟩:=ap_shape g3
 refine ⟨_,_,_,_,_,_,_,_,_,_,_,_,_,_,rfl,fun V13 l13=>(c_point_Same (e10.le (l9.trans (l10.trans (l11.trans (l12.trans l13))))) (g30.le l13) s2 s0 s2 s0 (by omega)).mono ?_⟩
 rintro r V14 l14 rfl
 exact ⟨_,rfl,fun V15 l15=>by simp⟩
theorem iface_nil:IsIface .nilIface:=.inl rfl
end Go.Proofs.Tryz
/- Plain laws: the part of a span on one side of a line and its sample; the only common point of two fragments is symmetric. -/
namespace Go.Proofs.Tryz
open Go.Eng Go.Big
def maxQ (x y:Rat):Rat:=if 0 < cmpQ y x then y else x
def minQ (x y:Rat):Rat:=if cmpQ y x < 0 then y else x
theorem cmpQ_or (x y:Rat):(x < y/\cmpQ x y=-1) \/ (x=y/\cmpQ x y=0) \/ (y < x/\cmpQ x y=1):=by
 by_cases h1:x < y
 ·exact .inl ⟨h1,cmpQ_lt.1 h1⟩
 ·by_cases h2:x=y
  ·exact .inr (.inl ⟨h2,cmpQ_eq.1 h2⟩)
  ·have h3:y < x:=by grind
   exact .inr (.inr ⟨h3,cmpQ_gt.1 h3⟩)
theorem Sp.emp_iff {s:Sp}:s.emp=false↔(s.a=true \/ s.b=true \/ s.lo < s.hi):=by
 unfold Sp.emp
 rcases cmpQ_or s.lo s.hi with ⟨h,e⟩ | ⟨h,e⟩ | ⟨h,e⟩ <;> rw [e] <;> cases s.a <;> cases s.b <;> simp <;> grind
def Sp.meet (v w:Sp):Sp:=⟨if v.a then w.lo else if w.a then v.lo else maxQ v.lo w.lo,if v.b then w.hi else if w.b then v.hi else minQ v.hi w.hi,if v.a then w.a else false,if v.b then w.b else false⟩
theorem Sp.meet_can {v w:Sp} (h1:v.can) (h2:w.can):(v.meet w).can:=by
 unfold Sp.meet
 constructor <;> dsimp only
 ·cases hv:v.a with
  | false=>intro h; cases h
  | true=>exact fun h=>h2.1 h
 ·cases hv:v.b with
  | false=>intro h; cases h
  | true=>exact fun h=>h2.2 h
theorem val_rev (m:L3) (x y:Rat):valL (revL m) x y=-valL m x y:=by
 unfold valL revL; simp only [Rat.intCast_neg]; grind
/-! the only common point -/
def crossL (l m:L3):Rat:=((l.1:Rat) * (m.2.1:Rat)) - ((l.2.1:Rat) * (m.1:Rat))
def meX (l m:L3):Rat:=(((l.2.1:Rat) * (m.2.2:Rat)) - ((l.2.2:Rat) * (m.2.1:Rat))) * (crossL l m)⁻¹
def meY (l m:L3):Rat:=(((l.2.2:Rat) * (m.1:Rat)) - ((l.1:Rat) * (m.2.2:Rat))) * (crossL l m)⁻¹
def onB (m l:L3):Bool:=decide (m=l) || decide (m=revL l)
def onS (m:L3) (t:Sp) (l:L3):Sp:=if m=l then t else t.neg
def end1 (s v:Sp):Bool:=!s.b && !v.a && decide (s.hi=v.lo)
def end2 (s v:Sp):Bool:=!s.a && !v.b && decide (s.lo=v.hi)
def offB (l:L3) (s:Sp) (m:L3) (t:Sp):Bool:=decide (crossL l m≠0) && s.has (parL l (meX l m) (meY l m)) && t.has (parL m (meX l m) (meY l m))
def mtB (l:L3) (s:Sp) (m:L3) (t:Sp):Bool:=if onB m l then end1 s (onS m t l) || end2 s (onS m t l) else offB l s m t
def mtX (l:L3) (s:Sp) (m:L3) (t:Sp):Rat:=if onB m l then (if end1 s (onS m t l) then atX l s.hi else atX l s.lo) else meX l m
def mtY (l:L3) (s:Sp) (m:L3) (t:Sp):Rat:=if onB m l then (if end1 s (onS m t l) then atY l s.hi else atY l s.lo) else meY l m
theorem revL_rev (l:L3):revL (revL l)=l:=by unfold revL; simp
theorem onB_symm (l m:L3):onB m l=onB l m:=by
 unfold onB
 have h1:(m=l)↔(l=m):=eq_comm
 have h2:(m=revL l)↔(l=revL m):=⟨fun h=>by rw [h,revL_rev],fun h=>by rw [h,revL_rev]⟩
 rw [decide_eq_decide.2 h1,decide_eq_decide.2 h2]
end Go.Proofs.Tryz
/- By program: the conditions of the functions, from their loaded code. -/
namespace Go.Proofs.Tryz
open Go.Eng
open Go.Value renaming int→I,pointer→P,slice→S,agg→A,bool→B,tuple→T
open Go.IntKind renaming i64→J,u64→U,u32→W
set_option maxRecDepth 100000
theorem vc_geo_Iv_Meet (l m:Int) (z:OA) (e f:Int) (y:OA) (g d:Bool) (n o:Int) (a0:OA) (p q:Int) (a1:OA) (i k:Bool) (V:View) (R:VR) (h:(∃a3:(Int × Int × (OA) × Int × Int × (OA) × Bool × Bool)->VP,((g=true->(∃r,(s12 0 0 0 0 l m z e f y g d (s12 n o a0 p q a1 i k (0:Int) (0:Int) (none:OA) (0:Int) (((0:Int)=(0:Int))/\((none:OA)=none)/\(n=r.1)/\(o=r.2.1)/\((a0:OA)=r.2.2.1)/\(e=r.2.2.2.1)/\(f=r.2.2.2.2.1)/\((y:OA)=r.2.2.2.2.2.1)/\(i=r.2.2.2.2.2.2.1)/\(d=r.2.2.2.2.2.2.2))))/\a3 r V))/\(g=false->(((!i)=true->(Ca V 189 #[A #[I J l,I J m,P z],A #[I J n,I J o,P a0]] fun b4 b5=>∃a6,∃a7,∃a8,b4=A #[I J a6,I J a7,P a8]/\(∃s,(s12 0 0 0 0 l m z e f y g d (s12 n o a0 p q a1 i k (0:Int) (0:Int) (none:OA) (0:Int) (((0:Int)=(0:Int))/\((none:OA)=none)/\(a6=s.1)/\(a7=s.2.1)/\((a8:OA)=s.2.2.1)/\(e=s.2.2.2.1)/\(f=s.2.2.2.2.1)/\((y:OA)=s.2.2.2.2.2.1)/\(g=s.2.2.2.2.2.2.1)/\(d=s.2.2.2.2.2.2.2))))/\a3 s b5)))/\((!i)=false->(∃t,(s12 0 0 0 0 l m z e f y g d (s12 n o a0 p q a1 i k (0:Int) (0:Int) (none:OA) (0:Int) (((0:Int)=(0:Int))/\((none:OA)=none)/\(l=t.1)/\(m=t.2.1)/\((z:OA)=t.2.2.1)/\(e=t.2.2.2.1)/\(f=t.2.2.2.2.1)/\((y:OA)=t.2.2.2.2.2.1)/\(g=t.2.2.2.2.2.2.1)/\(d=t.2.2.2.2.2.2.2))))/\a3 t V)))))/\∀(b:Int × Int × (OA) × Int × Int × (OA) × Bool × Bool) (a2:View),V.Le a2->a3 b a2->(true=true/\(∃a4:(Int × Int × (OA) × Int × Int × (OA) × Bool × Bool)->VP,((d=true->(∃u,(s8 0 0 (0:Int) (0:Int) (none:OA) (0:Int) (0:Int) (none:OA) ((b.1=u.1)/\(b.2.1=u.2.1)/\((b.2.2.1:OA)=u.2.2.1)/\(p=u.2.2.2.1)/\(q=u.2.2.2.2.1)/\((a1:OA)=u.2.2.2.2.2.1)/\(b.2.2.2.2.2.2.1=u.2.2.2.2.2.2.1)/\(k=u.2.2.2.2.2.2.2)))/\a4 u a2))/\(d=false->(((!k)=true->(Ca a2 190 #[A #[I J e,I J f,P y],A #[I J p,I J q,P a1]] fun b6 b7=>∃a9,∃b0,∃b1,b6=A #[I J a9,I J b0,P b1]/\(∃w,(s8 0 0 (0:Int) (0:Int) (none:OA) (0:Int) (0:Int) (none:OA) ((b.1=w.1)/\(b.2.1=w.2.1)/\((b.2.2.1:OA)=w.2.2.1)/\(a9=w.2.2.2.1)/\(b0=w.2.2.2.2.1)/\((b1:OA)=w.2.2.2.2.2.1)/\(b.2.2.2.2.2.2.1=w.2.2.2.2.2.2.1)/\(b.2.2.2.2.2.2.2=w.2.2.2.2.2.2.2)))/\a4 w b7)))/\((!k)=false->(∃x,(s8 0 0 (0:Int) (0:Int) (none:OA) (0:Int) (0:Int) (none:OA) ((b.1=x.1)/\(b.2.1=x.2.1)/\((b.2.2.1:OA)=x.2.2.1)/\(b.2.2.2.1=x.2.2.2.1)/\(b.2.2.2.2.1=x.2.2.2.2.1)/\((b.2.2.2.2.2.1:OA)=x.2.2.2.2.2.1)/\(b.2.2.2.2.2.2.1=x.2.2.2.2.2.2.1)/\(b.2.2.2.2.2.2.2=x.2.2.2.2.2.2.2)))/\a4 x a2)))))/\∀(c:Int × Int × (OA) × Int × Int × (OA) × Bool × Bool) (a5:View),a2.Le a5->a4 c a5->(true=true/\(Ca a5 172 #[A #[I J c.1,I J c.2.1,P c.2.2.1,I J c.2.2.2.1,I J c.2.2.2.2.1,P c.2.2.2.2.2.1,B c.2.2.2.2.2.2.1,B c.2.2.2.2.2.2.2]] fun b8 b9=>∃b2,b8=B b2/\(Rt b9 R (T #[A #[I J c.1,I J c.2.1,P c.2.2.1,I J c.2.2.2.1,I J c.2.2.2.2.1,P c.2.2.2.2.2.1,B c.2.2.2.2.2.2.1,B c.2.2.2.2.2.2.2],B (!b2)])))))))):
 Acts prog 146 #[A #[I J l,I J m,P z,I J e,I J f,P y,B g,B d],A #[I J n,I J o,P a0,I J p,I J q,P a1,B i,B k]] V R:=
 fd (LF:=LF0) (RF:=[1000007]) [] [(500000,⟨Int × Int × (OA) × Int × Int × (OA) × Bool × Bool,false,[2,3,4,6],[2,3,4],fun a=>[],fun a=>[(6,⟨.lit [.v (I J a.1),.v (I J a.2.1),.v (P a.2.2.1),.v (I J a.2.2.2.1),.v (I J a.2.2.2.2.1),.v (P a.2.2.2.2.2.1),.v (B a.2.2.2.2.2.2.1),.v (B a.2.2.2.2.2.2.2)],112⟩)]⟩),(500001,⟨Int × Int × (OA) × Int × Int × (OA) × Bool × Bool,false,[4,6],[4],fun a=>[],fun a=>[(6,⟨.lit [.v (I J a.1),.v (I J a.2.1),.v (P a.2.2.1),.v (I J a.2.2.2.1),.v (I J a.2.2.2.2.1),.v (P a.2.2.2.2.2.1),.v (B a.2.2.2.2.2.2.1),.v (B a.2.2.2.2.2.2.2)],112⟩)]⟩)] func146 h
theorem vc_geo_Fr_Meet (a b:Int) (k:OA) (d e:Int) (l:OA) (f g:Int) (m:OA) (i n:Int) (o:OA) (p q:Int) (r:OA) (s t:Bool) (b2 b3:Int) (b4:OA) (b5 b6:Int) (b7:OA) (b8 b9:Int) (c0:OA) (c6 c7:Int) (c8:OA) (c9 d0:Int) (d1:OA) (d2 d3:Bool) (V:View) (R:VR) (h:(Ca V 141 #[A #[I J b2,I J b3,P b4,I J b5,I J b6,P b7,I J b8,I J b9,P c0,I J c6,I J c7,P c8,I J c9,I J d0,P d1,B d2,B d3],A #[I J a,I J b,P k,I J d,I J e,P l,I J f,I J g,P m]] fun i7 a5=>∃a6,∃a7,∃a8,∃a9,∃b0,∃b1,∃a3,∃a4,∃d4,i7=T #[A #[I J a6,I J a7,P a8,I J a9,I J b0,P b1,B a3,B a4],B d4]/\(((!d4)=true->(Ca a5 142 #[A #[I J a,I J b,P k,I J d,I J e,P l,I J f,I J g,P m],A #[I J b2,I J b3,P b4,I J b5,I J b6,P b7,I J b8,I J b9,P c0]] fun i8 d5=>∃w,∃x,∃y,∃z,∃a0,∃a1,∃d6,i8=T #[A #[I J w,I J x,P y,I J z,I J a0,P a1],B d6]/\(∃c1:Bool->VP,(((!d6)=true->(∃e1:Bool,(sm 0/\sm 0/\(true=e1)/\s11 (0:Int) (0:Int) (none:OA) (0:Int) (0:Int) (none:OA) w x y z a0 (sm a1))/\c1 e1 d5))/\((!d6)=false->(Ca d5 101 #[A #[I J a,I J b,P k,I J d,I J e,P l,I J f,I J g,P m],A #[I J w,I J x,P y,I J z,I J a0,P a1]] fun i9 k0=>∃e2,∃e3,∃e4,i9=A #[I J e2,I J e3,P e4]/\(Ca k0 124 #[A #[I J i,I J n,P o,I J p,I J q,P r,B s,B t],A #[I J e2,I J e3,P e4]] fun k1 e5=>∃d7,k1=B d7/\(((!d7)=true->(∃e6:Bool,(sm 0/\sm 0/\(true=e6)/\s11 (0:Int) (0:Int) (none:OA) (0:Int) (0:Int) (none:OA) w x y z a0 (sm a1))/\c1 e6 e5))/\((!d7)=false->(Ca e5 101 #[A #[I J b2,I J b3,P b4,I J b5,I J b6,P b7,I J b8,I J b9,P c0],A #[I J w,I J x,P y,I J z,I J a0,P a1]] fun k2 k3=>∃e7,∃e8,∃e9,k2=A #[I J e7,I J e8,P e9]/\(Ca k3 124 #[A #[I J c6,I J c7,P c8,I J c9,I J d0,P d1,B d2,B d3],A #[I J e7,I J e8,P e9]] fun k4 k5=>∃f0,k4=B f0/\(∃f1:Bool,(sm 0/\sm 0/\((!f0)=f1)/\s11 (0:Int) (0:Int) (none:OA) (0:Int) (0:Int) (none:OA) w x y z a0 (sm a1))/\c1 f1 k5)))))))))/\∀(d8:Bool) (c2:View),d5.Le c2->c1 d8 c2->(true=true/\((d8=true->(Rt c2 R (T #[A #[I J 0,I J 0,P none,I J 0,I J 0,P none],B false])))/\(d8=false->(Rt c2 R (T #[A #[I J w,I J x,P y,I J z,I J a0,P a1],B true]))))))))/\((!d4)=false->(∃c3:Bool->VP,(((!t)=true->(((!a3)=true->(Ca a5 143 #[A #[I J p,I J q,P r],A #[I J a6,I J a7,P a8]] fun k6 k7=>∃f4,k6=B f4/\(∃f5:Bool,(s3 0 0 0 ((f4=f5)/\s12 a b k d e l f g m i n o (s12 p q r s t (0:Int) (0:Int) (none:OA) (0:Int) (0:Int) (none:OA) a6 (s6 a7 a8 a9 b0 b1 a3 (sm a4)))))/\c3 f5 k7)))/\((!a3)=false->(∃f6:Bool,(s3 0 0 0 ((false=f6)/\s12 a b k d e l f g m i n o (s12 p q r s t (0:Int) (0:Int) (none:OA) (0:Int) (0:Int) (none:OA) a6 (s6 a7 a8 a9 b0 b1 a3 (sm a4)))))/\c3 f6 a5))))/\((!t)=false->(∃f7:Bool,(s3 0 0 0 ((false=f7)/\s12 a b k d e l f g m i n o (s12 p q r s t (0:Int) (0:Int) (none:OA) (0:Int) (0:Int) (none:OA) a6 (s6 a7 a8 a9 b0 b1 a3 (sm a4)))))/\c3 f7 a5)))/\∀(d9:Bool) (a2:View),a5.Le a2->c3 d9 a2->(true=true/\((d9=true->(Ca a2 118 #[A #[I J a,I J b,P k,I J d,I J e,P l,I J f,I J g,P m],A #[I J p,I J q,P r]] fun k8 k9=>∃f8,∃f9,∃g0,∃g1,∃g2,∃g3,k8=A #[I J f8,I J f9,P g0,I J g1,I J g2,P g3]/\(Rt k9 R (T #[A #[I J f8,I J f9,P g0,I J g1,I J g2,P g3],B true]))))/\(d9=false->(∃c4:Bool->VP,(((!s)=true->(((!a4)=true->(Ca a2 143 #[A #[I J i,I J n,P o],A #[I J a9,I J b0,P b1]] fun l0 l1=>∃g5,l0=B g5/\(∃g6:Bool,(sm 0/\sm 0/\(g5=g6)/\s12 a b k d e l f g m i n o (s10 p q r s t (0:Int) (0:Int) (none:OA) (0:Int) (0:Int) (((none:OA)=none))))/\c4 g6 l1)))/\((!a4)=false->(∃g7:Bool,(sm 0/\sm 0/\(false=g7)/\s12 a b k d e l f g m i n o (s10 p q r s t (0:Int) (0:Int) (none:OA) (0:Int) (0:Int) (((none:OA)=none))))/\c4 g7 a2))))/\((!s)=false->(∃g8:Bool,(sm 0/\sm 0/\(false=g8)/\s12 a b k d e l f g m i n o (s10 p q r s t (0:Int) (0:Int) (none:OA) (0:Int) (0:Int) (((none:OA)=none))))/\c4 g8 a2)))/\∀(e0:Bool) (c5:View),a2.Le c5->c4 e0 c5->(true=true/\((e0=true->(Ca c5 118 #[A #[I J a,I J b,P k,I J d,I J e,P l,I J f,I J g,P m],A #[I J i,I J n,P o]] fun l2 l3=>∃g9,∃i0,∃i1,∃i2,∃i3,∃i4,l2=A #[I J g9,I J i0,P i1,I J i2,I J i3,P i4]/\(Rt l3 R (T #[A #[I J g9,I J i0,P i1,I J i2,I J i3,P i4],B true]))))/\(e0=false->(Rt c5 R (T #[A #[I J 0,I J 0,P none,I J 0,I J 0,P none],B false])))))))))))))):
 Acts prog 82 #[A #[I J a,I J b,P k,I J d,I J e,P l,I J f,I J g,P m,I J i,I J n,P o,I J p,I J q,P r,B s,B t],A #[I J b2,I J b3,P b4,I J b5,I J b6,P b7,I J b8,I J b9,P c0,I J c6,I J c7,P c8,I J c9,I J d0,P d1,B d2,B d3]] V R:=
 fd (LF:=LF0) (RF:=[1000007]) [] [(600004,⟨Bool,false,[4,8],[4,8],fun u=>[(48,.c (.v (B u)))],fun u=>[]⟩),(600007,⟨Bool,false,[2,4,6],[2,4,6],fun u=>[(51,.c (.v (B u)))],fun u=>[]⟩),(600009,⟨Bool,false,[2,4],[2,4],fun u=>[(75,.c (.v (B u)))],fun u=>[]⟩)] func82 h
theorem vc_geo_Fr_onto (a b:Int) (c:OA) (d e:Int) (f:OA) (g i:Int) (k:OA) (l m:Int) (n:OA) (o p:Int) (q:OA) (r s:Bool) (t u:Int) (w:OA) (x y:Int) (z:OA) (a0 a1:Int) (a2:OA) (V:View) (R:VR) (h:(Ca V 182 #[A #[I J a,I J b,P c,I J d,I J e,P f,I J g,I J i,P k],A #[I J t,I J u,P w,I J x,I J y,P z,I J a0,I J a1,P a2]] fun c7 a5=>∃a3,c7=B a3/\((a3=true->(Rt a5 R (T #[A #[I J l,I J m,P n,I J o,I J p,P q,B r,B s],B true])))/\(a3=false->(Ca a5 125 #[A #[I J t,I J u,P w,I J x,I J y,P z,I J a0,I J a1,P a2]] fun c8 c9=>∃a7,∃a8,∃a9,∃b0,∃b1,∃b2,∃b3,∃b4,∃b5,c8=A #[I J a7,I J a8,P a9,I J b0,I J b1,P b2,I J b3,I J b4,P b5]/\(Ca c9 182 #[A #[I J a,I J b,P c,I J d,I J e,P f,I J g,I J i,P k],A #[I J a7,I J a8,P a9,I J b0,I J b1,P b2,I J b3,I J b4,P b5]] fun d0 b6=>∃a4,d0=B a4/\((a4=true->(Ca b6 126 #[A #[I J l,I J m,P n,I J o,I J p,P q,B r,B s]] fun d1 d2=>∃b7,∃b8,∃b9,∃c0,∃c1,∃c2,∃c3,∃c4,d1=A #[I J b7,I J b8,P b9,I J c0,I J c1,P c2,B c3,B c4]/\(Rt d2 R (T #[A #[I J b7,I J b8,P b9,I J c0,I J c1,P c2,B c3,B c4],B true]))))/\(a4=false->(Rt b6 R (T #[A #[I J 0,I J 0,P none,I J 0,I J 0,P none,B false,B false],B false])))))))))):
 Acts prog 141 #[A #[I J a,I J b,P c,I J d,I J e,P f,I J g,I J i,P k,I J l,I J m,P n,I J o,I J p,P q,B r,B s],A #[I J t,I J u,P w,I J x,I J y,P z,I J a0,I J a1,P a2]] V R:=
 fd (LF:=LF0) (RF:=[1000007]) [] [] func141 h
theorem vc_fragment_Meet (e:Bool) (f:OA) (g i:Nat) (k:Bool) (l:OA) (m n:Nat) (o:Bool) (p:OA) (q r:Nat) (s:Bool) (t:OA) (u w:Nat) (x:OA) (y z:Nat) (a0:Bool) (a1:OA) (a2 a3:Nat) (a4:OA) (a5 a6:Nat) (a7 a8 a9:Bool) (b0:OA) (b1 b2:Nat) (b3:Bool) (b4:OA) (b5 b6:Nat) (b7:Bool) (b8:OA) (b9 c0:Nat) (c1:Bool) (c2:OA) (c3 c4:Nat) (c5:OA) (c6 c7:Nat) (c8:Bool) (c9:OA) (d0 d1:Nat) (d2:OA) (d3 d4:Nat) (d5 d6:Bool) (V:View) (R:VR) (h:(Ca V 66 #[A #[B e,S f g i,B k,S l m n,B o,S p q r,B s,S t u w,S x y z,B a0,S a1 a2 a3,S a4 a5 a6,B a7,B a8]] fun m0 m1=>∃d7,∃d8,∃d9,∃e0,∃e1,∃e2,∃e3,∃e4,∃e5,∃e6,∃e7,∃e8,∃e9,∃f0,∃f1,∃f2,∃f3,∃b,m0=T #[A #[I J d7,I J d8,P d9,I J e0,I J e1,P e2,I J e3,I J e4,P e5,I J e6,I J e7,P e8,I J e9,I J f0,P f1,B f2,B f3],B b]/\(Ca m1 66 #[A #[B a9,S b0 b1 b2,B b3,S b4 b5 b6,B b7,S b8 b9 c0,B c1,S c2 c3 c4,S c5 c6 c7,B c8,S c9 d0 d1,S d2 d3 d4,B d5,B d6]] fun m2 a=>∃f4,∃f5,∃f6,∃f7,∃f8,∃f9,∃g0,∃g1,∃g2,∃g3,∃g4,∃g5,∃g6,∃g7,∃g8,∃g9,∃i0,∃c,m2=T #[A #[I J f4,I J f5,P f6,I J f7,I J f8,P f9,I J g0,I J g1,P g2,I J g3,I J g4,P g5,I J g6,I J g7,P g8,B g9,B i0],B c]/\(((!b)=true->(∃i1,(∃i2,(some ⟨0,0,none⟩:OA)=some i2/\a.at i2 (i1))/\(Rt a R (T #[A #[B false,S none 0 0,S none 0 0,B false,S none 0 0,S none 0 0],B false,i1]))))/\((!b)=false->(((!c)=true->(∃i4,(∃i5,(some ⟨0,0,none⟩:OA)=some i5/\a.at i5 (i4))/\(Rt a R (T #[A #[B false,S none 0 0,S none 0 0,B false,S none 0 0,S none 0 0],B false,i4]))))/\((!c)=false->(Ca a 82 #[A #[I J d7,I J d8,P d9,I J e0,I J e1,P e2,I J e3,I J e4,P e5,I J e6,I J e7,P e8,I J e9,I J f0,P f1,B f2,B f3],A #[I J f4,I J f5,P f6,I J f7,I J f8,P f9,I J g0,I J g1,P g2,I J g3,I J g4,P g5,I J g6,I J g7,P g8,B g9,B i0]] fun m3 i7=>∃i8,∃i9,∃k0,∃k1,∃k2,∃k3,∃d,m3=T #[A #[I J i8,I J i9,P k0,I J k1,I J k2,P k3],B d]/\(((!d)=true->(Rt i7 R (T #[A #[B false,S none 0 0,S none 0 0,B false,S none 0 0,S none 0 0],B false,.nilIface])))/\((!d)=false->(Ca i7 83 #[A #[I J i8,I J i9,P k0,I J k1,I J k2,P k3]] fun m4 m5=>∃k5,∃k6 k7 k8,∃k9 l0 l1,∃l2,∃l3 l4 l5,∃l6 l7 l8,m4=A #[B k5,S k6 k7 k8,S k9 l0 l1,B l2,S l3 l4 l5,S l6 l7 l8]/\(Rt m5 R (T #[A #[B k5,S k6 k7 k8,S k9 l0 l1,B l2,S l3 l4 l5,S l6 l7 l8],B true,.nilIface]))))))))))))):
 Acts prog 35 #[A #[B e,S f g i,B k,S l m n,B o,S p q r,B s,S t u w,S x y z,B a0,S a1 a2 a3,S a4 a5 a6,B a7,B a8],A #[B a9,S b0 b1 b2,B b3,S b4 b5 b6,B b7,S b8 b9 c0,B c1,S c2 c3 c4,S c5 c6 c7,B c8,S c9 d0 d1,S d2 d3 d4,B d5,B d6]] V R:=
 fd (LF:=LF0) (RF:=[1000007]) [] [] func35 h
end Go.Proofs.Tryz
/- Contracts: the parts of a fragment on the sides of a line; the only common point of two fragments. -/
namespace Go.Proofs.Tryz
open Go.Eng Go.Big
theorem c_frac_Max {V:View} {v w:Value} {x y:Rat} (hx:RR V v x) (hy:RR V w y) {k:Nat} (sx:Sz k x) (sy:Sz k y) (hk:2 * k < 1099511627776) :
  Acts prog 189 #[v,w] V fun r V'=>RR V' r (maxQ x y):=by
 have hx0:=hx
 have hy0:=hy
 obtain ⟨a,b,c,rfl⟩:=hx.shape
 obtain ⟨d,e,f,rfl⟩:=hy.shape
 refine vc_frac_Max a b c d e f V _ fun V1 l1=>(c_R_Cmp (hy0.le l1) (hx0.le l1) sy sx (by omega)).mono ?_
 rintro r V2 l2 rfl
 unfold maxQ
 exact ⟨_,rfl,fun h V3 l3=>by rw [if_pos (of_decide_eq_true h)]; exact hy0.le (l1.trans (l2.trans l3)),fun h V4 l4=>by rw [if_neg (of_decide_eq_false h)]; exact hx0.le (l1.trans (l2.trans l4))⟩
theorem c_frac_Min {V:View} {v w:Value} {x y:Rat} (hx:RR V v x) (hy:RR V w y) {k:Nat} (sx:Sz k x) (sy:Sz k y) (hk:2 * k < 1099511627776) :
  Acts prog 190 #[v,w] V fun r V'=>RR V' r (minQ x y):=by
 have hx0:=hx
 have hy0:=hy
 obtain ⟨a,b,c,rfl⟩:=hx.shape
 obtain ⟨d,e,f,rfl⟩:=hy.shape
 refine vc_frac_Min a b c d e f V _ fun V1 l1=>(c_R_Cmp (hy0.le l1) (hx0.le l1) sy sx (by omega)).mono ?_
 rintro r V2 l2 rfl
 unfold minQ
 exact ⟨_,rfl,fun h V3 l3=>by rw [if_pos (of_decide_eq_true h)]; exact hy0.le (l1.trans (l2.trans l3)),fun h V4 l4=>by rw [if_neg (of_decide_eq_false h)]; exact hx0.le (l1.trans (l2.trans l4))⟩
theorem Sp.meet_sz {v w:Sp} {k:Nat} (h1:v.sz k) (h2:w.sz k):(v.meet w).sz k:=by
 unfold Sp.meet Sp.sz maxQ minQ
 constructor <;> dsimp only
 ·split
  ·exact h2.1
  ·split
   ·exact h1.1
   ·split
    ·exact h2.1
    ·exact h1.1
 ·split
  ·exact h2.2
  ·split
   ·exact h1.2
   ·split
    ·exact h2.2
    ·exact h1.2
theorem c_Iv_Meet {V:View} {v w:Value} {s t:Sp} (h:RIv V v s) (h':RIv V w t) {k:Nat} (hs:s.sz k) (ht:t.sz k) (hk:2 * k < 1099511627776) :
  Acts prog 146 #[v,w] V fun r V'=>∃u,r=.tuple #[u,.bool (!(s.meet t).emp)]/\RIv V' u (s.meet t):=by
 obtain ⟨x1,x2,p,y1,y2,q,rfl,h1,h2⟩:=h
 obtain ⟨u1,u2,o,w1,w2,j,rfl,g1,g2⟩:=h'
 have lo1:s.a=true->(s.meet t).lo=t.lo/\(s.meet t).a=t.a:=fun e=>by simp [Sp.meet,e]
 have lo2:s.a=false->t.a=false->(s.meet t).lo=maxQ s.lo t.lo:=fun e e'=>by simp [Sp.meet,e,e']
 have lo3:s.a=false->t.a=true->(s.meet t).lo=s.lo:=fun e e'=>by simp [Sp.meet,e,e']
 have lo4:s.a=false->(s.meet t).a=s.a:=fun e=>by simp [Sp.meet,e]
 have hi1:s.b=true->(s.meet t).hi=t.hi/\(s.meet t).b=t.b:=fun e=>by simp [Sp.meet,e]
 have hi2:s.b=false->t.b=false->(s.meet t).hi=minQ s.hi t.hi:=fun e e'=>by simp [Sp.meet,e,e']
 have hi3:s.b=false->t.b=true->(s.meet t).hi=s.hi:=fun e e'=>by simp [Sp.meet,e,e']
 have hi4:s.b=false->(s.meet t).b=s.b:=fun e=>by simp [Sp.meet,e]
 refine vc_geo_Iv_Meet x1 x2 p y1 y2 q s.a s.b u1 u2 o w1 w2 j t.a t.b V _ ⟨fun z V1=>RR V1 (.agg #[.int .i64 z.1,.int .i64 z.2.1,.pointer z.2.2.1]) (s.meet t).lo/\RR V1 (.agg #[.int .i64 z.2.2.2.1,.int .i64 z.2.2.2.2.1,.pointer z.2.2.2.2.2.1]) s.hi/\z.2.2.2.2.2.2.1=(s.meet t).a/\z.2.2.2.2.2.2.2=s.b,⟨fun ha=>?_,fun ha=>⟨fun hb V1 l1=>(c_frac_Max (h1.le l1) (g1.le l1) hs.1 ht.1 hk).mono ?_,fun hb=>?_⟩⟩,?_⟩
 ·refine ⟨(u1,u2,o,y1,y2,q,t.a,s.b),by and_intros <;> rfl,?_,h2,(lo1 ha).2.symm,rfl⟩
  rw [(lo1 ha).1]; exact g1
 ·rintro r V2 l2 g
  rw [Bool.not_eq_true'] at hb
  have g0:=g
  obtain ⟨a1,a2,a3,rfl⟩:=g.shape
  refine ⟨_,_,_,rfl,(a1,a2,a3,y1,y2,q,s.a,s.b),by and_intros <;> rfl,?_,h2.le (l1.trans l2),(lo4 ha).symm,rfl⟩
  rw [lo2 ha hb]; exact g0
 ·rw [Bool.not_eq_false'] at hb
  refine ⟨(x1,x2,p,y1,y2,q,s.a,s.b),by and_intros <;> rfl,?_,h2,(lo4 ha).symm,rfl⟩
  rw [lo3 ha hb]; exact h1
 ·rintro ⟨z1,z2,z3,z4,z5,z6,z7,z8⟩ V3 l3 ⟨k1,k2,k3,k4⟩
  dsimp only at k1 k2 k3 k4
  subst k3 k4
  refine ⟨rfl,fun z V1=>RR V1 (.agg #[.int .i64 z.1,.int .i64 z.2.1,.pointer z.2.2.1]) (s.meet t).lo/\RR V1 (.agg #[.int .i64 z.2.2.2.1,.int .i64 z.2.2.2.2.1,.pointer z.2.2.2.2.2.1]) (s.meet t).hi/\z.2.2.2.2.2.2.1=(s.meet t).a/\z.2.2.2.2.2.2.2=(s.meet t).b,⟨fun ha=>?_,fun ha=>⟨fun hb V4 l4=>(c_frac_Min (h2.le (l3.trans l4)) (g2.le (l3.trans l4)) hs.2 ht.2 hk).mono ?_,fun hb=>?_⟩⟩,?_⟩
  ·refine ⟨(z1,z2,z3,w1,w2,j,(s.meet t).a,t.b),by and_intros <;> rfl,k1,?_,rfl,(hi1 ha).2.symm⟩
   rw [(hi1 ha).1]; exact g2.le l3
  ·rintro r V5 l5 g
   rw [Bool.not_eq_true'] at hb
   have g0:=g
   obtain ⟨a1,a2,a3,rfl⟩:=g.shape
   refine ⟨_,_,_,rfl,(z1,z2,z3,a1,a2,a3,(s.meet t).a,s.b),by and_intros <;> rfl,k1.le (l4.trans l5),?_,rfl,(hi4 ha).symm⟩
   rw [hi2 ha hb]; exact g0
  ·rw [Bool.not_eq_false'] at hb
   refine ⟨(z1,z2,z3,z4,z5,z6,(s.meet t).a,s.b),by and_intros <;> rfl,k1,?_,rfl,(hi4 ha).symm⟩
   rw [hi3 ha hb]; exact k2
  ·rintro ⟨y1,y2,y3,y4,y5,y6,y7,y8⟩ V6 l6 ⟨j1,j2,j3,j4⟩
   dsimp only at j1 j2 j3 j4
   subst j3 j4
   refine ⟨rfl,fun V7 l7=>(c_Iv_empty ⟨_,_,_,_,_,_,rfl,j1.le l7,j2.le l7⟩ (Sp.meet_sz hs ht) hk).mono ?_⟩
   rintro r V8 l8 rfl
   exact ⟨_,rfl,fun V9 l9=>⟨_,rfl,_,_,_,_,_,_,rfl,j1.le (l7.trans (l8.trans l9)),j2.le (l7.trans (l8.trans l9))⟩⟩
/-- A list of fragments of package geo. -/
structure RFrs (V:View) (p:OA) (n:Nat) (fs:List (L3 × Sp)):Prop where
 len:n=fs.length
 at_:∀(i:Nat) (h:i < fs.length),∃ad,addrAdd p (i * 17)=some ad/\∃xs:List Value,RFr V (.agg xs.toArray) fs[i].1 fs[i].2/\∀j x,xs[j]?=some x->V.at (ad.add j) x
theorem RFrs.le {V V':View} {p:OA} {n:Nat} {fs:List (L3 × Sp)} (h:RFrs V p n fs) (e:V.Le V'):RFrs V' p n fs:=⟨h.len,fun i hi=>by obtain ⟨ad,h1,xs,h2,h3⟩:=h.at_ i hi; exact ⟨ad,h1,xs,h2.le e,fun j x hx=>e.at (h3 j x hx)⟩⟩
theorem RFrs.nil {V:View}:RFrs V none 0 []:=⟨rfl,fun i hi=>by simp at hi⟩
theorem RFrs.one {V:View} {bk:Nat} {xs:List Value} {ty:TypeId} {l:L3} {s:Sp} (hb:V.blk bk (.cells xs.toArray ty (0,0))) (hf:RFr V (.agg xs.toArray) l s):RFrs V (some ⟨bk,0,none⟩) 1 [(l,s)]:=by
 refine ⟨rfl,fun i hi=>?_⟩
 obtain rfl:i=0:=by simpa using hi
 refine ⟨⟨bk,0,none⟩,by simp [addrAdd,add_zero'],_,hf,fun j x hx=>?_⟩
 rw [add_zero']
 exact blk_at hb hx
end Go.Proofs.Tryz
/- Contracts: Write of fragments; fragment.Split; the only common point: onto, Meet. -/
namespace Go.Proofs.Tryz
open Go.Eng Go.Big
/-! the only common point -/
theorem eqL_iff {L M:L3}:((L.1:Rat)=(M.1:Rat)/\(L.2.1:Rat)=(M.2.1:Rat)/\(L.2.2:Rat)=(M.2.2:Rat))↔L=M:=by
 constructor
 ·rintro ⟨h1,h2,h3⟩
  exact Prod.ext (Rat.intCast_inj.1 h1) (Prod.ext (Rat.intCast_inj.1 h2) (Rat.intCast_inj.1 h3))
 ·rintro rfl
  exact ⟨rfl,rfl,rfl⟩
theorem k_Equal {V:View} {v w:Value} {L M:L3} (hl:RLi V v L) (hm:RLi V w M) {k:Nat} (sl:SzL k L) (sm:SzL k M) (hk:k + k < 1099511627776) :
  Acts prog 182 #[v,w] V fun r V'=>r=.bool (decide (L=M)):=by
 refine (c_geo_Equal hl hm sl.1 sl.2.1 sl.2.2 sm.1 sm.2.1 sm.2.2 hk).mono ?_
 rintro r V' l rfl
 rw [decide_eq_decide.2 eqL_iff]
def IvSh (u:Value):Prop:=∃(x1 x2:Int) (p:OA) (y1 y2:Int) (q:OA) (a b:Bool),u=.agg #[.int .i64 x1,.int .i64 x2,.pointer p,.int .i64 y1,.int .i64 y2,.pointer q,.bool a,.bool b]
def PtSh (u:Value):Prop:=∃(x1 x2:Int) (p:OA) (y1 y2:Int) (q:OA),u=.agg #[.int .i64 x1,.int .i64 x2,.pointer p,.int .i64 y1,.int .i64 y2,.pointer q]
theorem c_Fr_onto {V:View} {v w:Value} {M:L3} {t:Sp} {L:L3} (h:RFr V v M t) (hl:RLi V w L) {k:Nat} (sm:SzL k M) (st:t.sz k) (sl:SzL k L) (hk:2 * k + 2 < 274877906944) :
  Acts prog 141 #[v,w] V fun r V'=>∃u,r=.tuple #[u,.bool (onB M L)]/\IvSh u/\(onB M L=true->RIv V' u (onS M t L)):=by
 have hl0:=hl
 obtain ⟨_,_,_,_,_,_,_,_,_,_,_,_,_,_,_,rfl,h1,h2⟩:=h
 obtain ⟨_,_,_,_,_,_,_,_,_,rfl,-,-,-⟩:=hl
 refine vc_geo_Fr_onto _ _ _ _ _ _ _ _ _ _ _ _ _ _ _ _ _ _ _ _ _ _ _ _ _ _ V _ fun V1 l1=>(k_Equal (h1.le l1) (hl0.le l1) sm sl (by omega)).mono ?_
 rintro r V2 l2 rfl
 refine ⟨_,rfl,fun he V3 l3=>?_,fun he V4 l4=>(k_Reverse (hl0.le (l1.trans (l2.trans l4))) sl (by omega)).mono ?_⟩
 ·have he:=of_decide_eq_true he
  have e1:onB M L=true:=by unfold onB; simp [he]
  have e2:onS M t L=t:=if_pos he
  rw [e1,e2]
  exact ⟨_,rfl,⟨_,_,_,_,_,_,_,_,rfl⟩,fun _=>h2.le (l1.trans (l2.trans l3))⟩
 ·have he:=of_decide_eq_false he
  rintro r V5 l5 g
  have g0:=g
  obtain ⟨_,_,_,_,_,_,_,_,_,rfl,-,-,-⟩:=g
  have L4:=l1.trans (l2.trans (l4.trans l5))
  refine ⟨_,_,_,_,_,_,_,_,_,rfl,fun V6 l6=>(k_Equal (h1.le (L4.trans l6)) (g0.le l6) sm sl.rev (by omega)).mono ?_⟩
  rintro r V7 l7 rfl
  refine ⟨_,rfl,fun h' V8 l8=>(c_Iv_Neg (h2.le (L4.trans (l6.trans (l7.trans l8)))) st (by omega)).mono ?_,fun h' V11 l11=>?_⟩
  ·have e1:onB M L=true:=by unfold onB; rw [h',Bool.or_true]
   have e2:onS M t L=t.neg:=if_neg he
   rw [e1,e2]
   rintro r V9 l9 g2
   have g20:=g2
   obtain ⟨_,_,_,_,_,_,rfl,-,-⟩:=g2
   exact ⟨_,_,_,_,_,_,_,_,rfl,fun V10 l10=>⟨_,rfl,⟨_,_,_,_,_,_,_,_,rfl⟩,fun _=>g20.le l10⟩⟩
  ·have e1:onB M L=false:=by unfold onB; rw [h',decide_eq_false he]; rfl
   rw [e1]
   exact ⟨_,rfl,⟨_,_,_,_,_,_,_,_,rfl⟩,(fun h=>nomatch h)⟩
theorem sz_cross {L M:L3} {k:Nat} (sl:SzL k L) (sm:SzL k M):Sz (4 * k + 3) (crossL L M):=z_geo_Pt_Cross_0 sl.1 sl.2.1 sm.1 sm.2.1
theorem sz_me {L M:L3} {k:Nat} (sl:SzL k L) (sm:SzL k M):Sz (10 * k + 10) (meX L M)/\Sz (10 * k + 10) (meY L M):=
 ⟨Sz.mono (((sl.2.1.mul sm.2.2).sub (sl.2.2.mul sm.2.1)).mul (sz_inv (sz_cross sl sm))) (by omega),Sz.mono (((sl.2.2.mul sm.1).sub (sl.1.mul sm.2.2)).mul (sz_inv (sz_cross sl sm))) (by omega)⟩
theorem c_Ln_Meet {V:View} {l m:Value} {L M:L3} (hl:RLi V l L) (hm:RLi V m M) {k:Nat} (sl:SzL k L) (sm:SzL k M) (hk:20 * k + 20 < 274877906944) :
  Acts prog 142 #[l,m] V fun r V'=>∃w,r=.tuple #[w,.bool (decide (crossL L M≠0))]/\PtSh w/\(crossL L M≠0->RPt V' w (meX L M) (meY L M)):=by
 have hl0:=hl
 have hm0:=hm
 obtain ⟨_,_,_,_,_,_,_,_,_,rfl,a1,a2,a3⟩:=hl
 obtain ⟨_,_,_,_,_,_,_,_,_,rfl,b1,b2,b3⟩:=hm
 have sd:=sz_cross sl sm
 refine vc_geo_Ln_Meet _ _ _ _ _ _ _ _ _ _ _ _ _ _ _ _ _ _ V _ fun V1 l1=>(c_geo_Ln_Normal (hl0.le l1) sl.1 sl.2.1 sl.2.2 (by omega)).mono ?_
 rintro r V2 l2 g1
 have g10:=g1
 obtain ⟨_,_,_,_,_,_,rfl,-,-⟩:=g1
 refine ⟨_,_,_,_,_,_,rfl,fun V3 l3=>(c_geo_Ln_Normal (hm0.le (l1.trans (l2.trans l3))) sm.1 sm.2.1 sm.2.2 (by omega)).mono ?_⟩
 rintro r V4 l4 g2
 have g20:=g2
 obtain ⟨_,_,_,_,_,_,rfl,-,-⟩:=g2
 refine ⟨_,_,_,_,_,_,rfl,fun V5 l5=>(c_geo_Pt_Cross (g10.le (l3.trans (l4.trans l5))) (g20.le l5) sl.1 sl.2.1 sm.1 sm.2.1 (by omega)).mono ?_⟩
 rintro r V6 l6 g3
 have g30:RR V6 r (crossL L M):=g3
 obtain ⟨_,_,_,rfl⟩:=g3.shape
 have L6:V.Le V6:=l1.trans (l2.trans (l3.trans (l4.trans (l5.trans l6))))
 refine ⟨_,_,_,rfl,fun V7 l7=>(c_R_Zero (g30.le l7)).mono ?_⟩
 rintro r V8 l8 rfl
 have L8:=l7.trans l8
 refine ⟨_,rfl,fun h V9 l9=>?_,fun h V10 l10=>(c_R_Mul (a2.le (L6.trans (L8.trans l10))) (b3.le (L6.trans (L8.trans l10))) sl.2.1 sm.2.2 (by omega)).mono ?_⟩
 ·have h:=of_decide_eq_true h
  have e:decide (crossL L M≠0)=false:=by simp [h]
  rw [e]
  exact ⟨_,rfl,⟨_,_,_,_,_,_,rfl⟩,fun h'=>absurd h h'⟩
 ·have h:=of_decide_eq_false h
  have e:decide (crossL L M≠0)=true:=by simp [h]
  rw [e]
  have L10:=L6.trans (L8.trans l10)
  rintro r V11 l11 q1
  have q10:=q1
  obtain ⟨_,_,_,rfl⟩:=q1.shape
  refine ⟨_,_,_,rfl,fun V12 l12=>(c_R_Mul (a3.le (L10.trans (l11.trans l12))) (b2.le (L10.trans (l11.trans l12))) sl.2.2 sm.2.1 (by omega)).mono ?_⟩
  rintro r V13 l13 q2
  have q20:=q2
  obtain ⟨_,_,_,rfl⟩:=q2.shape
  refine ⟨_,_,_,rfl,fun V14 l14=>(c_R_Sub (q10.le (l12.trans (l13.trans l14))) (q20.le l14) (sl.2.1.mul sm.2.2) (sl.2.2.mul sm.2.1) (by omega)).mono ?_⟩
  rintro r V15 l15 q3
  have q30:=q3
  obtain ⟨_,_,_,rfl⟩:=q3.shape
  have L15:V10.Le V15:=l11.trans (l12.trans (l13.trans (l14.trans l15)))
  refine ⟨_,_,_,rfl,fun V16 l16=>(c_R_Quo (q30.le l16) (g30.le (L8.trans (l10.trans (L15.trans l16)))) ((sl.2.1.mul sm.2.2).sub (sl.2.2.mul sm.2.1)) sd (by omega)).mono ?_⟩
  rintro r V17 l17 q4
  have q40:RR V17 r (meX L M):=q4
  obtain ⟨_,_,_,rfl⟩:=q4.shape
  have L17:V.Le V17:=L10.trans (L15.trans (l16.trans l17))
  refine ⟨_,_,_,rfl,fun V18 l18=>(c_R_Mul (a3.le (L17.trans l18)) (b1.le (L17.trans l18)) sl.2.2 sm.1 (by omega)).mono ?_⟩
  rintro r V19 l19 p1
  have p10:=p1
  obtain ⟨_,_,_,rfl⟩:=p1.shape
  refine ⟨_,_,_,rfl,fun V20 l20=>(c_R_Mul (a1.le (L17.trans (l18.trans (l19.trans l20)))) (b3.le (L17.trans (l18.trans (l19.trans l20)))) sl.1 sm.2.2 (by omega)).mono ?_⟩
  rintro r V21 l21 p2
  have p20:=p2
  obtain ⟨_,_,_,rfl⟩:=p2.shape
  refine ⟨_,_,_,rfl,fun V22 l22=>(c_R_Sub (p10.le (l20.trans (l21.trans l22))) (p20.le l22) (sl.2.2.mul sm.1) (sl.1.mul sm.2.2) (by omega)).mono ?_⟩
  rintro r V23 l23 p3
  have p30:=p3
  obtain ⟨_,_,_,rfl⟩:=p3.shape
  have L23:V17.Le V23:=l18.trans (l19.trans (l20.trans (l21.trans (l22.trans l23))))
  refine ⟨_,_,_,rfl,fun V24 l24=>(c_R_Quo (p30.le l24) (g30.le (L8.trans (l10.trans (L15.trans (l16.trans (l17.trans (L23.trans l24))))))) ((sl.2.2.mul sm.1).sub (sl.1.mul sm.2.2)) sd (by omega)).mono ?_⟩
  rintro r V25 l25 p4
  have p40:RR V25 r (meY L M):=p4
  obtain ⟨_,_,_,rfl⟩:=p4.shape
  exact ⟨_,_,_,rfl,fun V26 l26=>⟨_,rfl,⟨_,_,_,_,_,_,rfl⟩,fun _=>⟨_,_,_,_,_,_,rfl,q40.le (L23.trans (l24.trans (l25.trans l26))),p40.le l26⟩⟩⟩
theorem c_Fr_Meet {V:View} {v w:Value} {L:L3} {s:Sp} {M:L3} {t:Sp} (h:RFr V v L s) (h':RFr V w M t) {k:Nat} (sl:SzL k L) (ss:s.sz k) (sm:SzL k M) (st:t.sz k) (hk:400 * k + 400 < 274877906944) :
  Acts prog 82 #[v,w] V fun r V'=>∃u,r=.tuple #[u,.bool (mtB L s M t)]/\PtSh u/\(mtB L s M t=true->RPt V' u (mtX L s M t) (mtY L s M t)):=by
 have h0':=h'
 obtain ⟨_,_,_,_,_,_,_,_,_,_,_,_,_,_,_,rfl,h1,h2⟩:=h
 obtain ⟨_,_,_,_,_,_,_,_,_,_,_,_,_,_,_,rfl,g1,g2⟩:=h'
 have h20:=h2
 obtain ⟨_,_,_,_,_,_,e2,h3,h4⟩:=h2
 simp only [Value.agg.injEq,Array.mk.injEq,List.cons.injEq,Value.int.injEq,Value.pointer.injEq,true_and,and_true] at e2
 obtain ⟨rfl,rfl,rfl,rfl,rfl,rfl⟩:=e2
 refine vc_geo_Fr_Meet _ _ _ _ _ _ _ _ _ _ _ _ _ _ _ _ _ _ _ _ _ _ _ _ _ _ _ _ _ _ _ _ _ _ V _ fun V1 l1=>(c_Fr_onto (h0'.le l1) (h1.le l1) sm st sl (by omega)).mono ?_
 rintro r V2 l2 ⟨u,rfl,k0,k1⟩
 have L2:=l1.trans l2
 obtain ⟨m1,m2⟩:=sz_me sl sm
 have ss':s.sz (100 * k + 100):=⟨ss.1.mono (by omega),ss.2.mono (by omega)⟩
 have st':t.sz (100 * k + 100):=⟨st.1.mono (by omega),st.2.mono (by omega)⟩
 have sl':SzL (10 * k + 10) L:=⟨sl.1.mono (by omega),sl.2.1.mono (by omega),sl.2.2.mono (by omega)⟩
 have sm':SzL (10 * k + 10) M:=⟨sm.1.mono (by omega),sm.2.1.mono (by omega),sm.2.2.mono (by omega)⟩
 cases ho:onB M L with
 | false=>
  have e1:mtB L s M t=offB L s M t:=by unfold mtB; rw [ho]; rfl
  have e2:mtX L s M t=meX L M:=by unfold mtX; rw [ho]; rfl
  have e3:mtY L s M t=meY L M:=by unfold mtY; rw [ho]; rfl
  rw [e1,e2,e3]
  obtain ⟨_,_,_,_,_,_,_,_,rfl⟩:=k0
  refine ⟨_,_,_,_,_,_,_,_,_,rfl,fun _ V3 l3=>(c_Ln_Meet (h1.le (L2.trans l3)) (g1.le (L2.trans l3)) sl sm (by omega)).mono ?_,(fun h=>nomatch h)⟩
  rintro r V4 l4 ⟨u,rfl,⟨_,_,_,_,_,_,rfl⟩,gp⟩
  have L4:=L2.trans (l3.trans l4)
  refine ⟨_,_,_,_,_,_,_,rfl,fun z _=>z=!offB L s M t,⟨fun hz=>⟨true,by and_intros <;> rfl,?_⟩,fun hz V5 l5=>?_⟩,?_⟩
  ·rw [Bool.not_eq_true'] at hz
   unfold offB; rw [hz]; rfl
  ·rw [Bool.not_eq_false'] at hz
   have gp:=gp (of_decide_eq_true hz)
   refine (k_Param (h1.le (L4.trans l5)) (gp.le l5) sl' m1 m2 (by omega)).mono ?_
   rintro r V6 l6 q1
   have q10:=q1
   obtain ⟨_,_,_,rfl⟩:=q1.shape
   refine ⟨_,_,_,rfl,fun V7 l7=>(c_Iv_Has (h20.le (L4.trans (l5.trans (l6.trans l7)))) (q10.le l7) ss' ((sz_parL sl' m1 m2).mono (by omega)) (by omega)).mono ?_⟩
   rintro r V8 l8 rfl
   refine ⟨_,rfl,fun hy=>⟨true,by and_intros <;> rfl,?_⟩,fun hy V9 l9=>(k_Param (g1.le (L4.trans (l5.trans (l6.trans (l7.trans (l8.trans l9)))))) (gp.le (l5.trans (l6.trans (l7.trans (l8.trans l9))))) sm' m1 m2 (by omega)).mono ?_⟩
   ·rw [Bool.not_eq_true'] at hy
    unfold offB; rw [hz,hy]; rfl
   ·rw [Bool.not_eq_false'] at hy
    rintro r V10 l10 q2
    have q20:=q2
    obtain ⟨_,_,_,rfl⟩:=q2.shape
    refine ⟨_,_,_,rfl,fun V11 l11=>(c_Iv_Has (g2.le (L4.trans (l5.trans (l6.trans (l7.trans (l8.trans (l9.trans (l10.trans l11)))))))) (q20.le l11) st' ((sz_parL sm' m1 m2).mono (by omega)) (by omega)).mono ?_⟩
    rintro r V12 l12 rfl
    exact ⟨_,rfl,_,by and_intros <;> rfl,by unfold offB; rw [hz,hy]; rfl⟩
  ·rintro z V13 l13 rfl
   refine ⟨rfl,fun hz V14 l14=>?_,fun hz V15 l15=>?_⟩
   ·rw [Bool.not_eq_true'] at hz
    rw [hz]
    exact ⟨_,rfl,⟨_,_,_,_,_,_,rfl⟩,(fun h=>nomatch h)⟩
   ·rw [Bool.not_eq_false'] at hz
    rw [hz]
    have hc:crossL L M≠0:=by
     unfold offB at hz
     simp only [Bool.and_eq_true,decide_eq_true_eq] at hz
     exact hz.1.1
    exact ⟨_,rfl,⟨_,_,_,_,_,_,rfl⟩,fun _=>(gp hc).le (l13.trans l15)⟩
 | true=>
  have e1:mtB L s M t=(end1 s (onS M t L) || end2 s (onS M t L)):=by unfold mtB; rw [ho]; rfl
  have e2:mtX L s M t=if end1 s (onS M t L) then atX L s.hi else atX L s.lo:=by unfold mtX; rw [ho]; rfl
  have e3:mtY L s M t=if end1 s (onS M t L) then atY L s.hi else atY L s.lo:=by unfold mtY; rw [ho]; rfl
  rw [e1,e2,e3]
  obtain ⟨_,_,_,_,_,_,rfl,k2,k3⟩:=k1 ho
  generalize hv:onS M t L=vv at k2 k3 ⊢
  have sv:vv.sz k:=by
   rw [← hv]; unfold onS; split
   ·exact st
   ·exact Sp.neg_sz st
  refine ⟨_,_,_,_,_,_,_,_,_,rfl,(fun h=>nomatch h),fun _=>⟨fun z _=>z=end1 s vv,⟨fun ha=>⟨fun hb V16 l16=>(c_R_Equal (h4.le (L2.trans l16)) (k2.le l16) ss.2 sv.1 (by omega)).mono ?_,fun hb=>⟨false,by and_intros <;> rfl,?_⟩⟩,fun ha=>⟨false,by and_intros <;> rfl,?_⟩⟩,?_⟩⟩
  ·rintro r V17 l17 rfl
   exact ⟨_,rfl,_,by and_intros <;> rfl,by unfold end1; rw [ha,hb]; rfl⟩
  ·unfold end1; rw [ha,hb]; rfl
  ·unfold end1; rw [ha]; rfl
  ·rintro z V18 l18 rfl
   refine ⟨rfl,fun hz V19 l19=>(k_At (h1.le (L2.trans (l18.trans l19))) (h4.le (L2.trans (l18.trans l19))) sl ss.2 (by omega)).mono ?_,fun hz=>⟨fun z _=>z=end2 s vv,⟨fun ha=>⟨fun hb V22 l22=>(c_R_Equal (h3.le (L2.trans (l18.trans l22))) (k3.le (l18.trans l22)) ss.1 sv.2 (by omega)).mono ?_,fun hb=>⟨false,by and_intros <;> rfl,?_⟩⟩,fun ha=>⟨false,by and_intros <;> rfl,?_⟩⟩,?_⟩⟩
   ·rw [hz]
    rintro r V20 l20 q
    have q0:=q
    obtain ⟨_,_,_,_,_,_,rfl,-,-⟩:=q
    exact ⟨_,_,_,_,_,_,rfl,fun V21 l21=>⟨_,rfl,⟨_,_,_,_,_,_,rfl⟩,fun _=>q0.le l21⟩⟩
   ·rintro r V23 l23 rfl
    exact ⟨_,rfl,_,by and_intros <;> rfl,by unfold end2; rw [ha,hb]; rfl⟩
   ·unfold end2; rw [ha,hb]; rfl
   ·unfold end2; rw [ha]; rfl
   ·rintro z V24 l24 rfl
    rw [hz]
    refine ⟨rfl,fun hy V25 l25=>(k_At (h1.le (L2.trans (l18.trans (l24.trans l25)))) (h3.le (L2.trans (l18.trans (l24.trans l25)))) sl ss.1 (by omega)).mono ?_,fun hy V28 l28=>?_⟩
    ·rw [hy]
     rintro r V20 l20 q
     have q0:=q
     obtain ⟨_,_,_,_,_,_,rfl,-,-⟩:=q
     exact ⟨_,_,_,_,_,_,rfl,fun V21 l21=>⟨_,rfl,⟨_,_,_,_,_,_,rfl⟩,fun _=>q0.le l21⟩⟩
    ·rw [hy]
     exact ⟨_,rfl,⟨_,_,_,_,_,_,rfl⟩,(fun h=>nomatch h)⟩
theorem sz_mt {l:L3} {s:Sp} {m:L3} {t:Sp} {k:Nat} (sl:SzL k l) (ss:s.sz k) (sm:SzL k m):Sz (20 * k + 20) (mtX l s m t)/\Sz (20 * k + 20) (mtY l s m t):=by
 obtain ⟨m1,m2⟩:=sz_me sl sm
 unfold mtX mtY
 constructor
 ·split
  ·split
   ·exact (sz_atX sl ss.2).mono (by omega)
   ·exact (sz_atX sl ss.1).mono (by omega)
  ·exact m1.mono (by omega)
 ·split
  ·split
   ·exact (sz_atY sl ss.2).mono (by omega)
   ·exact (sz_atY sl ss.1).mono (by omega)
  ·exact m2.mono (by omega)
theorem c_Meet {V:View} {v w:Value} {l:L3} {s:Sp} {m:L3} {t:Sp} (h:RFa V v l s) (h':RFa V w m t) (ho:FOk l s) (ho':FOk m t) {k:Nat} (sl:SzL k l) (ss:s.sz k) (sm:SzL k m) (st:t.sz k) (hk:400 * k + 400 < 274877906944) :
  Acts prog 35 #[v,w] V fun r V'=>∃u,r=.tuple #[u,.bool (mtB l s m t),.nilIface]/\(mtB l s m t=false->PZero u)/\(mtB l s m t=true->RAP V' u (mtX l s m t) (mtY l s m t)):=by
 have h0:=h
 have h0':=h'
 obtain ⟨_,_,_,_,_,_,_,_,_,_,_,_,_,_,_,_,_,_,_,_,_,_,_,_,_,_,rfl⟩:=fa_shape h
 obtain ⟨_,_,_,_,_,_,_,_,_,_,_,_,_,_,_,_,_,_,_,_,_,_,_,_,_,_,rfl⟩:=fa_shape h'
 refine vc_fragment_Meet _ _ _ _ _ _ _ _ _ _ _ _ _ _ _ _ _ _ _ _ _ _ _ _ _ _ _ _ _ _ _ _ _ _ _ _ _ _ _ _ _ _ _ _ _ _ _ _ _ _ _ _ _ _ _ _ V _ fun V1 l1=>(c_FrOf_ok (h0.le l1) ho sl ss (by omega)).mono ?_
 rintro r V2 l2 ⟨u,rfl,g1⟩
 have g10:=g1
 obtain ⟨_,_,_,_,_,_,_,_,_,_,_,_,_,_,_,rfl⟩:=FrSh.ex g1
 refine ⟨_,_,_,_,_,_,_,_,_,_,_,_,_,_,_,_,_,_,rfl,fun V3 l3=>(c_FrOf_ok (h0'.le (l1.trans (l2.trans l3))) ho' sm st (by omega)).mono ?_⟩
 rintro r V4 l4 ⟨u,rfl,g2⟩
 have g20:=g2
 obtain ⟨_,_,_,_,_,_,_,_,_,_,_,_,_,_,_,rfl⟩:=FrSh.ex g2
 refine ⟨_,_,_,_,_,_,_,_,_,_,_,_,_,_,_,_,_,_,rfl,(fun h=>nomatch h),fun _=>⟨(fun h=>nomatch h),fun _ V7 l7=>(c_Fr_Meet (g10.le (l3.trans (l4.trans l7))) (g20.le l7) sl ss sm st hk).mono ?_⟩⟩
 rintro r V8 l8 ⟨u,rfl,⟨_,_,_,_,_,_,rfl⟩,k1⟩
 refine ⟨_,_,_,_,_,_,_,rfl,fun hb V9 l9=>?_,fun hb V10 l10=>?_⟩
 ·rw [Bool.not_eq_true'] at hb
  rw [hb]
  exact ⟨_,rfl,fun _=>rfl,(fun h=>nomatch h)⟩
 ·rw [Bool.not_eq_false'] at hb
  rw [hb]
  obtain ⟨z1,z2⟩:=sz_mt (t:=t) sl ss sm
  refine (c_geo_Pt_API ((k1 hb).le l10) z1 z2 (by omega)).mono ?_
  rintro r V11 l11 g
  have g0:=g
  obtain ⟨_,_,_,_,_,_,_,_,_,_,_,_,_,_,rfl⟩:=ap_shape g
  exact ⟨_,_,_,_,_,_,_,_,_,_,_,_,_,_,rfl,fun V12 l12=>⟨_,rfl,(fun h=>nomatch h),fun _=>g0.le l12⟩⟩
end Go.Proofs.Tryz
/- Fragments taken apart; equal zero points. -/
namespace Go.Proofs.Tryz
open Go.Eng Go.Big
theorem c_SameQ0 {V:View}:Acts prog 63 #[.agg #[.bool false,.slice none 0 0,.slice none 0 0],.agg #[.bool false,.slice none 0 0,.slice none 0 0]] V fun r V'=>r=.bool true:=by
 refine vc_ref01_SameQ false none 0 0 none 0 0 false none 0 0 none 0 0 V _ fun V1 l1=>(c_ref01_SameI (z:=0) (w:=0) RD.nil RD.nil (by decide)).mono ?_
 rintro r V2 l2 rfl
 refine ⟨_,rfl,fun _ V3 l3=>(c_ref01_SameN (xs:=[]) (ys:=[]) RD.nil RD.nil (by simp)).mono ?_,fun h=>by simp at h⟩
 rintro r V4 l4 rfl
 exact ⟨_,rfl,fun V5 l5=>rfl⟩
theorem c_SameP0 {V:View} {v w:Value} (h:PZero v) (h':PZero w):Acts prog 18 #[v,w] V fun r V'=>r=.bool true:=by
 obtain rfl:=h
 obtain rfl:=h'
 refine vc_ref04_SameP false none 0 0 none 0 0 false none 0 0 none 0 0 false none 0 0 none 0 0 false none 0 0 none 0 0 V _ fun V1 l1=>c_SameQ0.mono ?_
 rintro r V2 l2 rfl
 refine ⟨_,rfl,fun _ V3 l3=>c_SameQ0.mono ?_,(fun h=>nomatch h)⟩
 rintro r V4 l4 rfl
 exact ⟨_,rfl,fun V5 l5=>rfl⟩
theorem me_shape {V:View} {w:Value} {x y:Rat} {c:Bool} (h1:c=false->PZero w) (h2:c=true->RAP V w x y):∃b p n c p' n' c' d q m e q' m' e',w=.agg #[.bool b,.slice p n c,.slice p' n' c',.bool d,.slice q m e,.slice q' m' e']:=by
 cases c with
 | false=>exact ⟨_,_,_,_,_,_,_,_,_,_,_,_,_,_,h1 rfl⟩
 | true=>exact ap_shape (h2 rfl)
/-- A fragment of the reference, taken apart. -/
theorem rf_parts {V:View} {b1 p1 n1 c1 b2 p2 n2 c2 b3 p3 n3 c3 b p n c p' n' c' d q m e q' m' e'} {x y:Bool} {l:L3} {s:Sp} (h:RF V (.agg #[.bool b1,.slice p1 n1 c1,.bool b2,.slice p2 n2 c2,.bool b3,.slice p3 n3 c3,.bool b,.slice p n c,.slice p' n' c',.bool d,.slice q m e,.slice q' m' e',.bool x,.bool y]) l s) :
  RL V (.agg #[.bool b1,.slice p1 n1 c1,.bool b2,.slice p2 n2 c2,.bool b3,.slice p3 n3 c3]) l.1 l.2.1 l.2.2/\RSs V (.agg #[.bool b,.slice p n c,.slice p' n' c',.bool d,.slice q m e,.slice q' m' e',.bool x,.bool y]) s:=by
 obtain ⟨_,_,_,_,_,_,_,_,_,_,_,_,_,_,_,_,_,_,_,_,_,_,_,_,_,_,ef,fl,fs⟩:=h
 have ef':=congrArg Array.toList (Value.agg.inj ef)
 simp only [List.cons.injEq,Value.bool.injEq,Value.slice.injEq,and_true] at ef'
 obtain ⟨rfl,⟨rfl,rfl,rfl⟩,rfl,⟨rfl,rfl,rfl⟩,rfl,⟨rfl,rfl,rfl⟩,rfl,⟨rfl,rfl,rfl⟩,⟨rfl,rfl,rfl⟩,rfl,⟨rfl,rfl,rfl⟩,⟨rfl,rfl,rfl⟩,rfl,rfl⟩:=ef'
 exact ⟨fl,fs⟩
end Go.Proofs.Tryz
/- By program: the conditions of the functions, from their loaded code. -/
namespace Go.Proofs.Tryz
open Go.Eng
set_option maxRecDepth 100000
end Go.Proofs.Tryz
/- Contracts: the reference reads numbers, points, lines, spans, fragments of package api in any form. -/
namespace Go.Proofs.Tryz
open Go.Eng Go.Big
/-- A line of package api in any form. -/
def RLw (V:View) (v:Value) (b1:Bool) (xs:List Nat) (b2:Bool) (ys:List Nat) (b3:Bool) (zs:List Nat):Prop:=∃p n c q m e s i j,v=.agg #[.bool b1,.slice p n c,.bool b2,.slice q m e,.bool b3,.slice s i j]/\RD V p n c xs/\RD V q m e ys/\RD V s i j zs
theorem RLw.le {V V':View} {v:Value} {b1:Bool} {xs:List Nat} {b2:Bool} {ys:List Nat} {b3:Bool} {zs:List Nat} (h:RLw V v b1 xs b2 ys b3 zs) (l:V.Le V'):RLw V' v b1 xs b2 ys b3 zs:=by
 obtain ⟨p,n,c,q,m,e,s,i,j,rfl,h1,h2,h3⟩:=h
 exact ⟨_,_,_,_,_,_,_,_,_,rfl,h1.le l,h2.le l,h3.le l⟩
def lnW (b1:Bool) (xs:List Nat) (b2:Bool) (ys:List Nat) (b3:Bool) (zs:List Nat):L3:=(ival b1 xs,ival b2 ys,ival b3 zs)
/-- A fragment of package api in any form. -/
structure FW where
 b1:Bool
 xs:List Nat
 b2:Bool
 ys:List Nat
 b3:Bool
 zs:List Nat
 c1:Bool
 us:List Nat
 vs:List Nat
 c2:Bool
 ws:List Nat
 ts:List Nat
 na:Bool
 nb:Bool
def FW.ln (f:FW):L3:=lnW f.b1 f.xs f.b2 f.ys f.b3 f.zs
def FW.sp (f:FW):Sp:=spW f.c1 f.us f.vs f.c2 f.ws f.ts f.na f.nb
def FW.ok (f:FW):Bool:=okLn f.b1 f.xs f.b2 f.ys f.b3 f.zs && okW f.c1 f.us f.vs f.c2 f.ws f.ts f.na f.nb
structure FW.short (f:FW):Prop where
 x:f.xs.length<=1000000
 y:f.ys.length<=1000000
 z:f.zs.length<=1000000
 u:f.us.length<=1000000
 v:f.vs.length<=1000000
 w:f.ws.length<=1000000
 t:f.ts.length<=1000000
def RFw (V:View) (v:Value) (f:FW):Prop:=∃p1 n1 d1 p2 n2 d2 p3 n3 d3 p n c p' n' c' q m e q' m' e',
 v=.agg #[.bool f.b1,.slice p1 n1 d1,.bool f.b2,.slice p2 n2 d2,.bool f.b3,.slice p3 n3 d3,.bool f.c1,.slice p n c,.slice p' n' c',.bool f.c2,.slice q m e,.slice q' m' e',.bool f.na,.bool f.nb] /\
 RLw V (.agg #[.bool f.b1,.slice p1 n1 d1,.bool f.b2,.slice p2 n2 d2,.bool f.b3,.slice p3 n3 d3]) f.b1 f.xs f.b2 f.ys f.b3 f.zs /\
 RSw V (.agg #[.bool f.c1,.slice p n c,.slice p' n' c',.bool f.c2,.slice q m e,.slice q' m' e',.bool f.na,.bool f.nb]) f.c1 f.us f.vs f.c2 f.ws f.ts f.na f.nb
theorem RFw.le {V V':View} {v:Value} {f:FW} (h:RFw V v f) (l:V.Le V'):RFw V' v f:=by
 obtain ⟨p1,n1,d1,p2,n2,d2,p3,n3,d3,p,n,c,p',n',c',q,m,e,q',m',e',rfl,h1,h2⟩:=h
 exact ⟨_,_,_,_,_,_,_,_,_,_,_,_,_,_,_,_,_,_,_,_,_,rfl,h1.le l,h2.le l⟩
/-- The shape of a fragment of the reference. -/
def FSh (v:Value):Prop:=∃b1 p1 n1 c1 b2 p2 n2 c2 b3 p3 n3 c3 b p n c p' n' c' d q m e q' m' e' x y,v=.agg #[.bool b1,.slice p1 n1 c1,.bool b2,.slice p2 n2 c2,.bool b3,.slice p3 n3 c3,.bool b,.slice p n c,.slice p' n' c',.bool d,.slice q m e,.slice q' m' e',.bool x,.bool y]
end Go.Proofs.Tryz
