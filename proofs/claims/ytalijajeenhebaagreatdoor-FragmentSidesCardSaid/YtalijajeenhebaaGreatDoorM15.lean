/- A part of the proof (joined by program from: SceneB, VSceneF, SceneD, VFrag, RefG, FrA, FrB). -/
import Derived.Test.YtalijajeenhebaaGreatDoorM14
import Derived.Test.YtalijajeenhebaaGreatDoorM5
import Derived.Test.YtalijajeenhebaaGreatDoorM13
set_option linter.unusedVariables false
open Go.IntKind (i64 u64 u32)
/- Contracts of the scene's tape: Next, P, V, L; trees of the reference in memory: Code, Tree. -/
namespace Go.Proofs.Tryz
open Go.Eng Go.Big
theorem RL_shape' {V:View} {v:Value} {a b c:Int} (h:RL V v a b c):∃(b1:Bool) (p1:OA) (n1 c1:Nat) (b2:Bool) (p2:OA) (n2 c2:Nat) (b3:Bool) (p3:OA) (n3 c3:Nat),v=.agg #[.bool b1,.slice p1 n1 c1,.bool b2,.slice p2 n2 c2,.bool b3,.slice p3 n3 c3]:=by
 obtain ⟨p,n,s,p',n',s',q,m,e,rfl,-⟩:=h
 exact ⟨_,_,_,_,_,_,_,_,_,_,_,_,rfl⟩
/-- Ints that can be read. -/
def Rdl (V:View) (p:OA) (n:Nat):Prop:=∀i,i < n->∃(a:Addr) (x:Int),addrAdd p (i * 1)=some a/\V.at a (.int .i64 x)
theorem Rdl.le {V V':View} {p:OA} {n:Nat} (h:Rdl V p n) (l:V.Le V'):Rdl V' p n:=fun i hi=>by
 obtain ⟨a,x,e,hx⟩:=h i hi; exact ⟨a,x,e,l.at hx⟩
/-- The tape's block. -/
def TpAt (V:View) (tb:Nat) (p:OA) (n c:Nat) (at_:Int):Prop:=V.w.heap[tb]?=some (.cells #[.slice p n c,.int .i64 at_] 105 (0,0))
theorem c_Next {V:View} {tb:Nat} {p:OA} {n c:Nat} {at_:Int} (k:Int) (hr:Rdl V p n) (hn:n<=400) (hw:TpAt V tb p n c at_) (hx:V.X tb) (h0:0<=at_) (hk:0 < k) (hk2:k<=1000) :
  Acts prog 33 #[.pointer (some ⟨tb,0,none⟩),.int .i64 k] V fun r V'=>∃x at',r=.int .i64 x/\0<=x/\x < k/\0<=at'/\TpAt V' tb p n c at':=by
 refine vc_scene_Tape_Next tb p n c at_ k V _ hw hx ⟨fun g V1 l1 e=>⟨0,at_,rfl,by omega,hk,h0,e⟩,fun g=>?_⟩
 have g:at_ < n:=by have:=of_decide_eq_false g; omega
 obtain ⟨i,rfl⟩:∃i:Nat,at_=i:=⟨at_.toNat,by omega⟩
 obtain ⟨a,x,e1,e2⟩:=hr i (by omega)
 have hs:p.isSome=true:=by
  cases p with
  | none=>simp [addrAdd] at e1
  | some a=>rfl
 have m1:(x.tmod k).natAbs < k.natAbs:=by rw [Int.natAbs_tmod]; exact Nat.mod_lt _ (by omega)
 have w1:i64.wrap ((i:Int) + 1)=((i + 1:Nat):Int):=by rw [i64w (by omega)]; omega
 rw [Int.toNat_natCast,w1]
 have w2:i64.wrap (x.tmod k + k)=x.tmod k + k:=i64w (by omega)
 refine ⟨hs,⟨by omega,by omega⟩,x,⟨a,e1,e2⟩,by omega,fun g2 V2 l2 e=>⟨x.tmod k + k,_,by rw [w2],?_,?_,?_,e⟩,fun g2 V3 l3 e=>⟨_,_,rfl,?_,?_,?_,e⟩⟩
 ·omega
 ·have:=of_decide_eq_true g2; omega
 ·omega
 ·have:=of_decide_eq_false g2; omega
 ·omega
 ·omega
theorem c_P {V:View} {tb:Nat} {p:OA} {n c:Nat} {at_:Int} (hr:Rdl V p n) (hn:n<=400) (hw:TpAt V tb p n c at_) (hx:V.X tb) (h0:0<=at_) :
  Acts prog 55 #[.pointer (some ⟨tb,0,none⟩)] V fun r V'=>∃(x y at':Int),RP V' r (x:Rat) (y:Rat)/\(-4<=x/\x<=4)/\(-4<=y/\y<=4)/\0<=at'/\TpAt V' tb p n c at':=by
 refine vc_scene_Tape_P tb p n c at_ V _ hw hx fun V1 l1 bk1 e1 h1=>(c_Next (V:=V1.lend [bk1]) 9 (hr.le fun b o h=>l1 b o h) hn e1 ⟨by simp,h1⟩ h0 (by omega) (by omega)).mono ?_
 rintro r V2 l2 ⟨x,at1,rfl,x0,x1,t1,hw1⟩
 refine ⟨_,rfl,_,_,_,_,hw1,fun V3 l3 bk5 e3 h3=>(c_Next (V:=V3.lend [bk5]) 9 (hr.le fun b o h=>l3 b o (l2 b o (l1 b o h))) hn e3 ⟨by simp,h3⟩ t1 (by omega) (by omega)).mono ?_⟩
 rintro r V4 l4 ⟨y,at2,rfl,y0,y1,t2,hw2⟩
 refine ⟨_,rfl,_,_,_,_,hw2,fun V5 l5=>?_⟩
 rw [i64w (x:=x - 4) (by omega),i64w (x:=y - 4) (by omega)]
 refine (c_ref04_Xy (x - 4) (y - 4) (by omega) (by omega) (by omega) (by omega)).mono ?_
 rintro r V6 l6 hp
 have hp0:=hp
 obtain ⟨p1,n1,c1,p2,n2,c2,p3,n3,c3,p4,n4,c4,rfl,-⟩:=hp
 exact ⟨_,_,_,_,_,_,_,_,_,_,_,_,_,_,rfl,fun V7 l7 e7=>⟨x - 4,y - 4,at2,hp0.le l7,⟨by omega,by omega⟩,⟨by omega,by omega⟩,t2,e7⟩⟩
theorem RQ.zero {V:View}:RQ V (.agg #[.bool false,.slice none 0 0,.slice none 0 0]) ((0:Int):Rat):=⟨none,0,0,none,0,0,rfl,RD.nil,RD.nil⟩
theorem RP.zero {V:View}:RP V (.agg #[.bool false,.slice none 0 0,.slice none 0 0,.bool false,.slice none 0 0,.slice none 0 0]) ((0:Int):Rat) ((0:Int):Rat):=
 ⟨none,0,0,none,0,0,none,0,0,none,0,0,rfl,RQ.zero,RQ.zero⟩
theorem sz4 {z:Int} (h:-40<=z/\z<=40):Sz 10 (z:Rat):=sz_int (by omega) (by omega)
theorem c_V {V:View} {tb:Nat} {p:OA} {n c:Nat} {at_:Int} (hr:Rdl V p n) (hn:n<=400) (hw:TpAt V tb p n c at_) (hx:V.X tb) (h0:0<=at_) :
  Acts prog 58 #[.pointer (some ⟨tb,0,none⟩)] V fun r V'=>∃(x y at':Int),RP V' r (x:Rat) (y:Rat)/\(-4<=x/\x<=4)/\(-4<=y/\y<=4)/\¬ (x=0/\y=0)/\0<=at'/\TpAt V' tb p n c at':=by
 refine vc_scene_Tape_V tb p n c at_ V _ hw hx fun V1 l1 bk1 e1 h1=>(c_P (V:=V1.lend [bk1]) (hr.le fun b o h=>l1 b o h) hn e1 ⟨by simp,h1⟩ h0).mono ?_
 rintro r V2 l2 ⟨x,y,at1,hp,hx1,hy1,t1,hw1⟩
 have hp0:=hp
 obtain ⟨p1,n1,c1,p2,n2,c2,p3,n3,c3,p4,n4,c4,rfl,-⟩:=hp
 refine ⟨_,_,_,_,_,_,_,_,_,_,_,_,_,_,rfl,_,_,_,_,hw1,fun V3 l3=>(c_ref04_Same (hp0.le fun b o h=>l3 b o h) RP.zero (sz4 (by omega)) (sz4 (by omega)) (sz4 (by omega)) (sz4 (by omega)) (by omega)).mono ?_⟩
 rintro r V4 l4 rfl
 refine ⟨_,rfl,fun g V5 l5=>(c_ref04_Xy 1 0 (by omega) (by omega) (by omega) (by omega)).mono ?_,fun g V8 l8 e8=>⟨x,y,at1,hp0.le fun b o h=>l8 b o (l4 b o (l3 b o h)),hx1,hy1,?_,t1,e8⟩⟩
 ·rintro r V6 l6 hq
  have hq0:=hq
  obtain ⟨p1,n1,c1,p2,n2,c2,p3,n3,c3,p4,n4,c4,rfl,-⟩:=hq
  exact ⟨_,_,_,_,_,_,_,_,_,_,_,_,_,_,rfl,fun V7 l7 e7=>⟨1,0,at1,hq0.le l7,⟨by omega,by omega⟩,⟨by omega,by omega⟩,by omega,t1,e7⟩⟩
 ·rintro ⟨rfl,rfl⟩
  simp at g
theorem c_L {V:View} {tb:Nat} {p:OA} {n c:Nat} {at_:Int} (hr:Rdl V p n) (hn:n<=400) (hw:TpAt V tb p n c at_) (hx:V.X tb) (h0:0<=at_) :
  Acts prog 39 #[.pointer (some ⟨tb,0,none⟩)] V fun r V'=>∃(x:L3) (at':Int),RL V' r x.1 x.2.1 x.2.2/\okL x=true/\Bd x/\0<=at'/\TpAt V' tb p n c at':=by
 refine vc_scene_Tape_L tb p n c at_ V _ hw hx fun V1 l1 bk1 e1 h1=>(c_P (V:=V1.lend [bk1]) (hr.le fun b o h=>l1 b o h) hn e1 ⟨by simp,h1⟩ h0).mono ?_
 rintro r V2 l2 ⟨x,y,at1,hp,hx1,hy1,t1,hw1⟩
 have hp0:=hp
 obtain ⟨p1,n1,c1,p2,n2,c2,p3,n3,c3,p4,n4,c4,rfl,-⟩:=hp
 refine ⟨_,_,_,_,_,_,_,_,_,_,_,_,_,_,rfl,_,_,_,_,hw1,fun V3 l3=>(c_num_Of 1 (by omega) (by omega)).mono ?_⟩
 rintro r V4 l4 hq
 have hq0:=hq
 obtain ⟨p5,n5,c5,p6,n6,c6,rfl⟩:=hq.shape
 refine ⟨_,_,_,_,_,_,_,rfl,fun V5 l5 bk13 e5 h5=>(c_V (V:=V5.lend [bk13]) (hr.le fun b o h=>l5 b o (l4 b o (l3 b o (l2 b o (l1 b o h))))) hn e5 ⟨by simp,h5⟩ t1).mono ?_⟩
 rintro r V6 l6 ⟨u,w,at2,hv,hu1,hw1',hne,t2,hw2⟩
 have hv0:=hv
 obtain ⟨q1,m1,d1,q2,m2,d2,q3,m3,d3,q4,m4,d4,rfl,-⟩:=hv
 refine ⟨_,_,_,_,_,_,_,_,_,_,_,_,_,_,rfl,_,_,_,_,hw2,fun V7 l7=>?_⟩
 have l27:V2.Le V7:=fun b o h=>l7 b o (l6 b o (l5 b o (l4 b o (l3 b o h))))
 have l47:V4.Le V7:=fun b o h=>l7 b o (l6 b o (l5 b o h))
 have l67:V6.Le V7:=fun b o h=>l7 b o h
 refine (c_ref04_Add (hp0.le l27) (hq0.le l47) (hv0.le l67) (k:=10) (m:=10) (sz4 (by omega)) (sz4 (by omega)) (sz4 (by omega)) (sz4 (by omega)) (sz4 (by omega)) (by omega)).mono ?_
 rintro r V8 l8 hs
 have hs0:=hs
 obtain ⟨s1,i1,j1,s2,i2,j2,s3,i3,j3,s4,i4,j4,rfl,-⟩:=hs
 have f1:(x:Rat) + ((1:Int):Rat) * (u:Rat)=((x + u:Int):Rat):=by rw [← Rat.intCast_mul,← Rat.intCast_add,Int.one_mul]
 have f2:(y:Rat) + ((1:Int):Rat) * (w:Rat)=((y + w:Int):Rat):=by rw [← Rat.intCast_mul,← Rat.intCast_add,Int.one_mul]
 refine ⟨_,_,_,_,_,_,_,_,_,_,_,_,_,_,rfl,fun V9 l9=>(c_ref04_Through (hp0.le (l27.trans (l8.trans l9))) (hs0.le l9) (k:=10) (sz4 (by omega)) (sz4 (by omega)) (by rw [f1]; exact sz4 (by omega)) (by rw [f2]; exact sz4 (by omega)) (by omega) (by omega)).mono ?_⟩
 rintro r V10 l10 ⟨-,h⟩
 rw [thr_int] at h
 have n1:((-w:Int):Rat).num=-w:=rfl
 have n2:((u:Int):Rat).num=u:=rfl
 have n3:((w * x - u * y:Int):Rat).num=w * x - u * y:=rfl
 dsimp only at h
 rw [n1,n2,n3] at h
 obtain ⟨l,rfl,hl⟩:=h (by omega)
 have m1:=mul_bd hw1' hx1
 have m2:=mul_bd hu1 hy1
 obtain ⟨k1,k2⟩:=lnOf_ok (a:=-w) (b:=u) (c:=w * x - u * y) (by omega) (by omega) (by omega) (by omega)
 have hl0:=hl
 obtain ⟨b1,u1,v1,w1,b2,u2,v2,w2,b3,u3,v3,w3,rfl⟩:=(RL_shape' hl)
 exact ⟨_,_,_,_,_,_,_,_,_,_,_,_,_,rfl,fun V11 l11 e11=>⟨lnOf (-w) u (w * x - u * y),at2,hl0.le l11,k1,k2,t2,e11⟩⟩
end Go.Proofs.Tryz
/- By program: the conditions of the functions, from their loaded code. -/
namespace Go.Proofs.Tryz
open Go.Eng
set_option maxRecDepth 100000
theorem vc_scene_Tape_Q (tb:Nat) (lp:OA) (ln lc:Nat) (at_:Int) (V:View) (R:Value->View->Prop) (hw100000:V.w.heap[tb]?=some (.cells #[.slice lp ln lc,.int .i64 at_] 105 (0,0))) (hx100000:V.X tb)
  (h:(∀V1,V.Le V1->∀bk1_:Nat,(V1.w.heap[bk1_]?=some (.cells #[.slice lp ln lc,.int .i64 at_] 105 (0,0)))->(V1.H bk1_)->Acts prog 33 #[.pointer (some ⟨bk1_,0,none⟩),.int .i64 9] (V1.lend [bk1_]) fun r1_ V2=>∃x2_,r1_=.int .i64 x2_/\∃p3_ n3_ c3_,∃x4_,V2.w.heap[bk1_]?=some (.cells #[.slice p3_ n3_ c3_,.int .i64 x4_] 105 (0,0))/\(∀V3,V2.shut.Le V3->∀bk5_:Nat,(V3.w.heap[bk5_]?=some (.cells #[.slice p3_ n3_ c3_,.int .i64 x4_] 105 (0,0)))->(V3.H bk5_)->Acts prog 33 #[.pointer (some ⟨bk5_,0,none⟩),.int .i64 6] (V3.lend [bk5_]) fun r3_ V4=>∃x6_,r3_=.int .i64 x6_/\∃p7_ n7_ c7_,∃x8_,V4.w.heap[bk5_]?=some (.cells #[.slice p7_ n7_ c7_,.int .i64 x8_] 105 (0,0))/\(((x6_ == (0:Int))=true->(∀V5,V4.shut.Le V5->Acts prog 65 #[.int .i64 (i64.wrap ((i64.wrap ((2:Int) * (i64.wrap (x2_ - (4:Int))))) + (1:Int))),.int .i64 2] V5 fun r5_ V6=>∃b9_,∃p10_ n10_ c10_,∃p11_ n11_ c11_,r5_=.agg #[.bool b9_,.slice p10_ n10_ c10_,.slice p11_ n11_ c11_]/\(∀V7,V6.Le V7->V7.w.heap[tb]?=some (.cells #[.slice p7_ n7_ c7_,.int .i64 x8_] 105 (0,0))->R (.agg #[.bool b9_,.slice p10_ n10_ c10_,.slice p11_ n11_ c11_]) V7)))/\((x6_ == (0:Int))=false->(((x6_ == (1:Int))=true->(∀V8,V4.shut.Le V8->Acts prog 65 #[.int .i64 (i64.wrap ((i64.wrap ((3:Int) * (i64.wrap (x2_ - (4:Int))))) + (1:Int))),.int .i64 3] V8 fun r8_ V9=>∃b12_,∃p13_ n13_ c13_,∃p14_ n14_ c14_,r8_=.agg #[.bool b12_,.slice p13_ n13_ c13_,.slice p14_ n14_ c14_]/\(∀V10,V9.Le V10->V10.w.heap[tb]?=some (.cells #[.slice p7_ n7_ c7_,.int .i64 x8_] 105 (0,0))->R (.agg #[.bool b12_,.slice p13_ n13_ c13_,.slice p14_ n14_ c14_]) V10)))/\((x6_ == (1:Int))=false->(∀V11,V4.shut.Le V11->Acts prog 57 #[.int .i64 (i64.wrap (x2_ - (4:Int)))] V11 fun r11_ V12=>∃b15_,∃p16_ n16_ c16_,∃p17_ n17_ c17_,r11_=.agg #[.bool b15_,.slice p16_ n16_ c16_,.slice p17_ n17_ c17_]/\(∀V13,V12.Le V13->V13.w.heap[tb]?=some (.cells #[.slice p7_ n7_ c7_,.int .i64 x8_] 105 (0,0))->R (.agg #[.bool b15_,.slice p16_ n16_ c16_,.slice p17_ n17_ c17_]) V13))))))))) :
  Acts prog 20 #[.pointer (some ⟨tb,0,none⟩)] V R:=
 fn_does (LF:=LF0) (RF:=[1000007]) (β0:=(upd1 (fun _=>0) 100000 tb)) tab_ok mixed [] [] func20 (by kernel_rfl)
  [(0,.c (.ptr 100000 0))]
  [(100000,⟨.lit [.v (.slice lp ln lc),.v (.int .i64 at_)],105⟩)] (by kernel_rfl) ⟨⟨hw100000,hx100000⟩,trivial,trivial⟩ h (by kernel_rfl)
theorem vc_scene_Tape_S (tb:Nat) (lp:OA) (ln lc:Nat) (at_:Int) (V:View) (R:Value->View->Prop) (hw100000:V.w.heap[tb]?=some (.cells #[.slice lp ln lc,.int .i64 at_] 105 (0,0))) (hx100000:V.X tb)
  (h:(∀V1,V.Le V1->∀bk1_:Nat,(V1.w.heap[bk1_]?=some (.cells #[.slice lp ln lc,.int .i64 at_] 105 (0,0)))->(V1.H bk1_)->Acts prog 20 #[.pointer (some ⟨bk1_,0,none⟩)] (V1.lend [bk1_]) fun r1_ V2=>∃b2_,∃p3_ n3_ c3_,∃p4_ n4_ c4_,r1_=.agg #[.bool b2_,.slice p3_ n3_ c3_,.slice p4_ n4_ c4_]/\∃p5_ n5_ c5_,∃x6_,V2.w.heap[bk1_]?=some (.cells #[.slice p5_ n5_ c5_,.int .i64 x6_] 105 (0,0))/\(∀V3,V2.shut.Le V3->∀bk7_:Nat,(V3.w.heap[bk7_]?=some (.cells #[.slice p5_ n5_ c5_,.int .i64 x6_] 105 (0,0)))->(V3.H bk7_)->Acts prog 33 #[.pointer (some ⟨bk7_,0,none⟩),.int .i64 6] (V3.lend [bk7_]) fun r3_ V4=>∃x8_,r3_=.int .i64 x8_/\∃p9_ n9_ c9_,∃x10_,V4.w.heap[bk7_]?=some (.cells #[.slice p9_ n9_ c9_,.int .i64 x10_] 105 (0,0))/\(∀V5,V4.shut.Le V5->Acts prog 65 #[.int .i64 (i64.wrap ((1:Int) + x8_)),.int .i64 2] V5 fun r5_ V6=>∃b11_,∃p12_ n12_ c12_,∃p13_ n13_ c13_,r5_=.agg #[.bool b11_,.slice p12_ n12_ c12_,.slice p13_ n13_ c13_]/\(∀V7,V6.Le V7->Acts prog 80 #[.agg #[.bool b2_,.slice p3_ n3_ c3_,.slice p4_ n4_ c4_],.agg #[.bool b11_,.slice p12_ n12_ c12_,.slice p13_ n13_ c13_]] V7 fun r7_ V8=>∃b14_,∃p15_ n15_ c15_,∃p16_ n16_ c16_,r7_=.agg #[.bool b14_,.slice p15_ n15_ c15_,.slice p16_ n16_ c16_]/\(∀V9,V8.Le V9->∀bk17_:Nat,(V9.w.heap[bk17_]?=some (.cells #[.slice p9_ n9_ c9_,.int .i64 x10_] 105 (0,0)))->(V9.H bk17_)->Acts prog 33 #[.pointer (some ⟨bk17_,0,none⟩),.int .i64 8] (V9.lend [bk17_]) fun r9_ V10=>∃x18_,r9_=.int .i64 x18_/\∃p19_ n19_ c19_,∃x20_,V10.w.heap[bk17_]?=some (.cells #[.slice p19_ n19_ c19_,.int .i64 x20_] 105 (0,0))/\(((x18_ == (0:Int))=true->(∀V11,V10.shut.Le V11->V11.w.heap[tb]?=some (.cells #[.slice p19_ n19_ c19_,.int .i64 x20_] 105 (0,0))->R (.agg #[.bool false,.slice none 0 0,.slice none 0 0,.bool b14_,.slice p15_ n15_ c15_,.slice p16_ n16_ c16_,.bool true,.bool false]) V11))/\((x18_ == (0:Int))=false->(((x18_ == (1:Int))=true->(∀V12,V10.shut.Le V12->V12.w.heap[tb]?=some (.cells #[.slice p19_ n19_ c19_,.int .i64 x20_] 105 (0,0))->R (.agg #[.bool b2_,.slice p3_ n3_ c3_,.slice p4_ n4_ c4_,.bool false,.slice none 0 0,.slice none 0 0,.bool false,.bool true]) V12))/\((x18_ == (1:Int))=false->(((x18_ == (2:Int))=true->(∀V13,V10.shut.Le V13->∀bk21_:Nat,(V13.w.heap[bk21_]?=some (.cells #[.slice p19_ n19_ c19_,.int .i64 x20_] 105 (0,0)))->(V13.H bk21_)->Acts prog 33 #[.pointer (some ⟨bk21_,0,none⟩),.int .i64 4] (V13.lend [bk21_]) fun r13_ V14=>∃x22_,r13_=.int .i64 x22_/\∃p23_ n23_ c23_,∃x24_,V14.w.heap[bk21_]?=some (.cells #[.slice p23_ n23_ c23_,.int .i64 x24_] 105 (0,0))/\(((x22_ == (0:Int))=true->(∀V15,V14.shut.Le V15->Acts prog 81 #[] V15 fun r15_ V16=>∃b25_,∃p26_ n26_ c26_,∃p27_ n27_ c27_,∃b28_,∃p29_ n29_ c29_,∃p30_ n30_ c30_,∃b31_,∃b32_,r15_=.agg #[.bool b25_,.slice p26_ n26_ c26_,.slice p27_ n27_ c27_,.bool b28_,.slice p29_ n29_ c29_,.slice p30_ n30_ c30_,.bool b31_,.bool b32_]/\(∀V17,V16.Le V17->V17.w.heap[tb]?=some (.cells #[.slice p23_ n23_ c23_,.int .i64 x24_] 105 (0,0))->R (.agg #[.bool b25_,.slice p26_ n26_ c26_,.slice p27_ n27_ c27_,.bool b28_,.slice p29_ n29_ c29_,.slice p30_ n30_ c30_,.bool b31_,.bool b32_]) V17)))/\((x22_ == (0:Int))=false->(∀V18,V14.shut.Le V18->V18.w.heap[tb]?=some (.cells #[.slice p23_ n23_ c23_,.int .i64 x24_] 105 (0,0))->R (.agg #[.bool b2_,.slice p3_ n3_ c3_,.slice p4_ n4_ c4_,.bool b14_,.slice p15_ n15_ c15_,.slice p16_ n16_ c16_,.bool false,.bool false]) V18)))))/\((x18_ == (2:Int))=false->(∀V19,V10.shut.Le V19->V19.w.heap[tb]?=some (.cells #[.slice p19_ n19_ c19_,.int .i64 x20_] 105 (0,0))->R (.agg #[.bool b2_,.slice p3_ n3_ c3_,.slice p4_ n4_ c4_,.bool b14_,.slice p15_ n15_ c15_,.slice p16_ n16_ c16_,.bool false,.bool false]) V19))))))))))))) :
  Acts prog 34 #[.pointer (some ⟨tb,0,none⟩)] V R:=
 fn_does (LF:=LF0) (RF:=[1000007]) (β0:=(upd1 (fun _=>0) 100000 tb)) tab_ok mixed [] [] func34 (by kernel_rfl)
  [(0,.c (.ptr 100000 0))]
  [(100000,⟨.lit [.v (.slice lp ln lc),.v (.int .i64 at_)],105⟩)] (by kernel_rfl) ⟨⟨hw100000,hx100000⟩,trivial,trivial⟩ h (by kernel_rfl)
theorem vc_scene_Tape_F (tb:Nat) (lp:OA) (ln lc:Nat) (at_:Int) (V:View) (R:Value->View->Prop) (hw100000:V.w.heap[tb]?=some (.cells #[.slice lp ln lc,.int .i64 at_] 105 (0,0))) (hx100000:V.X tb)
  (h:(∀V1,V.Le V1->∀bk1_:Nat,(V1.w.heap[bk1_]?=some (.cells #[.slice lp ln lc,.int .i64 at_] 105 (0,0)))->(V1.H bk1_)->Acts prog 33 #[.pointer (some ⟨bk1_,0,none⟩),.int .i64 3] (V1.lend [bk1_]) fun r1_ V2=>∃x2_,r1_=.int .i64 x2_/\∃p3_ n3_ c3_,∃x4_,V2.w.heap[bk1_]?=some (.cells #[.slice p3_ n3_ c3_,.int .i64 x4_] 105 (0,0))/\(((x2_ == (0:Int))=true->(∀V3,V2.shut.Le V3->∀bk5_:Nat,(V3.w.heap[bk5_]?=some (.cells #[.slice p3_ n3_ c3_,.int .i64 x4_] 105 (0,0)))->(V3.H bk5_)->Acts prog 39 #[.pointer (some ⟨bk5_,0,none⟩)] (V3.lend [bk5_]) fun r3_ V4=>∃b6_,∃p7_ n7_ c7_,∃b8_,∃p9_ n9_ c9_,∃b10_,∃p11_ n11_ c11_,r3_=.agg #[.bool b6_,.slice p7_ n7_ c7_,.bool b8_,.slice p9_ n9_ c9_,.bool b10_,.slice p11_ n11_ c11_]/\∃p12_ n12_ c12_,∃x13_,V4.w.heap[bk5_]?=some (.cells #[.slice p12_ n12_ c12_,.int .i64 x13_] 105 (0,0))/\(∀V5,V4.shut.Le V5->∀bk14_:Nat,(V5.w.heap[bk14_]?=some (.cells #[.slice p12_ n12_ c12_,.int .i64 x13_] 105 (0,0)))->(V5.H bk14_)->Acts prog 34 #[.pointer (some ⟨bk14_,0,none⟩)] (V5.lend [bk14_]) fun r5_ V6=>∃b15_,∃p16_ n16_ c16_,∃p17_ n17_ c17_,∃b18_,∃p19_ n19_ c19_,∃p20_ n20_ c20_,∃b21_,∃b22_,r5_=.agg #[.bool b15_,.slice p16_ n16_ c16_,.slice p17_ n17_ c17_,.bool b18_,.slice p19_ n19_ c19_,.slice p20_ n20_ c20_,.bool b21_,.bool b22_]/\∃p23_ n23_ c23_,∃x24_,V6.w.heap[bk14_]?=some (.cells #[.slice p23_ n23_ c23_,.int .i64 x24_] 105 (0,0))/\(∀V7,V6.shut.Le V7->V7.w.heap[tb]?=some (.cells #[.slice p23_ n23_ c23_,.int .i64 x24_] 105 (0,0))->R (.agg #[.bool b6_,.slice p7_ n7_ c7_,.bool b8_,.slice p9_ n9_ c9_,.bool b10_,.slice p11_ n11_ c11_,.bool b15_,.slice p16_ n16_ c16_,.slice p17_ n17_ c17_,.bool b18_,.slice p19_ n19_ c19_,.slice p20_ n20_ c20_,.bool b21_,.bool b22_]) V7))))/\((x2_ == (0:Int))=false->(∀V8,V2.shut.Le V8->∀bk25_:Nat,(V8.w.heap[bk25_]?=some (.cells #[.slice p3_ n3_ c3_,.int .i64 x4_] 105 (0,0)))->(V8.H bk25_)->Acts prog 55 #[.pointer (some ⟨bk25_,0,none⟩)] (V8.lend [bk25_]) fun r8_ V9=>∃b26_,∃p27_ n27_ c27_,∃p28_ n28_ c28_,∃b29_,∃p30_ n30_ c30_,∃p31_ n31_ c31_,r8_=.agg #[.bool b26_,.slice p27_ n27_ c27_,.slice p28_ n28_ c28_,.bool b29_,.slice p30_ n30_ c30_,.slice p31_ n31_ c31_]/\∃p32_ n32_ c32_,∃x33_,V9.w.heap[bk25_]?=some (.cells #[.slice p32_ n32_ c32_,.int .i64 x33_] 105 (0,0))/\(∀V10,V9.shut.Le V10->Acts prog 57 #[.int .i64 1] V10 fun r10_ V11=>∃b34_,∃p35_ n35_ c35_,∃p36_ n36_ c36_,r10_=.agg #[.bool b34_,.slice p35_ n35_ c35_,.slice p36_ n36_ c36_]/\(∀V12,V11.Le V12->∀bk37_:Nat,(V12.w.heap[bk37_]?=some (.cells #[.slice p32_ n32_ c32_,.int .i64 x33_] 105 (0,0)))->(V12.H bk37_)->Acts prog 58 #[.pointer (some ⟨bk37_,0,none⟩)] (V12.lend [bk37_]) fun r12_ V13=>∃b38_,∃p39_ n39_ c39_,∃p40_ n40_ c40_,∃b41_,∃p42_ n42_ c42_,∃p43_ n43_ c43_,r12_=.agg #[.bool b38_,.slice p39_ n39_ c39_,.slice p40_ n40_ c40_,.bool b41_,.slice p42_ n42_ c42_,.slice p43_ n43_ c43_]/\∃p44_ n44_ c44_,∃x45_,V13.w.heap[bk37_]?=some (.cells #[.slice p44_ n44_ c44_,.int .i64 x45_] 105 (0,0))/\(∀V14,V13.shut.Le V14->Acts prog 56 #[.agg #[.bool b26_,.slice p27_ n27_ c27_,.slice p28_ n28_ c28_,.bool b29_,.slice p30_ n30_ c30_,.slice p31_ n31_ c31_],.agg #[.bool b34_,.slice p35_ n35_ c35_,.slice p36_ n36_ c36_],.agg #[.bool b38_,.slice p39_ n39_ c39_,.slice p40_ n40_ c40_,.bool b41_,.slice p42_ n42_ c42_,.slice p43_ n43_ c43_]] V14 fun r14_ V15=>∃b46_,∃p47_ n47_ c47_,∃p48_ n48_ c48_,∃b49_,∃p50_ n50_ c50_,∃p51_ n51_ c51_,r14_=.agg #[.bool b46_,.slice p47_ n47_ c47_,.slice p48_ n48_ c48_,.bool b49_,.slice p50_ n50_ c50_,.slice p51_ n51_ c51_]/\(∀V16,V15.Le V16->Acts prog 11 #[.agg #[.bool b26_,.slice p27_ n27_ c27_,.slice p28_ n28_ c28_,.bool b29_,.slice p30_ n30_ c30_,.slice p31_ n31_ c31_],.agg #[.bool b46_,.slice p47_ n47_ c47_,.slice p48_ n48_ c48_,.bool b49_,.slice p50_ n50_ c50_,.slice p51_ n51_ c51_]] V16 fun r16_ V17=>∃b52_,∃p53_ n53_ c53_,∃b54_,∃p55_ n55_ c55_,∃b56_,∃p57_ n57_ c57_,∃b58_,∃p59_ n59_ c59_,∃p60_ n60_ c60_,∃b61_,∃p62_ n62_ c62_,∃p63_ n63_ c63_,∃b64_,∃b65_,∃b66_,r16_=.tuple #[.agg #[.bool b52_,.slice p53_ n53_ c53_,.bool b54_,.slice p55_ n55_ c55_,.bool b56_,.slice p57_ n57_ c57_,.bool b58_,.slice p59_ n59_ c59_,.slice p60_ n60_ c60_,.bool b61_,.slice p62_ n62_ c62_,.slice p63_ n63_ c63_,.bool b64_,.bool b65_],.bool b66_]/\(∀V18,V17.Le V18->V18.w.heap[tb]?=some (.cells #[.slice p44_ n44_ c44_,.int .i64 x45_] 105 (0,0))->R (.agg #[.bool b52_,.slice p53_ n53_ c53_,.bool b54_,.slice p55_ n55_ c55_,.bool b56_,.slice p57_ n57_ c57_,.bool b58_,.slice p59_ n59_ c59_,.slice p60_ n60_ c60_,.bool b61_,.slice p62_ n62_ c62_,.slice p63_ n63_ c63_,.bool b64_,.bool b65_]) V18)))))))))) :
  Acts prog 14 #[.pointer (some ⟨tb,0,none⟩)] V R:=
 fn_does (LF:=LF0) (RF:=[1000007]) (β0:=(upd1 (fun _=>0) 100000 tb)) tab_ok mixed [] [] func14 (by kernel_rfl)
  [(0,.c (.ptr 100000 0))]
  [(100000,⟨.lit [.v (.slice lp ln lc),.v (.int .i64 at_)],105⟩)] (by kernel_rfl) ⟨⟨hw100000,hx100000⟩,trivial,trivial⟩ h (by kernel_rfl)
end Go.Proofs.Tryz
/- Contracts: num.Part; the tape's Q and Point. -/
namespace Go.Proofs.Tryz
open Go.Eng Go.Big
theorem c_num_Part {V:View} (n:Int) (d:Nat) (h0:-1000<=n) (h1:n<=1000) (hd0:d≠0) (hd:d<=1000) :
  Acts prog 65 #[.int .i64 n,.int .i64 (d:Int)] V fun r V'=>RQ V' r (mkRat n d):=by
 refine vc_num_Part n d V _ fun V1 l1=>(c_num_Int n (by omega) (by omega)).mono ?_
 rintro r V2 l2 ⟨p,m,c,rfl,g⟩
 rw [u64w (by omega)]
 refine ⟨_,_,_,_,rfl,fun V3 l3=>(c_num_Word d (by omega)).mono ?_⟩
 rintro r V4 l4 ⟨p2,m2,c2,rfl,g2⟩
 refine ⟨_,_,_,rfl,fun V5 l5=>(c_num_Frac n (g.le (l3.trans (l4.trans l5))) (g2.le l5) (Nat.le_trans (digs_len_bits (k:=10) (by omega)) (by omega)) (Nat.le_trans (digs_len_bits (k:=10) (by omega)) (by omega)) hd0).mono ?_⟩
 rintro r V6 l6 h
 have h':=h
 obtain ⟨_,_,_,_,_,_,rfl⟩:=h.shape
 exact ⟨_,_,_,_,_,_,_,rfl,fun V7 l7=>h'.le l7⟩
theorem sz_half:∀x:Fin 9,Sz 10 (mkRat (2 * ((x.1:Int) - 4) + 1) 2)/\Sz 10 (mkRat (3 * ((x.1:Int) - 4) + 1) 3):=by unfold Sz; decide +kernel
theorem c_Q {V:View} {tb:Nat} {p:OA} {n c:Nat} {at_:Int} (hr:Rdl V p n) (hn:n<=400) (hw:TpAt V tb p n c at_) (hx:V.X tb) (h0:0<=at_) :
  Acts prog 20 #[.pointer (some ⟨tb,0,none⟩)] V fun r V'=>∃(q:Rat) (at':Int),RQ V' r q/\Sz 10 q/\0<=at'/\TpAt V' tb p n c at':=by
 refine vc_scene_Tape_Q tb p n c at_ V _ hw hx fun V1 l1 bk1 e1 h1=>(c_Next (V:=V1.lend [bk1]) 9 (hr.le fun b o h=>l1 b o h) hn e1 ⟨by simp,h1⟩ h0 (by omega) (by omega)).mono ?_
 rintro r V2 l2 ⟨x,at1,rfl,x0,x1,t1,hw1⟩
 refine ⟨_,rfl,_,_,_,_,hw1,fun V3 l3 bk5 e3 h3=>(c_Next (V:=V3.lend [bk5]) 6 (hr.le fun b o h=>l3 b o (l2 b o (l1 b o h))) hn e3 ⟨by simp,h3⟩ t1 (by omega) (by omega)).mono ?_⟩
 rintro r V4 l4 ⟨y,at2,rfl,y0,y1,t2,hw2⟩
 obtain ⟨i,rfl⟩:∃i:Nat,x=i:=⟨x.toNat,by omega⟩
 obtain ⟨z1,z2⟩:=sz_half ⟨i,by omega⟩
 dsimp only at z1 z2
 have w1:i64.wrap ((i:Int) - 4)=(i:Int) - 4:=i64w (by omega)
 have w2:i64.wrap (i64.wrap (2 * ((i:Int) - 4)) + 1)=2 * ((i:Int) - 4) + 1:=by rw [i64w (x:=2 * ((i:Int) - 4)) (by omega),i64w (by omega)]
 have w3:i64.wrap (i64.wrap (3 * ((i:Int) - 4)) + 1)=3 * ((i:Int) - 4) + 1:=by rw [i64w (x:=3 * ((i:Int) - 4)) (by omega),i64w (by omega)]
 rw [w1,w2,w3]
 refine ⟨_,rfl,_,_,_,_,hw2,fun _ V5 l5=>(c_num_Part (2 * ((i:Int) - 4) + 1) 2 (by omega) (by omega) (by omega) (by omega)).mono ?_,fun _=>⟨fun _ V8 l8=>(c_num_Part (3 * ((i:Int) - 4) + 1) 3 (by omega) (by omega) (by omega) (by omega)).mono ?_,fun _ V11 l11=>(c_num_Of ((i:Int) - 4) (by omega) (by omega)).mono ?_⟩⟩
 ·rintro r V6 l6 h
  have h':=h
  obtain ⟨_,_,_,_,_,_,rfl⟩:=h.shape
  exact ⟨_,_,_,_,_,_,_,rfl,fun V7 l7 e7=>⟨_,at2,h'.le l7,z1,t2,e7⟩⟩
 ·rintro r V6 l6 h
  have h':=h
  obtain ⟨_,_,_,_,_,_,rfl⟩:=h.shape
  exact ⟨_,_,_,_,_,_,_,rfl,fun V7 l7 e7=>⟨_,at2,h'.le l7,z2,t2,e7⟩⟩
 ·rintro r V6 l6 h
  have h':=h
  obtain ⟨_,_,_,_,_,_,rfl⟩:=h.shape
  exact ⟨_,_,_,_,_,_,_,rfl,fun V7 l7 e7=>⟨_,at2,h'.le l7,sz4 (by omega),t2,e7⟩⟩
end Go.Proofs.Tryz
/- By program: the conditions of the functions, from their loaded code. -/
namespace Go.Proofs.Tryz
open Go.Eng
set_option maxRecDepth 100000
theorem vc_geo_end (a0:Bool) (a1p:OA) (a1n a1c:Nat) (a2p:OA) (a2n a2c:Nat) (none_:Bool) (V:View) (R:Value->View->Prop)
  (h:((none_=true->(((!a0)=true->(((((a1n:Nat):Int) == (0:Int))=true->(∀V1,V.Le V1->R (.tuple #[.agg #[.int .i64 0,.int .i64 0,.pointer none],.bool (((a2n:Nat):Int) == (0:Int))]) V1))/\((((a1n:Nat):Int) == (0:Int))=false->(∀V2,V.Le V2->R (.tuple #[.agg #[.int .i64 0,.int .i64 0,.pointer none],.bool false]) V2))))/\((!a0)=false->(∀V3,V.Le V3->R (.tuple #[.agg #[.int .i64 0,.int .i64 0,.pointer none],.bool false]) V3))))/\(none_=false->(∀V4,V.Le V4->Acts prog 102 #[.agg #[.bool a0,.slice a1p a1n a1c,.slice a2p a2n a2c]] V4 fun r4_ V5=>∃x1_,∃x2_,∃p3_,r4_=.agg #[.int .i64 x1_,.int .i64 x2_,.pointer p3_]/\(∀V6,V5.Le V6->Acts prog 209 #[.agg #[.bool a0,.slice a1p a1n a1c,.slice a2p a2n a2c]] V6 fun r6_ V7=>∃b4_,r6_=.bool b4_/\(∀V8,V7.Le V8->R (.tuple #[.agg #[.int .i64 x1_,.int .i64 x2_,.pointer p3_],.bool b4_]) V8)))))) :
  Acts prog 171 #[.agg #[.bool a0,.slice a1p a1n a1c,.slice a2p a2n a2c],.bool none_] V R:=
 fn_does (LF:=LF0) (RF:=[1000007]) (β0:=(fun _=>0)) tab_ok mixed [] [] func171 (by kernel_rfl)
  [(0,.agg [.v (.bool a0),.v (.slice a1p a1n a1c),.v (.slice a2p a2n a2c)]),(1,.c (.v (.bool none_)))]
  [] (by kernel_rfl) trivial h (by kernel_rfl)
theorem vc_geo_IvOf (s0:Bool) (s1p:OA) (s1n s1c:Nat) (s2p:OA) (s2n s2c:Nat) (s3:Bool) (s4p:OA) (s4n s4c:Nat) (s5p:OA) (s5n s5c:Nat) (s6:Bool) (s7:Bool) (V:View) (R:Value->View->Prop)
  (h:(∀V1,V.Le V1->Acts prog 171 #[.agg #[.bool s0,.slice s1p s1n s1c,.slice s2p s2n s2c],.bool s6] V1 fun r1_ V2=>∃x1_,∃x2_,∃p3_,∃b4_,r1_=.tuple #[.agg #[.int .i64 x1_,.int .i64 x2_,.pointer p3_],.bool b4_]/\(∀V3,V2.Le V3->Acts prog 171 #[.agg #[.bool s3,.slice s4p s4n s4c,.slice s5p s5n s5c],.bool s7] V3 fun r3_ V4=>∃x5_,∃x6_,∃p7_,∃b8_,r3_=.tuple #[.agg #[.int .i64 x5_,.int .i64 x6_,.pointer p7_],.bool b8_]/\((b4_=true->((b8_=true->(∀V5,V4.Le V5->Acts prog 172 #[.agg #[.int .i64 x1_,.int .i64 x2_,.pointer p3_,.int .i64 x5_,.int .i64 x6_,.pointer p7_,.bool s6,.bool s7]] V5 fun r5_ V6=>∃b9_,r5_=.bool b9_/\(∀V7,V6.Le V7->R (.tuple #[.agg #[.int .i64 x1_,.int .i64 x2_,.pointer p3_,.int .i64 x5_,.int .i64 x6_,.pointer p7_,.bool s6,.bool s7],.bool (!b9_)]) V7)))/\(b8_=false->(∀V8,V4.Le V8->R (.tuple #[.agg #[.int .i64 x1_,.int .i64 x2_,.pointer p3_,.int .i64 x5_,.int .i64 x6_,.pointer p7_,.bool s6,.bool s7],.bool false]) V8))))/\(b4_=false->(∀V9,V4.Le V9->R (.tuple #[.agg #[.int .i64 x1_,.int .i64 x2_,.pointer p3_,.int .i64 x5_,.int .i64 x6_,.pointer p7_,.bool s6,.bool s7],.bool false]) V9)))))) :
  Acts prog 122 #[.agg #[.bool s0,.slice s1p s1n s1c,.slice s2p s2n s2c,.bool s3,.slice s4p s4n s4c,.slice s5p s5n s5c,.bool s6,.bool s7]] V R:=
 fn_does (LF:=LF0) (RF:=[1000007]) (β0:=(fun _=>0)) tab_ok mixed [] [] func122 (by kernel_rfl)
  [(0,.agg [.v (.bool s0),.v (.slice s1p s1n s1c),.v (.slice s2p s2n s2c),.v (.bool s3),.v (.slice s4p s4n s4c),.v (.slice s5p s5n s5c),.v (.bool s6),.v (.bool s7)])]
  [] (by kernel_rfl) trivial h (by kernel_rfl)
theorem vc_geo_Iv_API (v0:Int) (v1:Int) (v2:OA) (v3:Int) (v4:Int) (v5:OA) (v6:Bool) (v7:Bool) (V:View) (R:Value->View->Prop)
  (h:(((!v6)=true->(∀V1,V.Le V1->Acts prog 144 #[.agg #[.int .i64 v0,.int .i64 v1,.pointer v2]] V1 fun r1_ V2=>∃b1_,∃p2_ n2_ c2_,∃p3_ n3_ c3_,r1_=.agg #[.bool b1_,.slice p2_ n2_ c2_,.slice p3_ n3_ c3_]/\(((!v7)=true->(∀V3,V2.Le V3->Acts prog 144 #[.agg #[.int .i64 v3,.int .i64 v4,.pointer v5]] V3 fun r3_ V4=>∃b4_,∃p5_ n5_ c5_,∃p6_ n6_ c6_,r3_=.agg #[.bool b4_,.slice p5_ n5_ c5_,.slice p6_ n6_ c6_]/\(∀V5,V4.Le V5->R (.agg #[.bool b1_,.slice p2_ n2_ c2_,.slice p3_ n3_ c3_,.bool b4_,.slice p5_ n5_ c5_,.slice p6_ n6_ c6_,.bool v6,.bool v7]) V5)))/\((!v7)=false->(∀V6,V2.Le V6->R (.agg #[.bool b1_,.slice p2_ n2_ c2_,.slice p3_ n3_ c3_,.bool false,.slice none 0 0,.slice none 0 0,.bool v6,.bool v7]) V6)))))/\((!v6)=false->(((!v7)=true->(∀V7,V.Le V7->Acts prog 144 #[.agg #[.int .i64 v3,.int .i64 v4,.pointer v5]] V7 fun r7_ V8=>∃b7_,∃p8_ n8_ c8_,∃p9_ n9_ c9_,r7_=.agg #[.bool b7_,.slice p8_ n8_ c8_,.slice p9_ n9_ c9_]/\(∀V9,V8.Le V9->R (.agg #[.bool false,.slice none 0 0,.slice none 0 0,.bool b7_,.slice p8_ n8_ c8_,.slice p9_ n9_ c9_,.bool v6,.bool v7]) V9)))/\((!v7)=false->(∀V10,V.Le V10->R (.agg #[.bool false,.slice none 0 0,.slice none 0 0,.bool false,.slice none 0 0,.slice none 0 0,.bool v6,.bool v7]) V10)))))) :
  Acts prog 104 #[.agg #[.int .i64 v0,.int .i64 v1,.pointer v2,.int .i64 v3,.int .i64 v4,.pointer v5,.bool v6,.bool v7]] V R:=
 fn_does (LF:=LF0) (RF:=[1000007]) (β0:=(fun _=>0)) tab_ok mixed [] [] func104 (by kernel_rfl)
  [(0,.agg [.v (.int .i64 v0),.v (.int .i64 v1),.v (.pointer v2),.v (.int .i64 v3),.v (.int .i64 v4),.v (.pointer v5),.v (.bool v6),.v (.bool v7)])]
  [] (by kernel_rfl) trivial h (by kernel_rfl)
theorem vc_geo_Iv_empty (v0:Int) (v1:Int) (v2:OA) (v3:Int) (v4:Int) (v5:OA) (v6:Bool) (v7:Bool) (V:View) (R:Value->View->Prop)
  (h:(((!v6)=true->(((!v7)=true->(∀V1,V.Le V1->Acts prog 175 #[.agg #[.int .i64 v0,.int .i64 v1,.pointer v2],.agg #[.int .i64 v3,.int .i64 v4,.pointer v5]] V1 fun r1_ V2=>∃x1_,r1_=.int .i64 x1_/\(∀V3,V2.Le V3->R (.bool (decide (x1_ ≥ (0:Int)))) V3)))/\((!v7)=false->(∀V4,V.Le V4->R (.bool false) V4))))/\((!v6)=false->(∀V5,V.Le V5->R (.bool false) V5)))) :
  Acts prog 172 #[.agg #[.int .i64 v0,.int .i64 v1,.pointer v2,.int .i64 v3,.int .i64 v4,.pointer v5,.bool v6,.bool v7]] V R:=
 fn_does (LF:=LF0) (RF:=[1000007]) (β0:=(fun _=>0)) tab_ok mixed [] [] func172 (by kernel_rfl)
  [(0,.agg [.v (.int .i64 v0),.v (.int .i64 v1),.v (.pointer v2),.v (.int .i64 v3),.v (.int .i64 v4),.v (.pointer v5),.v (.bool v6),.v (.bool v7)])]
  [] (by kernel_rfl) trivial h (by kernel_rfl)
theorem vc_geo_Iv_Has (v0:Int) (v1:Int) (v2:OA) (v3:Int) (v4:Int) (v5:OA) (v6:Bool) (v7:Bool) (t0:Int) (t1:Int) (t2:OA) (V:View) (R:Value->View->Prop)
  (h:((v6=true->((v7=true->(∀V1,V.Le V1->R (.bool true) V1))/\(v7=false->(∀V2,V.Le V2->Acts prog 175 #[.agg #[.int .i64 v3,.int .i64 v4,.pointer v5],.agg #[.int .i64 t0,.int .i64 t1,.pointer t2]] V2 fun r2_ V3=>∃x1_,r2_=.int .i64 x1_/\(∀V4,V3.Le V4->R (.bool (decide (x1_ ≥ (0:Int)))) V4)))))/\(v6=false->(∀V5,V.Le V5->Acts prog 175 #[.agg #[.int .i64 v0,.int .i64 v1,.pointer v2],.agg #[.int .i64 t0,.int .i64 t1,.pointer t2]] V5 fun r5_ V6=>∃x2_,r5_=.int .i64 x2_/\(((decide (x2_<=(0:Int)))=true->((v7=true->(∀V7,V6.Le V7->R (.bool true) V7))/\(v7=false->(∀V8,V6.Le V8->Acts prog 175 #[.agg #[.int .i64 v3,.int .i64 v4,.pointer v5],.agg #[.int .i64 t0,.int .i64 t1,.pointer t2]] V8 fun r8_ V9=>∃x3_,r8_=.int .i64 x3_/\(∀V10,V9.Le V10->R (.bool (decide (x3_ ≥ (0:Int)))) V10)))))/\((decide (x2_<=(0:Int)))=false->(∀V11,V6.Le V11->R (.bool false) V11))))))) :
  Acts prog 124 #[.agg #[.int .i64 v0,.int .i64 v1,.pointer v2,.int .i64 v3,.int .i64 v4,.pointer v5,.bool v6,.bool v7],.agg #[.int .i64 t0,.int .i64 t1,.pointer t2]] V R:=
 fn_does (LF:=LF0) (RF:=[1000007]) (β0:=(fun _=>0)) tab_ok mixed [] [] func124 (by kernel_rfl)
  [(0,.agg [.v (.int .i64 v0),.v (.int .i64 v1),.v (.pointer v2),.v (.int .i64 v3),.v (.int .i64 v4),.v (.pointer v5),.v (.bool v6),.v (.bool v7)]),(1,.agg [.v (.int .i64 t0),.v (.int .i64 t1),.v (.pointer t2)])]
  [] (by kernel_rfl) trivial h (by kernel_rfl)
theorem vc_geo_Iv_Neg (v0:Int) (v1:Int) (v2:OA) (v3:Int) (v4:Int) (v5:OA) (v6:Bool) (v7:Bool) (V:View) (R:Value->View->Prop)
  (h:(((!v7)=true->(∀V1,V.Le V1->Acts prog 161 #[.agg #[.int .i64 v3,.int .i64 v4,.pointer v5]] V1 fun r1_ V2=>∃x1_,∃x2_,∃p3_,r1_=.agg #[.int .i64 x1_,.int .i64 x2_,.pointer p3_]/\(((!v6)=true->(∀V3,V2.Le V3->Acts prog 161 #[.agg #[.int .i64 v0,.int .i64 v1,.pointer v2]] V3 fun r3_ V4=>∃x4_,∃x5_,∃p6_,r3_=.agg #[.int .i64 x4_,.int .i64 x5_,.pointer p6_]/\(∀V5,V4.Le V5->R (.agg #[.int .i64 x1_,.int .i64 x2_,.pointer p3_,.int .i64 x4_,.int .i64 x5_,.pointer p6_,.bool v7,.bool v6]) V5)))/\((!v6)=false->(∀V6,V2.Le V6->R (.agg #[.int .i64 x1_,.int .i64 x2_,.pointer p3_,.int .i64 0,.int .i64 0,.pointer none,.bool v7,.bool v6]) V6)))))/\((!v7)=false->(((!v6)=true->(∀V7,V.Le V7->Acts prog 161 #[.agg #[.int .i64 v0,.int .i64 v1,.pointer v2]] V7 fun r7_ V8=>∃x7_,∃x8_,∃p9_,r7_=.agg #[.int .i64 x7_,.int .i64 x8_,.pointer p9_]/\(∀V9,V8.Le V9->R (.agg #[.int .i64 0,.int .i64 0,.pointer none,.int .i64 x7_,.int .i64 x8_,.pointer p9_,.bool v7,.bool v6]) V9)))/\((!v6)=false->(∀V10,V.Le V10->R (.agg #[.int .i64 0,.int .i64 0,.pointer none,.int .i64 0,.int .i64 0,.pointer none,.bool v7,.bool v6]) V10)))))) :
  Acts prog 126 #[.agg #[.int .i64 v0,.int .i64 v1,.pointer v2,.int .i64 v3,.int .i64 v4,.pointer v5,.bool v6,.bool v7]] V R:=
 fn_does (LF:=LF0) (RF:=[1000007]) (β0:=(fun _=>0)) tab_ok mixed [] [] func126 (by kernel_rfl)
  [(0,.agg [.v (.int .i64 v0),.v (.int .i64 v1),.v (.pointer v2),.v (.int .i64 v3),.v (.int .i64 v4),.v (.pointer v5),.v (.bool v6),.v (.bool v7)])]
  [] (by kernel_rfl) trivial h (by kernel_rfl)
theorem vc_geo_FrOf (f0:Bool) (f1p:OA) (f1n f1c:Nat) (f2:Bool) (f3p:OA) (f3n f3c:Nat) (f4:Bool) (f5p:OA) (f5n f5c:Nat) (f6:Bool) (f7p:OA) (f7n f7c:Nat) (f8p:OA) (f8n f8c:Nat) (f9:Bool) (f10p:OA) (f10n f10c:Nat) (f11p:OA) (f11n f11c:Nat) (f12:Bool) (f13:Bool) (V:View) (R:Value->View->Prop)
  (h:(∀V1,V.Le V1->Acts prog 90 #[.agg #[.bool f0,.slice f1p f1n f1c,.bool f2,.slice f3p f3n f3c,.bool f4,.slice f5p f5n f5c]] V1 fun r1_ V2=>∃x1_,∃x2_,∃p3_,∃x4_,∃x5_,∃p6_,∃x7_,∃x8_,∃p9_,∃b10_,r1_=.tuple #[.agg #[.int .i64 x1_,.int .i64 x2_,.pointer p3_,.int .i64 x4_,.int .i64 x5_,.pointer p6_,.int .i64 x7_,.int .i64 x8_,.pointer p9_],.bool b10_]/\(∀V3,V2.Le V3->Acts prog 122 #[.agg #[.bool f6,.slice f7p f7n f7c,.slice f8p f8n f8c,.bool f9,.slice f10p f10n f10c,.slice f11p f11n f11c,.bool f12,.bool f13]] V3 fun r3_ V4=>∃x11_,∃x12_,∃p13_,∃x14_,∃x15_,∃p16_,∃b17_,∃b18_,∃b19_,r3_=.tuple #[.agg #[.int .i64 x11_,.int .i64 x12_,.pointer p13_,.int .i64 x14_,.int .i64 x15_,.pointer p16_,.bool b17_,.bool b18_],.bool b19_]/\((b10_=true->(∀V5,V4.Le V5->R (.tuple #[.agg #[.int .i64 x1_,.int .i64 x2_,.pointer p3_,.int .i64 x4_,.int .i64 x5_,.pointer p6_,.int .i64 x7_,.int .i64 x8_,.pointer p9_,.int .i64 x11_,.int .i64 x12_,.pointer p13_,.int .i64 x14_,.int .i64 x15_,.pointer p16_,.bool b17_,.bool b18_],.bool b19_]) V5))/\(b10_=false->(∀V6,V4.Le V6->R (.tuple #[.agg #[.int .i64 x1_,.int .i64 x2_,.pointer p3_,.int .i64 x4_,.int .i64 x5_,.pointer p6_,.int .i64 x7_,.int .i64 x8_,.pointer p9_,.int .i64 x11_,.int .i64 x12_,.pointer p13_,.int .i64 x14_,.int .i64 x15_,.pointer p16_,.bool b17_,.bool b18_],.bool false]) V6)))))) :
  Acts prog 66 #[.agg #[.bool f0,.slice f1p f1n f1c,.bool f2,.slice f3p f3n f3c,.bool f4,.slice f5p f5n f5c,.bool f6,.slice f7p f7n f7c,.slice f8p f8n f8c,.bool f9,.slice f10p f10n f10c,.slice f11p f11n f11c,.bool f12,.bool f13]] V R:=
 fn_does (LF:=LF0) (RF:=[1000007]) (β0:=(fun _=>0)) tab_ok mixed [] [] func66 (by kernel_rfl)
  [(0,.agg [.v (.bool f0),.v (.slice f1p f1n f1c),.v (.bool f2),.v (.slice f3p f3n f3c),.v (.bool f4),.v (.slice f5p f5n f5c),.v (.bool f6),.v (.slice f7p f7n f7c),.v (.slice f8p f8n f8c),.v (.bool f9),.v (.slice f10p f10n f10c),.v (.slice f11p f11n f11c),.v (.bool f12),.v (.bool f13)])]
  [] (by kernel_rfl) trivial h (by kernel_rfl)
theorem vc_geo_Fr_API (f0:Int) (f1:Int) (f2:OA) (f3:Int) (f4:Int) (f5:OA) (f6:Int) (f7:Int) (f8:OA) (f9:Int) (f10:Int) (f11:OA) (f12:Int) (f13:Int) (f14:OA) (f15:Bool) (f16:Bool) (V:View) (R:Value->View->Prop)
  (h:(∀V1,V.Le V1->Acts prog 103 #[.agg #[.int .i64 f0,.int .i64 f1,.pointer f2,.int .i64 f3,.int .i64 f4,.pointer f5,.int .i64 f6,.int .i64 f7,.pointer f8]] V1 fun r1_ V2=>∃b1_,∃p2_ n2_ c2_,∃b3_,∃p4_ n4_ c4_,∃b5_,∃p6_ n6_ c6_,r1_=.agg #[.bool b1_,.slice p2_ n2_ c2_,.bool b3_,.slice p4_ n4_ c4_,.bool b5_,.slice p6_ n6_ c6_]/\(∀V3,V2.Le V3->Acts prog 104 #[.agg #[.int .i64 f9,.int .i64 f10,.pointer f11,.int .i64 f12,.int .i64 f13,.pointer f14,.bool f15,.bool f16]] V3 fun r3_ V4=>∃b7_,∃p8_ n8_ c8_,∃p9_ n9_ c9_,∃b10_,∃p11_ n11_ c11_,∃p12_ n12_ c12_,∃b13_,∃b14_,r3_=.agg #[.bool b7_,.slice p8_ n8_ c8_,.slice p9_ n9_ c9_,.bool b10_,.slice p11_ n11_ c11_,.slice p12_ n12_ c12_,.bool b13_,.bool b14_]/\(∀V5,V4.Le V5->R (.agg #[.bool b1_,.slice p2_ n2_ c2_,.bool b3_,.slice p4_ n4_ c4_,.bool b5_,.slice p6_ n6_ c6_,.bool b7_,.slice p8_ n8_ c8_,.slice p9_ n9_ c9_,.bool b10_,.slice p11_ n11_ c11_,.slice p12_ n12_ c12_,.bool b13_,.bool b14_]) V5)))) :
  Acts prog 49 #[.agg #[.int .i64 f0,.int .i64 f1,.pointer f2,.int .i64 f3,.int .i64 f4,.pointer f5,.int .i64 f6,.int .i64 f7,.pointer f8,.int .i64 f9,.int .i64 f10,.pointer f11,.int .i64 f12,.int .i64 f13,.pointer f14,.bool f15,.bool f16]] V R:=
 fn_does (LF:=LF0) (RF:=[1000007]) (β0:=(fun _=>0)) tab_ok mixed [] [] func49 (by kernel_rfl)
  [(0,.agg [.v (.int .i64 f0),.v (.int .i64 f1),.v (.pointer f2),.v (.int .i64 f3),.v (.int .i64 f4),.v (.pointer f5),.v (.int .i64 f6),.v (.int .i64 f7),.v (.pointer f8),.v (.int .i64 f9),.v (.int .i64 f10),.v (.pointer f11),.v (.int .i64 f12),.v (.int .i64 f13),.v (.pointer f14),.v (.bool f15),.v (.bool f16)])]
  [] (by kernel_rfl) trivial h (by kernel_rfl)
theorem vc_geo_Segment (p0:Int) (p1:Int) (p2:OA) (p3:Int) (p4:Int) (p5:OA) (q0:Int) (q1:Int) (q2:OA) (q3:Int) (q4:Int) (q5:OA) (V:View) (R:Value->View->Prop)
  (h:(∀V1,V.Le V1->Acts prog 100 #[.agg #[.int .i64 p0,.int .i64 p1,.pointer p2,.int .i64 p3,.int .i64 p4,.pointer p5],.agg #[.int .i64 q0,.int .i64 q1,.pointer q2,.int .i64 q3,.int .i64 q4,.pointer q5]] V1 fun r1_ V2=>∃x1_,∃x2_,∃p3_,∃x4_,∃x5_,∃p6_,∃x7_,∃x8_,∃p9_,∃b10_,r1_=.tuple #[.agg #[.int .i64 x1_,.int .i64 x2_,.pointer p3_,.int .i64 x4_,.int .i64 x5_,.pointer p6_,.int .i64 x7_,.int .i64 x8_,.pointer p9_],.bool b10_]/\(((!b10_)=true->(∀V3,V2.Le V3->R (.tuple #[.agg #[.int .i64 0,.int .i64 0,.pointer none,.int .i64 0,.int .i64 0,.pointer none,.int .i64 0,.int .i64 0,.pointer none,.int .i64 0,.int .i64 0,.pointer none,.int .i64 0,.int .i64 0,.pointer none,.bool false,.bool false],.bool false]) V3))/\((!b10_)=false->(∀V4,V2.Le V4->Acts prog 101 #[.agg #[.int .i64 x1_,.int .i64 x2_,.pointer p3_,.int .i64 x4_,.int .i64 x5_,.pointer p6_,.int .i64 x7_,.int .i64 x8_,.pointer p9_],.agg #[.int .i64 p0,.int .i64 p1,.pointer p2,.int .i64 p3,.int .i64 p4,.pointer p5]] V4 fun r4_ V5=>∃x11_,∃x12_,∃p13_,r4_=.agg #[.int .i64 x11_,.int .i64 x12_,.pointer p13_]/\(∀V6,V5.Le V6->Acts prog 101 #[.agg #[.int .i64 x1_,.int .i64 x2_,.pointer p3_,.int .i64 x4_,.int .i64 x5_,.pointer p6_,.int .i64 x7_,.int .i64 x8_,.pointer p9_],.agg #[.int .i64 q0,.int .i64 q1,.pointer q2,.int .i64 q3,.int .i64 q4,.pointer q5]] V6 fun r6_ V7=>∃x14_,∃x15_,∃p16_,r6_=.agg #[.int .i64 x14_,.int .i64 x15_,.pointer p16_]/\(∀V8,V7.Le V8->R (.tuple #[.agg #[.int .i64 x1_,.int .i64 x2_,.pointer p3_,.int .i64 x4_,.int .i64 x5_,.pointer p6_,.int .i64 x7_,.int .i64 x8_,.pointer p9_,.int .i64 x11_,.int .i64 x12_,.pointer p13_,.int .i64 x14_,.int .i64 x15_,.pointer p16_,.bool false,.bool false],.bool true]) V8))))))) :
  Acts prog 47 #[.agg #[.int .i64 p0,.int .i64 p1,.pointer p2,.int .i64 p3,.int .i64 p4,.pointer p5],.agg #[.int .i64 q0,.int .i64 q1,.pointer q2,.int .i64 q3,.int .i64 q4,.pointer q5]] V R:=
 fn_does (LF:=LF0) (RF:=[1000007]) (β0:=(fun _=>0)) tab_ok mixed [] [] func47 (by kernel_rfl)
  [(0,.agg [.v (.int .i64 p0),.v (.int .i64 p1),.v (.pointer p2),.v (.int .i64 p3),.v (.int .i64 p4),.v (.pointer p5)]),(1,.agg [.v (.int .i64 q0),.v (.int .i64 q1),.v (.pointer q2),.v (.int .i64 q3),.v (.int .i64 q4),.v (.pointer q5)])]
  [] (by kernel_rfl) trivial h (by kernel_rfl)
theorem vc_geo_Fr_End (f0:Int) (f1:Int) (f2:OA) (f3:Int) (f4:Int) (f5:OA) (f6:Int) (f7:Int) (f8:OA) (f9:Int) (f10:Int) (f11:OA) (f12:Int) (f13:Int) (f14:OA) (f15:Bool) (f16:Bool) (V:View) (R:Value->View->Prop)
  (h:((f16=true->(∀V1,V.Le V1->R (.tuple #[.agg #[.int .i64 0,.int .i64 0,.pointer none,.int .i64 0,.int .i64 0,.pointer none],.bool false]) V1))/\(f16=false->(∀V2,V.Le V2->Acts prog 118 #[.agg #[.int .i64 f0,.int .i64 f1,.pointer f2,.int .i64 f3,.int .i64 f4,.pointer f5,.int .i64 f6,.int .i64 f7,.pointer f8],.agg #[.int .i64 f12,.int .i64 f13,.pointer f14]] V2 fun r2_ V3=>∃x1_,∃x2_,∃p3_,∃x4_,∃x5_,∃p6_,r2_=.agg #[.int .i64 x1_,.int .i64 x2_,.pointer p3_,.int .i64 x4_,.int .i64 x5_,.pointer p6_]/\(∀V4,V3.Le V4->R (.tuple #[.agg #[.int .i64 x1_,.int .i64 x2_,.pointer p3_,.int .i64 x4_,.int .i64 x5_,.pointer p6_],.bool true]) V4))))) :
  Acts prog 62 #[.agg #[.int .i64 f0,.int .i64 f1,.pointer f2,.int .i64 f3,.int .i64 f4,.pointer f5,.int .i64 f6,.int .i64 f7,.pointer f8,.int .i64 f9,.int .i64 f10,.pointer f11,.int .i64 f12,.int .i64 f13,.pointer f14,.bool f15,.bool f16]] V R:=
 fn_does (LF:=LF0) (RF:=[1000007]) (β0:=(fun _=>0)) tab_ok mixed [] [] func62 (by kernel_rfl)
  [(0,.agg [.v (.int .i64 f0),.v (.int .i64 f1),.v (.pointer f2),.v (.int .i64 f3),.v (.int .i64 f4),.v (.pointer f5),.v (.int .i64 f6),.v (.int .i64 f7),.v (.pointer f8),.v (.int .i64 f9),.v (.int .i64 f10),.v (.pointer f11),.v (.int .i64 f12),.v (.int .i64 f13),.v (.pointer f14),.v (.bool f15),.v (.bool f16)])]
  [] (by kernel_rfl) trivial h (by kernel_rfl)
theorem vc_fragment_Valid (f0:Bool) (f1p:OA) (f1n f1c:Nat) (f2:Bool) (f3p:OA) (f3n f3c:Nat) (f4:Bool) (f5p:OA) (f5n f5c:Nat) (f6:Bool) (f7p:OA) (f7n f7c:Nat) (f8p:OA) (f8n f8c:Nat) (f9:Bool) (f10p:OA) (f10n f10c:Nat) (f11p:OA) (f11n f11c:Nat) (f12:Bool) (f13:Bool) (V:View) (R:Value->View->Prop)
  (h:(∀V1,V.Le V1->Acts prog 66 #[.agg #[.bool f0,.slice f1p f1n f1c,.bool f2,.slice f3p f3n f3c,.bool f4,.slice f5p f5n f5c,.bool f6,.slice f7p f7n f7c,.slice f8p f8n f8c,.bool f9,.slice f10p f10n f10c,.slice f11p f11n f11c,.bool f12,.bool f13]] V1 fun r1_ V2=>∃x1_,∃x2_,∃p3_,∃x4_,∃x5_,∃p6_,∃x7_,∃x8_,∃p9_,∃x10_,∃x11_,∃p12_,∃x13_,∃x14_,∃p15_,∃b16_,∃b17_,∃b18_,r1_=.tuple #[.agg #[.int .i64 x1_,.int .i64 x2_,.pointer p3_,.int .i64 x4_,.int .i64 x5_,.pointer p6_,.int .i64 x7_,.int .i64 x8_,.pointer p9_,.int .i64 x10_,.int .i64 x11_,.pointer p12_,.int .i64 x13_,.int .i64 x14_,.pointer p15_,.bool b16_,.bool b17_],.bool b18_]/\(∀V3,V2.Le V3->R (.bool b18_) V3))) :
  Acts prog 30 #[.agg #[.bool f0,.slice f1p f1n f1c,.bool f2,.slice f3p f3n f3c,.bool f4,.slice f5p f5n f5c,.bool f6,.slice f7p f7n f7c,.slice f8p f8n f8c,.bool f9,.slice f10p f10n f10c,.slice f11p f11n f11c,.bool f12,.bool f13]] V R:=
 fn_does (LF:=LF0) (RF:=[1000007]) (β0:=(fun _=>0)) tab_ok mixed [] [] func30 (by kernel_rfl)
  [(0,.agg [.v (.bool f0),.v (.slice f1p f1n f1c),.v (.bool f2),.v (.slice f3p f3n f3c),.v (.bool f4),.v (.slice f5p f5n f5c),.v (.bool f6),.v (.slice f7p f7n f7c),.v (.slice f8p f8n f8c),.v (.bool f9),.v (.slice f10p f10n f10c),.v (.slice f11p f11n f11c),.v (.bool f12),.v (.bool f13)])]
  [] (by kernel_rfl) trivial h (by kernel_rfl)
theorem vc_fragment_FromPoints (p0:Bool) (p1p:OA) (p1n p1c:Nat) (p2p:OA) (p2n p2c:Nat) (p3:Bool) (p4p:OA) (p4n p4c:Nat) (p5p:OA) (p5n p5c:Nat) (q0:Bool) (q1p:OA) (q1n q1c:Nat) (q2p:OA) (q2n q2c:Nat) (q3:Bool) (q4p:OA) (q4n q4c:Nat) (q5p:OA) (q5n q5c:Nat) (V:View) (R:Value->View->Prop)
  (h:(∀V1,V.Le V1->Acts prog 48 #[.agg #[.bool p0,.slice p1p p1n p1c,.slice p2p p2n p2c,.bool p3,.slice p4p p4n p4c,.slice p5p p5n p5c]] V1 fun r1_ V2=>∃x1_,∃x2_,∃p3_,∃x4_,∃x5_,∃p6_,r1_=.agg #[.int .i64 x1_,.int .i64 x2_,.pointer p3_,.int .i64 x4_,.int .i64 x5_,.pointer p6_]/\(∀V3,V2.Le V3->Acts prog 48 #[.agg #[.bool q0,.slice q1p q1n q1c,.slice q2p q2n q2c,.bool q3,.slice q4p q4n q4c,.slice q5p q5n q5c]] V3 fun r3_ V4=>∃x7_,∃x8_,∃p9_,∃x10_,∃x11_,∃p12_,r3_=.agg #[.int .i64 x7_,.int .i64 x8_,.pointer p9_,.int .i64 x10_,.int .i64 x11_,.pointer p12_]/\(∀V5,V4.Le V5->Acts prog 47 #[.agg #[.int .i64 x1_,.int .i64 x2_,.pointer p3_,.int .i64 x4_,.int .i64 x5_,.pointer p6_],.agg #[.int .i64 x7_,.int .i64 x8_,.pointer p9_,.int .i64 x10_,.int .i64 x11_,.pointer p12_]] V5 fun r5_ V6=>∃x13_,∃x14_,∃p15_,∃x16_,∃x17_,∃p18_,∃x19_,∃x20_,∃p21_,∃x22_,∃x23_,∃p24_,∃x25_,∃x26_,∃p27_,∃b28_,∃b29_,∃b30_,r5_=.tuple #[.agg #[.int .i64 x13_,.int .i64 x14_,.pointer p15_,.int .i64 x16_,.int .i64 x17_,.pointer p18_,.int .i64 x19_,.int .i64 x20_,.pointer p21_,.int .i64 x22_,.int .i64 x23_,.pointer p24_,.int .i64 x25_,.int .i64 x26_,.pointer p27_,.bool b28_,.bool b29_],.bool b30_]/\(((!b30_)=true->(∀V7,V6.Le V7->R (.tuple #[.agg #[.bool false,.slice none 0 0,.bool false,.slice none 0 0,.bool false,.slice none 0 0,.bool false,.slice none 0 0,.slice none 0 0,.bool false,.slice none 0 0,.slice none 0 0,.bool false,.bool false],.bool false]) V7))/\((!b30_)=false->(∀V8,V6.Le V8->Acts prog 49 #[.agg #[.int .i64 x13_,.int .i64 x14_,.pointer p15_,.int .i64 x16_,.int .i64 x17_,.pointer p18_,.int .i64 x19_,.int .i64 x20_,.pointer p21_,.int .i64 x22_,.int .i64 x23_,.pointer p24_,.int .i64 x25_,.int .i64 x26_,.pointer p27_,.bool b28_,.bool b29_]] V8 fun r8_ V9=>∃b31_,∃p32_ n32_ c32_,∃b33_,∃p34_ n34_ c34_,∃b35_,∃p36_ n36_ c36_,∃b37_,∃p38_ n38_ c38_,∃p39_ n39_ c39_,∃b40_,∃p41_ n41_ c41_,∃p42_ n42_ c42_,∃b43_,∃b44_,r8_=.agg #[.bool b31_,.slice p32_ n32_ c32_,.bool b33_,.slice p34_ n34_ c34_,.bool b35_,.slice p36_ n36_ c36_,.bool b37_,.slice p38_ n38_ c38_,.slice p39_ n39_ c39_,.bool b40_,.slice p41_ n41_ c41_,.slice p42_ n42_ c42_,.bool b43_,.bool b44_]/\(∀V10,V9.Le V10->R (.tuple #[.agg #[.bool b31_,.slice p32_ n32_ c32_,.bool b33_,.slice p34_ n34_ c34_,.bool b35_,.slice p36_ n36_ c36_,.bool b37_,.slice p38_ n38_ c38_,.slice p39_ n39_ c39_,.bool b40_,.slice p41_ n41_ c41_,.slice p42_ n42_ c42_,.bool b43_,.bool b44_],.bool true]) V10)))))))) :
  Acts prog 9 #[.agg #[.bool p0,.slice p1p p1n p1c,.slice p2p p2n p2c,.bool p3,.slice p4p p4n p4c,.slice p5p p5n p5c],.agg #[.bool q0,.slice q1p q1n q1c,.slice q2p q2n q2c,.bool q3,.slice q4p q4n q4c,.slice q5p q5n q5c]] V R:=
 fn_does (LF:=LF0) (RF:=[1000007]) (β0:=(fun _=>0)) tab_ok mixed [] [] func9 (by kernel_rfl)
  [(0,.agg [.v (.bool p0),.v (.slice p1p p1n p1c),.v (.slice p2p p2n p2c),.v (.bool p3),.v (.slice p4p p4n p4c),.v (.slice p5p p5n p5c)]),(1,.agg [.v (.bool q0),.v (.slice q1p q1n q1c),.v (.slice q2p q2n q2c),.v (.bool q3),.v (.slice q4p q4n q4c),.v (.slice q5p q5n q5c)])]
  [] (by kernel_rfl) trivial h (by kernel_rfl)
theorem vc_fragment_end_End (f0:Bool) (f1p:OA) (f1n f1c:Nat) (f2:Bool) (f3p:OA) (f3n f3c:Nat) (f4:Bool) (f5p:OA) (f5n f5c:Nat) (f6:Bool) (f7p:OA) (f7n f7c:Nat) (f8p:OA) (f8n f8c:Nat) (f9:Bool) (f10p:OA) (f10n f10c:Nat) (f11p:OA) (f11n f11c:Nat) (f12:Bool) (f13:Bool) (V:View) (R:Value->View->Prop)
  (h:(∀V1,V.Le V1->Acts prog 66 #[.agg #[.bool f0,.slice f1p f1n f1c,.bool f2,.slice f3p f3n f3c,.bool f4,.slice f5p f5n f5c,.bool f6,.slice f7p f7n f7c,.slice f8p f8n f8c,.bool f9,.slice f10p f10n f10c,.slice f11p f11n f11c,.bool f12,.bool f13]] V1 fun r1_ V2=>∃x1_,∃x2_,∃p3_,∃x4_,∃x5_,∃p6_,∃x7_,∃x8_,∃p9_,∃x10_,∃x11_,∃p12_,∃x13_,∃x14_,∃p15_,∃b16_,∃b17_,∃b18_,r1_=.tuple #[.agg #[.int .i64 x1_,.int .i64 x2_,.pointer p3_,.int .i64 x4_,.int .i64 x5_,.pointer p6_,.int .i64 x7_,.int .i64 x8_,.pointer p9_,.int .i64 x10_,.int .i64 x11_,.pointer p12_,.int .i64 x13_,.int .i64 x14_,.pointer p15_,.bool b16_,.bool b17_],.bool b18_]/\(((!b18_)=true->(∀V3,V2.Le V3->R (.tuple #[.agg #[.bool false,.slice none 0 0,.slice none 0 0,.bool false,.slice none 0 0,.slice none 0 0],.bool false]) V3))/\((!b18_)=false->(∀V4,V2.Le V4->Acts prog 62 #[.agg #[.int .i64 x1_,.int .i64 x2_,.pointer p3_,.int .i64 x4_,.int .i64 x5_,.pointer p6_,.int .i64 x7_,.int .i64 x8_,.pointer p9_,.int .i64 x10_,.int .i64 x11_,.pointer p12_,.int .i64 x13_,.int .i64 x14_,.pointer p15_,.bool b16_,.bool b17_]] V4 fun r4_ V5=>∃x19_,∃x20_,∃p21_,∃x22_,∃x23_,∃p24_,∃b25_,r4_=.tuple #[.agg #[.int .i64 x19_,.int .i64 x20_,.pointer p21_,.int .i64 x22_,.int .i64 x23_,.pointer p24_],.bool b25_]/\(((!b25_)=true->(∀V6,V5.Le V6->R (.tuple #[.agg #[.bool false,.slice none 0 0,.slice none 0 0,.bool false,.slice none 0 0,.slice none 0 0],.bool false]) V6))/\((!b25_)=false->(∀V7,V5.Le V7->Acts prog 83 #[.agg #[.int .i64 x19_,.int .i64 x20_,.pointer p21_,.int .i64 x22_,.int .i64 x23_,.pointer p24_]] V7 fun r7_ V8=>∃b26_,∃p27_ n27_ c27_,∃p28_ n28_ c28_,∃b29_,∃p30_ n30_ c30_,∃p31_ n31_ c31_,r7_=.agg #[.bool b26_,.slice p27_ n27_ c27_,.slice p28_ n28_ c28_,.bool b29_,.slice p30_ n30_ c30_,.slice p31_ n31_ c31_]/\(∀V9,V8.Le V9->R (.tuple #[.agg #[.bool b26_,.slice p27_ n27_ c27_,.slice p28_ n28_ c28_,.bool b29_,.slice p30_ n30_ c30_,.slice p31_ n31_ c31_],.bool true]) V9))))))))) :
  Acts prog 60 #[.agg #[.bool f0,.slice f1p f1n f1c,.bool f2,.slice f3p f3n f3c,.bool f4,.slice f5p f5n f5c,.bool f6,.slice f7p f7n f7c,.slice f8p f8n f8c,.bool f9,.slice f10p f10n f10c,.slice f11p f11n f11c,.bool f12,.bool f13],.func (.func 62) #[] #[]] V R:=
 fn_does (LF:=LF0) (RF:=[1000007]) (β0:=(fun _=>0)) tab_ok mixed [] [] func60 (by kernel_rfl)
  [(0,.agg [.v (.bool f0),.v (.slice f1p f1n f1c),.v (.bool f2),.v (.slice f3p f3n f3c),.v (.bool f4),.v (.slice f5p f5n f5c),.v (.bool f6),.v (.slice f7p f7n f7c),.v (.slice f8p f8n f8c),.v (.bool f9),.v (.slice f10p f10n f10c),.v (.slice f11p f11n f11c),.v (.bool f12),.v (.bool f13)]),(1,.c (.clo 62 []))]
  [] (by kernel_rfl) trivial h (by kernel_rfl)
theorem vc_fragment_End (f0:Bool) (f1p:OA) (f1n f1c:Nat) (f2:Bool) (f3p:OA) (f3n f3c:Nat) (f4:Bool) (f5p:OA) (f5n f5c:Nat) (f6:Bool) (f7p:OA) (f7n f7c:Nat) (f8p:OA) (f8n f8c:Nat) (f9:Bool) (f10p:OA) (f10n f10c:Nat) (f11p:OA) (f11n f11c:Nat) (f12:Bool) (f13:Bool) (V:View) (R:Value->View->Prop)
  (h:(∀V1,V.Le V1->Acts prog 60 #[.agg #[.bool f0,.slice f1p f1n f1c,.bool f2,.slice f3p f3n f3c,.bool f4,.slice f5p f5n f5c,.bool f6,.slice f7p f7n f7c,.slice f8p f8n f8c,.bool f9,.slice f10p f10n f10c,.slice f11p f11n f11c,.bool f12,.bool f13],.func (.func 62) #[] #[]] V1 fun r1_ V2=>∃b1_,∃p2_ n2_ c2_,∃p3_ n3_ c3_,∃b4_,∃p5_ n5_ c5_,∃p6_ n6_ c6_,∃b7_,r1_=.tuple #[.agg #[.bool b1_,.slice p2_ n2_ c2_,.slice p3_ n3_ c3_,.bool b4_,.slice p5_ n5_ c5_,.slice p6_ n6_ c6_],.bool b7_]/\(∀V3,V2.Le V3->R (.tuple #[.agg #[.bool b1_,.slice p2_ n2_ c2_,.slice p3_ n3_ c3_,.bool b4_,.slice p5_ n5_ c5_,.slice p6_ n6_ c6_],.bool b7_]) V3))) :
  Acts prog 17 #[.agg #[.bool f0,.slice f1p f1n f1c,.bool f2,.slice f3p f3n f3c,.bool f4,.slice f5p f5n f5c,.bool f6,.slice f7p f7n f7c,.slice f8p f8n f8c,.bool f9,.slice f10p f10n f10c,.slice f11p f11n f11c,.bool f12,.bool f13]] V R:=
 fn_does (LF:=LF0) (RF:=[1000007]) (β0:=(fun _=>0)) tab_ok mixed [] [] func17 (by kernel_rfl)
  [(0,.agg [.v (.bool f0),.v (.slice f1p f1n f1c),.v (.bool f2),.v (.slice f3p f3n f3c),.v (.bool f4),.v (.slice f5p f5n f5c),.v (.bool f6),.v (.slice f7p f7n f7c),.v (.slice f8p f8n f8c),.v (.bool f9),.v (.slice f10p f10n f10c),.v (.slice f11p f11n f11c),.v (.bool f12),.v (.bool f13)])]
  [] (by kernel_rfl) trivial h (by kernel_rfl)
theorem vc_point_FromInts (x:Int) (y:Int) (V:View) (R:Value->View->Prop)
  (h:(∀V1,V.Le V1->Acts prog 127 #[.int .i64 x] V1 fun r1_ V2=>∃x1_,∃x2_,∃p3_,r1_=.agg #[.int .i64 x1_,.int .i64 x2_,.pointer p3_]/\(∀V3,V2.Le V3->Acts prog 127 #[.int .i64 y] V3 fun r3_ V4=>∃x4_,∃x5_,∃p6_,r3_=.agg #[.int .i64 x4_,.int .i64 x5_,.pointer p6_]/\(∀V5,V4.Le V5->Acts prog 83 #[.agg #[.int .i64 x1_,.int .i64 x2_,.pointer p3_,.int .i64 x4_,.int .i64 x5_,.pointer p6_]] V5 fun r5_ V6=>∃b7_,∃p8_ n8_ c8_,∃p9_ n9_ c9_,∃b10_,∃p11_ n11_ c11_,∃p12_ n12_ c12_,r5_=.agg #[.bool b7_,.slice p8_ n8_ c8_,.slice p9_ n9_ c9_,.bool b10_,.slice p11_ n11_ c11_,.slice p12_ n12_ c12_]/\(∀V7,V6.Le V7->R (.agg #[.bool b7_,.slice p8_ n8_ c8_,.slice p9_ n9_ c9_,.bool b10_,.slice p11_ n11_ c11_,.slice p12_ n12_ c12_]) V7))))) :
  Acts prog 69 #[.int .i64 x,.int .i64 y] V R:=
 fn_does (LF:=LF0) (RF:=[1000007]) (β0:=(fun _=>0)) tab_ok mixed [] [] func69 (by kernel_rfl)
  [(0,.c (.v (.int .i64 x))),(1,.c (.v (.int .i64 y)))]
  [] (by kernel_rfl) trivial h (by kernel_rfl)
theorem vc_point_Same (p0:Bool) (p1p:OA) (p1n p1c:Nat) (p2p:OA) (p2n p2c:Nat) (p3:Bool) (p4p:OA) (p4n p4c:Nat) (p5p:OA) (p5n p5c:Nat) (q0:Bool) (q1p:OA) (q1n q1c:Nat) (q2p:OA) (q2n q2c:Nat) (q3:Bool) (q4p:OA) (q4n q4c:Nat) (q5p:OA) (q5n q5c:Nat) (V:View) (R:Value->View->Prop)
  (h:(∀V1,V.Le V1->Acts prog 48 #[.agg #[.bool p0,.slice p1p p1n p1c,.slice p2p p2n p2c,.bool p3,.slice p4p p4n p4c,.slice p5p p5n p5c]] V1 fun r1_ V2=>∃x1_,∃x2_,∃p3_,∃x4_,∃x5_,∃p6_,r1_=.agg #[.int .i64 x1_,.int .i64 x2_,.pointer p3_,.int .i64 x4_,.int .i64 x5_,.pointer p6_]/\(∀V3,V2.Le V3->Acts prog 48 #[.agg #[.bool q0,.slice q1p q1n q1c,.slice q2p q2n q2c,.bool q3,.slice q4p q4n q4c,.slice q5p q5n q5c]] V3 fun r3_ V4=>∃x7_,∃x8_,∃p9_,∃x10_,∃x11_,∃p12_,r3_=.agg #[.int .i64 x7_,.int .i64 x8_,.pointer p9_,.int .i64 x10_,.int .i64 x11_,.pointer p12_]/\(∀V5,V4.Le V5->Acts prog 128 #[.agg #[.int .i64 x1_,.int .i64 x2_,.pointer p3_,.int .i64 x4_,.int .i64 x5_,.pointer p6_],.agg #[.int .i64 x7_,.int .i64 x8_,.pointer p9_,.int .i64 x10_,.int .i64 x11_,.pointer p12_]] V5 fun r5_ V6=>∃b13_,r5_=.bool b13_/\(∀V7,V6.Le V7->R (.bool b13_) V7))))) :
  Acts prog 70 #[.agg #[.bool p0,.slice p1p p1n p1c,.slice p2p p2n p2c,.bool p3,.slice p4p p4n p4c,.slice p5p p5n p5c],.agg #[.bool q0,.slice q1p q1n q1c,.slice q2p q2n q2c,.bool q3,.slice q4p q4n q4c,.slice q5p q5n q5c]] V R:=
 fn_does (LF:=LF0) (RF:=[1000007]) (β0:=(fun _=>0)) tab_ok mixed [] [] func70 (by kernel_rfl)
  [(0,.agg [.v (.bool p0),.v (.slice p1p p1n p1c),.v (.slice p2p p2n p2c),.v (.bool p3),.v (.slice p4p p4n p4c),.v (.slice p5p p5n p5c)]),(1,.agg [.v (.bool q0),.v (.slice q1p q1n q1c),.v (.slice q2p q2n q2c),.v (.bool q3),.v (.slice q4p q4n q4c),.v (.slice q5p q5n q5c)])]
  [] (by kernel_rfl) trivial h (by kernel_rfl)
end Go.Proofs.Tryz
/- Contracts: the reference's Side and Rev; the program's interval: Neg. -/
namespace Go.Proofs.Tryz
open Go.Eng Go.Big
theorem c_ref04_Side {V:View} {l p:Value} {l_0 l_1 l_2:Int} {p_0 p_1:Rat} (hl:RL V l l_0 l_1 l_2) (hp:RP V p p_0 p_1) {k:Nat} (s0:Sz k ((l_0:Int):Rat)) (s1:Sz k ((l_1:Int):Rat)) (s2:Sz k ((l_2:Int):Rat)) (s3:Sz k p_0) (s4:Sz k p_1) (hk:16 * k + 16 < 274877906944) :
  Acts prog 42 #[l,p] V fun r V'=>r=.int .i64 ((l_0:Rat) * p_0 + (l_1:Rat) * p_1 + (l_2:Rat)).num.sign:=by
 have hl0:=hl
 have hp0:=hp
 obtain ⟨a0,a1,a2,a3,a4,a5,a6,a7,a8,rfl,-,-,-⟩:=hl
 obtain ⟨p0,p1,p2,p3,p4,p5,p6,p7,p8,p9,p10,p11,rfl,-,-⟩:=hp
 refine vc_ref04_Side _ a0 a1 a2 _ a3 a4 a5 _ a6 a7 a8 _ p0 p1 p2 p3 p4 p5 _ p6 p7 p8 p9 p10 p11 V _ fun V1 l1=>(c_ref04_Value (hl0.le l1) (hp0.le l1) s0 s1 s2 s3 s4 (by omega)).mono ?_
 rintro r V2 l2 ⟨u0,u1,u2,u3,u4,u5,rfl,g1,g2⟩
 refine ⟨_,_,_,_,_,_,_,rfl,fun V3 l3=>(c_num_S _ (g1.le l3)).mono ?_⟩
 rintro r V4 l4 rfl
 exact ⟨_,rfl,fun V5 l5=>rfl⟩
end Go.Proofs.Tryz
/- Intervals and fragments: how they lie in memory; the values at a line. -/
namespace Go.Eng
open Go.Big
theorem RR.zero (V:View):RR V (.agg #[.int .i64 0,.int .i64 0,.pointer none]) 0:=.inl ⟨rfl,by unfold Wd; decide⟩
end Go.Eng
namespace Go.Proofs.Tryz
open Go.Eng Go.Big
/-- A span: its ends, and whether they are missing. -/
structure Sp where
 lo:Rat
 hi:Rat
 a:Bool
 b:Bool
/-- An end that is missing is 0. -/
def Sp.can (s:Sp):Prop:=(s.a=true->s.lo=0)/\(s.b=true->s.hi=0)
def Sp.sz (k:Nat) (s:Sp):Prop:=Sz k s.lo/\Sz k s.hi
def Sp.zero:Sp:=⟨0,0,false,false⟩
def SzL (k:Nat) (l:L3):Prop:=Sz k (l.1:Rat)/\Sz k (l.2.1:Rat)/\Sz k (l.2.2:Rat)
/-- An interval of package geo. -/
def RIv (V:View) (v:Value) (s:Sp):Prop:=∃(x1 x2:Int) (p:OA) (y1 y2:Int) (q:OA),v=.agg #[.int .i64 x1,.int .i64 x2,.pointer p,.int .i64 y1,.int .i64 y2,.pointer q,.bool s.a,.bool s.b] /\
 RR V (.agg #[.int .i64 x1,.int .i64 x2,.pointer p]) s.lo/\RR V (.agg #[.int .i64 y1,.int .i64 y2,.pointer q]) s.hi
theorem RIv.le {V V':View} {v:Value} {s:Sp} (h:RIv V v s) (l:V.Le V'):RIv V' v s:=by
 obtain ⟨x1,x2,p,y1,y2,q,e,h1,h2⟩:=h
 exact ⟨x1,x2,p,y1,y2,q,e,h1.le l,h2.le l⟩
/-- A line of package geo with integer coefficients. -/
def RLi (V:View) (v:Value) (l:L3):Prop:=RLn V v (l.1:Rat) (l.2.1:Rat) (l.2.2:Rat)
theorem RLi.le {V V':View} {v:Value} {l:L3} (h:RLi V v l) (e:V.Le V'):RLi V' v l:=RLn.le h e
/-- A fragment of package geo. -/
def RFr (V:View) (v:Value) (l:L3) (s:Sp):Prop:=∃(x1 x2:Int) (p:OA) (y1 y2:Int) (q:OA) (z1 z2:Int) (r:OA) (u1 u2:Int) (t:OA) (w1 w2:Int) (o:OA),
 v=.agg #[.int .i64 x1,.int .i64 x2,.pointer p,.int .i64 y1,.int .i64 y2,.pointer q,.int .i64 z1,.int .i64 z2,.pointer r,.int .i64 u1,.int .i64 u2,.pointer t,.int .i64 w1,.int .i64 w2,.pointer o,.bool s.a,.bool s.b] /\
 RLi V (.agg #[.int .i64 x1,.int .i64 x2,.pointer p,.int .i64 y1,.int .i64 y2,.pointer q,.int .i64 z1,.int .i64 z2,.pointer r]) l /\
 RIv V (.agg #[.int .i64 u1,.int .i64 u2,.pointer t,.int .i64 w1,.int .i64 w2,.pointer o,.bool s.a,.bool s.b]) s
theorem RFr.le {V V':View} {v:Value} {l:L3} {s:Sp} (h:RFr V v l s) (e:V.Le V'):RFr V' v l s:=by
 obtain ⟨x1,x2,p,y1,y2,q,z1,z2,r,u1,u2,t,w1,w2,o,rfl,h1,h2⟩:=h
 exact ⟨x1,x2,p,y1,y2,q,z1,z2,r,u1,u2,t,w1,w2,o,rfl,h1.le e,h2.le e⟩
/-- A number of package api in any form. -/
def RRw (V:View) (v:Value) (b:Bool) (xs ys:List Nat):Prop:=∃p n c p' n' c',v=.agg #[.bool b,.slice p n c,.slice p' n' c']/\RD V p n c xs/\RD V p' n' c' ys
theorem RRw.le {V V':View} {v:Value} {b:Bool} {xs ys:List Nat} (h:RRw V v b xs ys) (l:V.Le V'):RRw V' v b xs ys:=by
 obtain ⟨p,n,c,p',n',c',e,h1,h2⟩:=h; exact ⟨p,n,c,p',n',c',e,h1.le l,h2.le l⟩
theorem RRw.nil {V:View}:RRw V (.agg #[.bool false,.slice none 0 0,.slice none 0 0]) false [] []:=⟨_,_,_,_,_,_,rfl,RD.nil,RD.nil⟩
/-- An end of a span of package api. -/
def RE (V:View) (v:Value) (q:Rat) (no:Bool):Prop:=(no=true->RRw V v false [] [])/\(no=false->RA V v q)
theorem RE.le {V V':View} {v:Value} {q:Rat} {no:Bool} (h:RE V v q no) (l:V.Le V'):RE V' v q no:=⟨fun e=>(h.1 e).le l,fun e=>(h.2 e).le l⟩
theorem RE.shape {V:View} {v:Value} {q:Rat} {no:Bool} (h:RE V v q no):∃b p n c p' n' c',v=.agg #[.bool b,.slice p n c,.slice p' n' c']:=by
 cases no with
 | true=>obtain ⟨_,_,_,_,_,_,e,-⟩:=h.1 rfl; exact ⟨_,_,_,_,_,_,_,e⟩
 | false=>exact (h.2 rfl).shape
/-- A span of package api. -/
def RSp (V:View) (v:Value) (s:Sp):Prop:=∃b p n c p' n' c' d q m e q' m' e',v=.agg #[.bool b,.slice p n c,.slice p' n' c',.bool d,.slice q m e,.slice q' m' e',.bool s.a,.bool s.b] /\
 RE V (.agg #[.bool b,.slice p n c,.slice p' n' c']) s.lo s.a/\RE V (.agg #[.bool d,.slice q m e,.slice q' m' e']) s.hi s.b
theorem RSp.le {V V':View} {v:Value} {s:Sp} (h:RSp V v s) (l:V.Le V'):RSp V' v s:=by
 obtain ⟨b,p,n,c,p',n',c',d,q,m,e,q',m',e',rfl,h1,h2⟩:=h
 exact ⟨_,_,_,_,_,_,_,_,_,_,_,_,_,_,rfl,h1.le l,h2.le l⟩
/-- A fragment of package api. -/
def RFa (V:View) (v:Value) (l:L3) (s:Sp):Prop:=∃b1 p1 n1 c1 b2 p2 n2 c2 b3 p3 n3 c3 b p n c p' n' c' d q m e q' m' e',
 v=.agg #[.bool b1,.slice p1 n1 c1,.bool b2,.slice p2 n2 c2,.bool b3,.slice p3 n3 c3,.bool b,.slice p n c,.slice p' n' c',.bool d,.slice q m e,.slice q' m' e',.bool s.a,.bool s.b] /\
 RL V (.agg #[.bool b1,.slice p1 n1 c1,.bool b2,.slice p2 n2 c2,.bool b3,.slice p3 n3 c3]) l.1 l.2.1 l.2.2/\RSp V (.agg #[.bool b,.slice p n c,.slice p' n' c',.bool d,.slice q m e,.slice q' m' e',.bool s.a,.bool s.b]) s
theorem RFa.le {V V':View} {v:Value} {l:L3} {s:Sp} (h:RFa V v l s) (e:V.Le V'):RFa V' v l s:=by
 obtain ⟨b1,p1,n1,c1,b2,p2,n2,c2,b3,p3,n3,c3,b,p,n,c,p',n',c',d,q,m,f,q',m',f',rfl,h1,h2⟩:=h
 exact ⟨_,_,_,_,_,_,_,_,_,_,_,_,_,_,_,_,_,_,_,_,_,_,_,_,_,_,rfl,h1.le e,h2.le e⟩
/-- A span of the reference. -/
def RSs (V:View) (v:Value) (s:Sp):Prop:=∃b p n c p' n' c' d q m e q' m' e',v=.agg #[.bool b,.slice p n c,.slice p' n' c',.bool d,.slice q m e,.slice q' m' e',.bool s.a,.bool s.b] /\
 RQ V (.agg #[.bool b,.slice p n c,.slice p' n' c']) s.lo/\RQ V (.agg #[.bool d,.slice q m e,.slice q' m' e']) s.hi
theorem RSs.le {V V':View} {v:Value} {s:Sp} (h:RSs V v s) (l:V.Le V'):RSs V' v s:=by
 obtain ⟨b,p,n,c,p',n',c',d,q,m,e,q',m',e',rfl,h1,h2⟩:=h
 exact ⟨_,_,_,_,_,_,_,_,_,_,_,_,_,_,rfl,h1.le l,h2.le l⟩
/-- A fragment of the reference. -/
def RF (V:View) (v:Value) (l:L3) (s:Sp):Prop:=∃b1 p1 n1 c1 b2 p2 n2 c2 b3 p3 n3 c3 b p n c p' n' c' d q m e q' m' e',
 v=.agg #[.bool b1,.slice p1 n1 c1,.bool b2,.slice p2 n2 c2,.bool b3,.slice p3 n3 c3,.bool b,.slice p n c,.slice p' n' c',.bool d,.slice q m e,.slice q' m' e',.bool s.a,.bool s.b] /\
 RL V (.agg #[.bool b1,.slice p1 n1 c1,.bool b2,.slice p2 n2 c2,.bool b3,.slice p3 n3 c3]) l.1 l.2.1 l.2.2/\RSs V (.agg #[.bool b,.slice p n c,.slice p' n' c',.bool d,.slice q m e,.slice q' m' e',.bool s.a,.bool s.b]) s
theorem RF.le {V V':View} {v:Value} {l:L3} {s:Sp} (h:RF V v l s) (e:V.Le V'):RF V' v l s:=by
 obtain ⟨b1,p1,n1,c1,b2,p2,n2,c2,b3,p3,n3,c3,b,p,n,c,p',n',c',d,q,m,f,q',m',f',rfl,h1,h2⟩:=h
 exact ⟨_,_,_,_,_,_,_,_,_,_,_,_,_,_,_,_,_,_,_,_,_,_,_,_,_,_,rfl,h1.le e,h2.le e⟩
theorem rl_shape {V:View} {v:Value} {a b c:Int} (h:RL V v a b c):∃b1 p1 n1 c1 b2 p2 n2 c2 b3 p3 n3 c3,v=.agg #[.bool b1,.slice p1 n1 c1,.bool b2,.slice p2 n2 c2,.bool b3,.slice p3 n3 c3]:=by
 obtain ⟨_,_,_,_,_,_,_,_,_,e,-⟩:=h; exact ⟨_,_,_,_,_,_,_,_,_,_,_,_,e⟩
theorem rp_shape {V:View} {v:Value} {x y:Rat} (h:RP V v x y):∃b1 p1 n1 c1 p2 n2 c2 b3 p3 n3 c3 p4 n4 c4,v=.agg #[.bool b1,.slice p1 n1 c1,.slice p2 n2 c2,.bool b3,.slice p3 n3 c3,.slice p4 n4 c4]:=by
 obtain ⟨_,_,_,_,_,_,_,_,_,_,_,_,e,-⟩:=h; exact ⟨_,_,_,_,_,_,_,_,_,_,_,_,_,_,e⟩
/-! the values at a line -/
def valL (l:L3) (x y:Rat):Rat:=(l.1:Rat) * x + (l.2.1:Rat) * y + (l.2.2:Rat)
def normL (l:L3):Rat:=(l.1:Rat) * (l.1:Rat) + (l.2.1:Rat) * (l.2.1:Rat)
def parL (l:L3) (x y:Rat):Rat:=((l.2.1:Rat) * x - (l.1:Rat) * y) * (normL l)⁻¹
def atX (l:L3) (t:Rat):Rat:=(l.2.1:Rat) * t - (l.1:Rat) * (l.2.2:Rat) * (normL l)⁻¹
def atY (l:L3) (t:Rat):Rat:=-((l.1:Rat) * t) - (l.2.1:Rat) * (l.2.2:Rat) * (normL l)⁻¹
def revL (l:L3):L3:=(-l.1,-l.2.1,-l.2.2)
def Sp.neg (s:Sp):Sp:=⟨if s.b then 0 else -s.hi,if s.a then 0 else -s.lo,s.b,s.a⟩
def Sp.has (s:Sp) (t:Rat):Bool:=(s.a || decide (cmpQ s.lo t<=0)) && (s.b || decide (cmpQ s.hi t ≥ 0))
def Sp.emp (s:Sp):Bool:=!s.a && !s.b && decide (cmpQ s.lo s.hi ≥ 0)
def Nz (l:L3):Prop:=¬ (l.1=0/\l.2.1=0)
theorem sq_nonneg (x:Int):0<=x * x:=by
 rw [← Int.natAbs_mul_self]; exact Int.natCast_nonneg _
theorem normL_eq (l:L3):normL l=((l.1 * l.1 + l.2.1 * l.2.1:Int):Rat):=by unfold normL; simp
theorem Nz.norm {l:L3} (h:Nz l):normL l≠0:=by
 rw [normL_eq]
 have h1:=sq_nonneg l.1
 have h2:=sq_nonneg l.2.1
 have h3:l.1 * l.1 + l.2.1 * l.2.1≠0:=by
  intro e
  have e1:l.1 * l.1=0:=by omega
  have e2:l.2.1 * l.2.1=0:=by omega
  exact h ⟨(Int.mul_eq_zero.1 e1).elim id id,(Int.mul_eq_zero.1 e2).elim id id⟩
 exact_mod_cast h3
theorem num_zero {q:Rat} (h:q≠0):q.num≠0:=fun e=>h (Rat.num_eq_zero.1 e)
theorem k_Param {V:View} {l p:Value} {L:L3} {x y:Rat} (hl:RLi V l L) (hp:RPt V p x y) {k:Nat} (sl:SzL k L) (s1:Sz k x) (s2:Sz k y) (hk:8 * k + 7 < 274877906944) :
  Acts prog 101 #[l,p] V fun r V'=>RR V' r (parL L x y):=by
 refine (c_geo_Ln_Param hl hp sl.1 sl.2.1 sl.2.2 s1 s2 hk).mono ?_
 rintro r V2 l2 g
 have e:parL L x y=((((L.2.1:Rat)) * x + (-(L.1:Rat)) * y) * (((L.2.1:Rat)) * ((L.2.1:Rat)) + (-(L.1:Rat)) * (-(L.1:Rat)))⁻¹):=by
  unfold parL normL; grind
 rw [e]; exact g
theorem sz_parL {L:L3} {x y:Rat} {k:Nat} (sl:SzL k L) (s1:Sz k x) (s2:Sz k y):Sz (8 * k + 7) (parL L x y):=by
 have e:parL L x y=((((L.2.1:Rat)) * x + (-(L.1:Rat)) * y) * (((L.2.1:Rat)) * ((L.2.1:Rat)) + (-(L.1:Rat)) * (-(L.1:Rat)))⁻¹):=by
  unfold parL normL; grind
 rw [e]; exact z_geo_Ln_Param_0 sl.1 sl.2.1 sl.2.2 s1 s2
theorem k_At {V:View} {l t:Value} {L:L3} {x:Rat} (hl:RLi V l L) (ht:RR V t x) {k:Nat} (sl:SzL k L) (s1:Sz k x) (hk:20 * k + 19 < 274877906944) :
  Acts prog 118 #[l,t] V fun r V'=>RPt V' r (atX L x) (atY L x):=by
 refine (c_geo_Ln_At hl ht sl.1 sl.2.1 sl.2.2 s1 hk).mono ?_
 rintro r V2 l2 g
 have e1:atX L x=((L.1:Rat) * ((-(L.2.2:Rat)) * ((L.1:Rat) * (L.1:Rat) + (L.2.1:Rat) * (L.2.1:Rat))⁻¹)) + ((L.2.1:Rat) * x):=by unfold atX normL; grind
 have e2:atY L x=((L.2.1:Rat) * ((-(L.2.2:Rat)) * ((L.1:Rat) * (L.1:Rat) + (L.2.1:Rat) * (L.2.1:Rat))⁻¹)) + ((-(L.1:Rat)) * x):=by unfold atY normL; grind
 rw [e1,e2]; exact g
theorem sz_atX {L:L3} {x:Rat} {k:Nat} (sl:SzL k L) (s1:Sz k x):Sz (20 * k + 19) (atX L x):=by
 have e1:atX L x=((L.1:Rat) * ((-(L.2.2:Rat)) * ((L.1:Rat) * (L.1:Rat) + (L.2.1:Rat) * (L.2.1:Rat))⁻¹)) + ((L.2.1:Rat) * x):=by unfold atX normL; grind
 rw [e1]; exact z_geo_Ln_At_0 sl.1 sl.2.1 sl.2.2 s1
theorem sz_atY {L:L3} {x:Rat} {k:Nat} (sl:SzL k L) (s1:Sz k x):Sz (20 * k + 19) (atY L x):=by
 have e2:atY L x=((L.2.1:Rat) * ((-(L.2.2:Rat)) * ((L.1:Rat) * (L.1:Rat) + (L.2.1:Rat) * (L.2.1:Rat))⁻¹)) + ((-(L.1:Rat)) * x):=by unfold atY normL; grind
 rw [e2]; exact z_geo_Ln_At_1 sl.1 sl.2.1 sl.2.2 s1
theorem k_Reverse {V:View} {l:Value} {L:L3} (hl:RLi V l L) {k:Nat} (sl:SzL k L) (hk:1 * k + 1 < 274877906944) :
  Acts prog 125 #[l] V fun r V'=>RLi V' r (revL L):=by
 refine (c_geo_Ln_Reverse hl sl.1 sl.2.1 sl.2.2 hk).mono ?_
 rintro r V2 l2 g
 unfold RLi revL
 simpa using g
theorem SzL.rev {k:Nat} {L:L3} (h:SzL k L):SzL k (revL L):=by
 unfold SzL revL
 simp only [Rat.intCast_neg]
 exact ⟨h.1.neg,h.2.1.neg,h.2.2.neg⟩
/-! the same for the reference -/
theorem r_norm {L:L3} (h:Nz L):((((((L.2.1:Int):Rat))) * ((((L.2.1:Int):Rat)))) + (((-(((L.1:Int):Rat)))) * ((-(((L.1:Int):Rat)))))).num≠0:=by
 have:(((((L.2.1:Int):Rat))) * ((((L.2.1:Int):Rat)))) + (((-(((L.1:Int):Rat)))) * ((-(((L.1:Int):Rat)))))=normL L:=by unfold normL; grind
 rw [this]
 exact num_zero h.norm
theorem r_Param {V:View} {l p:Value} {L:L3} {x y:Rat} (hl:RL V l L.1 L.2.1 L.2.2) (hp:RP V p x y) (hz:Nz L) {k:Nat} (sl:SzL k L) (s1:Sz k x) (s2:Sz k y) (hk:8 * k + 7 < 274877906944) :
  Acts prog 52 #[l,p] V fun r V'=>RQ V' r (parL L x y):=by
 refine (c_ref04_Param hl hp (r_norm hz) sl.1 sl.2.1 sl.2.2 s1 s2 hk).mono ?_
 rintro r V2 l2 g
 have e:parL L x y=((((x) * ((((L.2.1:Int):Rat)))) + ((y) * ((-(((L.1:Int):Rat)))))) * ((((((L.2.1:Int):Rat))) * ((((L.2.1:Int):Rat)))) + (((-(((L.1:Int):Rat)))) * ((-(((L.1:Int):Rat))))))⁻¹):=by
  unfold parL normL; grind
 rw [e]; exact g
theorem r_At {V:View} {l t:Value} {L:L3} {x:Rat} (hl:RL V l L.1 L.2.1 L.2.2) (ht:RQ V t x) (hz:Nz L) {k:Nat} (sl:SzL k L) (s1:Sz k x) (hk:18 * k + 16 < 274877906944) :
  Acts prog 19 #[l,t] V fun r V'=>RP V' r (atX L x) (atY L x):=by
 refine (c_ref04_At hl ht (r_norm hz) sl.1 sl.2.1 sl.2.2 s1 hk).mono ?_
 rintro r V2 l2 g
 have e1:atX L x=(((-((((L.2.2:Int):Rat)) * ((((((L.2.1:Int):Rat))) * ((((L.2.1:Int):Rat)))) + (((-(((L.1:Int):Rat)))) * ((-(((L.1:Int):Rat))))))⁻¹)) * (((L.1:Int):Rat))) + (x) * (((L.2.1:Int):Rat))):=by unfold atX normL; grind
 have e2:atY L x=(((-((((L.2.2:Int):Rat)) * ((((((L.2.1:Int):Rat))) * ((((L.2.1:Int):Rat)))) + (((-(((L.1:Int):Rat)))) * ((-(((L.1:Int):Rat))))))⁻¹)) * (((L.2.1:Int):Rat))) + (x) * (-(((L.1:Int):Rat)))):=by unfold atY normL; grind
 rw [e1,e2]; exact g
theorem r_Side {V:View} {l p:Value} {L:L3} {x y:Rat} (hl:RL V l L.1 L.2.1 L.2.2) (hp:RP V p x y) {k:Nat} (sl:SzL k L) (s1:Sz k x) (s2:Sz k y) (hk:16 * k + 16 < 274877906944) :
  Acts prog 42 #[l,p] V fun r V'=>r=.int .i64 (valL L x y).num.sign:=c_ref04_Side hl hp sl.1 sl.2.1 sl.2.2 s1 s2 hk
end Go.Proofs.Tryz
/- Contracts: geo.scaled, Make, Through, Segment. -/
namespace Go.Proofs.Tryz
open Go.Eng Go.Big
/-- Three numbers in a row; those ahead of i are scaled by f. -/
structure Scl (V:View) (vs:List Value) (i:Int) (f a b c:Rat):Prop where
 h0:0<=i
 h3:i<=3
 row:∃(x1 x2:Int) (p:OA) (y1 y2:Int) (q:OA) (z1 z2:Int) (r:OA),vs=[.int .i64 x1,.int .i64 x2,.pointer p,.int .i64 y1,.int .i64 y2,.pointer q,.int .i64 z1,.int .i64 z2,.pointer r] /\
  RR V (.agg #[.int .i64 x1,.int .i64 x2,.pointer p]) (if 0 < i then a * f else a)/\RR V (.agg #[.int .i64 y1,.int .i64 y2,.pointer q]) (if 1 < i then b * f else b)/\RR V (.agg #[.int .i64 z1,.int .i64 z2,.pointer r]) (if 2 < i then c * f else c)
theorem Scl.le {V V':View} {vs:List Value} {i:Int} {f a b c:Rat} (h:Scl V vs i f a b c) (l:V.Le V'):Scl V' vs i f a b c:=by
 obtain ⟨h0,h3,x1,x2,p,y1,y2,q,z1,z2,r,e,g1,g2,g3⟩:=h
 exact ⟨h0,h3,x1,x2,p,y1,y2,q,z1,z2,r,e,g1.le l,g2.le l,g3.le l⟩
theorem c_geo_scaled {V:View} {u:Value} {f a b c:Rat} {lb:Nat} {vs:List Value} (hf:RR V u f) (hv:Scl V vs 0 f a b c) (hw:V.w.heap[lb]?=some (.cells vs.toArray 108 (0,0))) (hx:V.X lb)
  {k:Nat} (sf:Sz k f) (sa:Sz k a) (sb:Sz k b) (sc:Sz k c) (hk:2 * k < 1099511627776) :
  Acts prog 196 #[u,.slice (some ⟨lb,0,none⟩) 3 3] V fun r V'=>∃(bk:Nat) (ws:List Value),r=.slice (some ⟨bk,0,none⟩) 3 3/\V'.w.heap[bk]?=some (.cells ws.toArray 108 (0,0))/\(V.w.heap.size<=bk \/ bk=lb)/\Scl (V'.hideG (ws≠[]) bk) ws 3 f a b c:=by
 have hf0:=hf
 obtain ⟨f0,f1,f2,rfl⟩:=hf.shape
 have hne:vs≠[]:=by obtain ⟨_,_,x1,x2,p,y1,y2,q,z1,z2,r,rfl,-⟩:=hv; exact fun h=>nomatch h
 refine vc_geo_scaled f0 f1 f2 lb 3 3 vs V _ (fun _=>hw) (fun _=>hx) ⟨fun z V'=>Scl V' z.2 z.1 f a b c/\RR V' (.agg #[.int .i64 f0,.int .i64 f1,.pointer f2]) f,fun z=>(3 - z.1).toNat,⟨(0,vs),by (try dsimp only); and_intros <;> trivial,hv,hf0⟩,?_⟩
 rintro ⟨i,ws⟩ V1 l1 ⟨hs,hf1⟩
 refine ⟨rfl,fun hi=>?_,fun hi=>?_⟩
 ·have hi:i < 3:=of_decide_eq_true hi
  dsimp only
  obtain ⟨h0,h3,x1,x2,p,y1,y2,q,z1,z2,r,rfl,g1,g2,g3⟩:=hs
  have w:i64.wrap (i + 1)=i + 1:=i64w (by omega)
  rw [w]
  have c3:i=0 \/ i=1 \/ i=2:=by omega
  rcases c3 with rfl | rfl | rfl
  ·rw [if_neg (by (try dsimp only); decide)] at g1; rw [if_neg (by (try dsimp only); decide)] at g2; rw [if_neg (by (try dsimp only); decide)] at g3
   refine ⟨⟨by decide,by decide⟩,by decide,x1,x2,p,⟨by simp,rfl⟩,fun V2 l2=>(c_R_Mul (g1.le l2) (hf1.le l2) sa sf (by omega)).mono ?_⟩
   rintro o V3 l3 g
   have g0:=g
   obtain ⟨w1,w2,w3,rfl⟩:=g.shape
   exact ⟨_,_,_,rfl,⟨by decide,by decide⟩,by decide,by simp,(1,[.int .i64 w1,.int .i64 w2,.pointer w3,.int .i64 y1,.int .i64 y2,.pointer q,.int .i64 z1,.int .i64 z2,.pointer r]),by dsimp only; decide,by and_intros <;> rfl,⟨by dsimp only; decide,by dsimp only; decide,_,_,_,_,_,_,_,_,_,rfl,by rw [if_pos (by (try dsimp only); decide)]; exact g0,by rw [if_neg (by (try dsimp only); decide)]; exact g2.le (l2.trans l3),by rw [if_neg (by (try dsimp only); decide)]; exact g3.le (l2.trans l3)⟩,hf1.le (l2.trans l3)⟩
  ·rw [if_pos (by (try dsimp only); decide)] at g1; rw [if_neg (by (try dsimp only); decide)] at g2; rw [if_neg (by (try dsimp only); decide)] at g3
   refine ⟨⟨by decide,by decide⟩,by decide,y1,y2,q,⟨by simp,rfl⟩,fun V2 l2=>(c_R_Mul (g2.le l2) (hf1.le l2) sb sf (by omega)).mono ?_⟩
   rintro o V3 l3 g
   have g0:=g
   obtain ⟨w1,w2,w3,rfl⟩:=g.shape
   exact ⟨_,_,_,rfl,⟨by decide,by decide⟩,by decide,by simp,(2,[.int .i64 x1,.int .i64 x2,.pointer p,.int .i64 w1,.int .i64 w2,.pointer w3,.int .i64 z1,.int .i64 z2,.pointer r]),by dsimp only; decide,by and_intros <;> rfl,⟨by dsimp only; decide,by dsimp only; decide,_,_,_,_,_,_,_,_,_,rfl,by rw [if_pos (by (try dsimp only); decide)]; exact g1.le (l2.trans l3),by rw [if_pos (by (try dsimp only); decide)]; exact g0,by rw [if_neg (by (try dsimp only); decide)]; exact g3.le (l2.trans l3)⟩,hf1.le (l2.trans l3)⟩
  ·rw [if_pos (by (try dsimp only); decide)] at g1; rw [if_pos (by (try dsimp only); decide)] at g2; rw [if_neg (by (try dsimp only); decide)] at g3
   refine ⟨⟨by decide,by decide⟩,by decide,z1,z2,r,⟨by simp,rfl⟩,fun V2 l2=>(c_R_Mul (g3.le l2) (hf1.le l2) sc sf (by omega)).mono ?_⟩
   rintro o V3 l3 g
   have g0:=g
   obtain ⟨w1,w2,w3,rfl⟩:=g.shape
   exact ⟨_,_,_,rfl,⟨by decide,by decide⟩,by decide,by simp,(3,[.int .i64 x1,.int .i64 x2,.pointer p,.int .i64 y1,.int .i64 y2,.pointer q,.int .i64 w1,.int .i64 w2,.pointer w3]),by dsimp only; decide,by and_intros <;> rfl,⟨by dsimp only; decide,by dsimp only; decide,_,_,_,_,_,_,_,_,_,rfl,by rw [if_pos (by (try dsimp only); decide)]; exact g1.le (l2.trans l3),by rw [if_pos (by (try dsimp only); decide)]; exact g2.le (l2.trans l3),by rw [if_pos (by (try dsimp only); decide)]; exact g0⟩,hf1.le (l2.trans l3)⟩
 ·have hi:¬ i < 3:=of_decide_eq_false hi
  obtain rfl:i=3:=by have:=hs.h3; omega
  dsimp only
  intro V4 bk l4 e4 n4
  have hne':ws≠[]:=by obtain ⟨_,_,x1,x2,p,y1,y2,q,z1,z2,r,rfl,-⟩:=hs; exact fun h=>nomatch h
  refine ⟨bk,ws,rfl,e4 hne',?_,hs.le l4⟩
  rcases n4 hne' with h | ⟨-,h⟩ | h
  ·exact .inl h
  ·exact .inr h
  ·exact h.elim
theorem sz_gI {a b c:Rat} {k:Nat} (sa:Sz k a) (sb:Sz k b) (sc:Sz k c):Sz (3 * k + 2) (gcdQ (gcdQ a b) c)⁻¹:=
 sz_inv (Sz.mono (Sz_gcdQ (Sz_gcdQ sa sb) sc) (by omega))
theorem sz_mkLn {a b c:Rat} {k:Nat} (sa:Sz k a) (sb:Sz k b) (sc:Sz k c) (h:¬ (a=0/\b=0)):SzL (4 * k + 3) (mkLn a b c):=by
 obtain ⟨-,e1,e2,e3⟩:=mkLn_spec (c:=c) h
 have sg:=sz_gI sa sb sc
 unfold SzL
 rw [← e1,← e2,← e3]
 exact ⟨Sz.mono (Sz.mul sa sg) (by omega),Sz.mono (Sz.mul sb sg) (by omega),Sz.mono (Sz.mul sc sg) (by omega)⟩
theorem c_geo_Make {V:View} {u v w:Value} {a b c:Rat} (ha:RR V u a) (hb:RR V v b) (hc:RR V w c) {k:Nat} (sa:Sz k a) (sb:Sz k b) (sc:Sz k c) (hk:8 * k + 8 < 274877906944) :
  Acts prog 159 #[u,v,w] V fun r V'=>(a=0/\b=0->∃l,r=.tuple #[l,.bool false]/\RLi V' l (0,0,0))/\(¬ (a=0/\b=0)->∃l,r=.tuple #[l,.bool true]/\RLi V' l (mkLn a b c)):=by
 have ha0:=ha
 have hb0:=hb
 have hc0:=hc
 obtain ⟨a0,a1,a2,rfl⟩:=ha.shape
 obtain ⟨b0,b1,b2,rfl⟩:=hb.shape
 obtain ⟨c0,c1,c2,rfl⟩:=hc.shape
 have sg:=sz_gI sa sb sc
 have gen:∀V6:View,V.Le V6->¬ (a=0/\b=0)->(∀V6':View,V6.Le V6'->Acts prog 154 #[.agg #[.int .i64 a0,.int .i64 a1,.pointer a2],.agg #[.int .i64 b0,.int .i64 b1,.pointer b2]] V6' fun r6_ V7=>∃x3_:Int,∃x4_:Int,∃p5_:OA,r6_=.agg #[.int .i64 x3_,.int .i64 x4_,.pointer p5_]/\(∀V8:View,V7.Le V8->Acts prog 154 #[.agg #[.int .i64 x3_,.int .i64 x4_,.pointer p5_],.agg #[.int .i64 c0,.int .i64 c1,.pointer c2]] V8 fun r8_ V9=>∃x6_:Int,∃x7_:Int,∃p8_:OA,r8_=.agg #[.int .i64 x6_,.int .i64 x7_,.pointer p8_]/\(∀V10:View,V9.Le V10->Acts prog 197 #[.agg #[.int .i64 x6_,.int .i64 x7_,.pointer p8_]] V10 fun r10_ V11=>∃x9_:Int,∃x10_:Int,∃p11_:OA,r10_=.agg #[.int .i64 x9_,.int .i64 x10_,.pointer p11_]/\(∀V12:View,V11.Le V12->∀bk12_:Nat,(V12.w.heap[bk12_]?=some (.cells #[.int .i64 a0,.int .i64 a1,.pointer a2,.int .i64 b0,.int .i64 b1,.pointer b2,.int .i64 c0,.int .i64 c1,.pointer c2] 108 (0,0)))->(V12.H bk12_)->Acts prog 196 #[.agg #[.int .i64 x9_,.int .i64 x10_,.pointer p11_],.slice (some ⟨bk12_,0,none⟩) 3 3] (V12.lend [bk12_]) fun r12_ V13=>∃(bm14_:Nat) (vm15_:List Value),(vm15_≠[]->V13.w.heap[bm14_]?=some (.cells vm15_.toArray 108 (0,0)))/\(vm15_≠[]->V12.w.heap.size<=bm14_ \/ bm14_=bk12_)/\∃(p13_:OA) (n13_ c13_:Nat),r12_=.slice (mA bm14_ c13_) n13_ c13_/\((0<=(0:Int)/\(0:Int) < ((n13_:Nat):Int))/\(n13_<=c13_)/\(∃x16_:Int,∃x17_:Int,∃p18_:OA,(3<=vm15_.length/\(vm15_.drop 0).take 3=[.int .i64 x16_,.int .i64 x17_,.pointer p18_])/\((0<=(1:Int)/\(1:Int) < ((n13_:Nat):Int))/\(n13_<=c13_)/\(∃x19_:Int,∃x20_:Int,∃p21_:OA,(6<=vm15_.length/\(vm15_.drop 3).take 3=[.int .i64 x19_,.int .i64 x20_,.pointer p21_])/\((0<=(2:Int)/\(2:Int) < ((n13_:Nat):Int))/\(n13_<=c13_)/\(∃x22_:Int,∃x23_:Int,∃p24_:OA,(9<=vm15_.length/\(vm15_.drop 6).take 3=[.int .i64 x22_,.int .i64 x23_,.pointer p24_])/\(∀V14:View,(V13.shut.hideG (vm15_≠[]) bm14_).Le V14->(fun (r:Value) (V':View)=>(a=0/\b=0->∃l,r=.tuple #[l,.bool false]/\RLi V' l (0,0,0))/\(¬ (a=0/\b=0)->∃l,r=.tuple #[l,.bool true]/\RLi V' l (mkLn a b c))) (.tuple #[.agg #[.int .i64 x16_,.int .i64 x17_,.pointer p18_,.int .i64 x19_,.int .i64 x20_,.pointer p21_,.int .i64 x22_,.int .i64 x23_,.pointer p24_],.bool true]) V14))))))))))):=by
  intro V6 l6 hne V6' l6'
  refine (c_frac_Gcd (ha0.le (l6.trans l6')) (hb0.le (l6.trans l6')) sa sb (by omega)).mono ?_
  rintro r V7 l7 g1
  have g10:=g1
  obtain ⟨_,_,_,rfl⟩:=g1.shape
  refine ⟨_,_,_,rfl,fun V8 l8=>(c_frac_Gcd (g10.le l8) (hc0.le (l6.trans (l6'.trans (l7.trans l8)))) (Sz_gcdQ sa sb) sc (by omega)).mono ?_⟩
  rintro r V9 l9 g2
  have g20:=g2
  obtain ⟨_,_,_,rfl⟩:=g2.shape
  refine ⟨_,_,_,rfl,fun V10 l10=>(c_R_Inv (g20.le l10) (Sz_gcdQ (Sz_gcdQ sa sb) sc) (by omega)).mono ?_⟩
  rintro r V11 l11 g3
  have g30:=g3
  obtain ⟨_,_,_,rfl⟩:=g3.shape
  refine ⟨_,_,_,rfl,fun V12 l12 bk e12 h12=>?_⟩
  have l012:V.Le (V12.lend [bk]):=fun b o h=>l12 b o (l11 b o (l10 b o (l9 b o (l8 b o (l7 b o (l6' b o (l6 b o h)))))))
  have l1112:V11.Le (V12.lend [bk]):=fun b o h=>l12 b o h
  refine (c_geo_scaled (V:=V12.lend [bk]) (a:=a) (b:=b) (c:=c) (lb:=bk) (vs:=[.int .i64 a0,.int .i64 a1,.pointer a2,.int .i64 b0,.int .i64 b1,.pointer b2,.int .i64 c0,.int .i64 c1,.pointer c2]) (g30.le l1112)
   ⟨by decide,by decide,_,_,_,_,_,_,_,_,_,rfl,by rw [if_neg (by (try dsimp only); decide)]; exact ha0.le l012,by rw [if_neg (by (try dsimp only); decide)]; exact hb0.le l012,by rw [if_neg (by (try dsimp only); decide)]; exact hc0.le l012⟩ e12 ⟨by simp,h12⟩ (Sz.mono sg (by omega):Sz (3 * k + 2) _) (Sz.mono sa (by omega)) (Sz.mono sb (by omega)) (Sz.mono sc (by omega)) (by omega)).mono ?_
  rintro r V13 l13 ⟨bm,ws,rfl,e13,n13,hs⟩
  obtain ⟨-,-,x1,x2,p,y1,y2,q,z1,z2,r,rfl,s1,s2,s3⟩:=hs
  rw [if_pos (by (try dsimp only); decide)] at s1 s2 s3
  refine ⟨bm,_,fun _=>e13,fun _=>n13,none,3,3,rfl,⟨by decide,by decide⟩,by decide,x1,x2,p,⟨by simp,rfl⟩,⟨by decide,by decide⟩,by decide,y1,y2,q,⟨by simp,rfl⟩,⟨by decide,by decide⟩,by decide,z1,z2,r,⟨by simp,rfl⟩,fun V14 l14=>⟨fun h=>absurd h hne,fun _=>⟨_,rfl,?_⟩⟩⟩
  obtain ⟨-,e1,e2,e3⟩:=mkLn_spec (c:=c) hne
  have l14':(V13.hideG ([Value.int .i64 x1,.int .i64 x2,.pointer p,.int .i64 y1,.int .i64 y2,.pointer q,.int .i64 z1,.int .i64 z2,.pointer r]≠[]) bm).Le V14:=fun b o h=>l14 b o h
  refine ⟨_,_,_,_,_,_,_,_,_,rfl,?_,?_,?_⟩
  ·rw [← e1]; exact s1.le l14'
  ·rw [← e2]; exact s2.le l14'
  ·rw [← e3]; exact s3.le l14'
 refine vc_geo_Make a0 a1 a2 b0 b1 b2 c0 c1 c2 V _ fun V1 l1=>(c_R_Zero (ha0.le l1)).mono ?_
 rintro r V2 l2 rfl
 refine ⟨_,rfl,fun hz V3 l3=>(c_R_Zero (hb0.le (l1.trans (l2.trans l3)))).mono ?_,fun hz=>?_⟩
 ·rintro r V4 l4 rfl
  refine ⟨_,rfl,fun hy V5 l5=>?_,fun hy=>gen V4 (l1.trans (l2.trans (l3.trans l4))) (fun h=>of_decide_eq_false hy h.2)⟩
  have hz:=of_decide_eq_true hz
  have hy:=of_decide_eq_true hy
  refine ⟨fun _=>⟨_,rfl,_,_,_,_,_,_,_,_,_,rfl,RR.zero _,RR.zero _,RR.zero _⟩,fun h=>absurd ⟨hz,hy⟩ h⟩
 ·exact gen V2 (l1.trans l2) (fun h=>of_decide_eq_false hz h.1)
/-- The line through two points. -/
def thrL (px py qx qy:Rat):L3:=mkLn (-(qy - py)) (qx - px) (-(-(qy - py) * px + (qx - px) * py))
theorem thrL_ne {px py qx qy:Rat} (h:¬ (px=qx/\py=qy)):¬ (-(qy - py)=0/\qx - px=0):=by
 rintro ⟨h1,h2⟩; exact h ⟨by grind,by grind⟩
theorem thrL_eq {px py qx qy:Rat}:(px=qx/\py=qy)↔(-(qy - py)=0/\qx - px=0):=⟨fun ⟨h1,h2⟩=>⟨by grind,by grind⟩,fun ⟨h1,h2⟩=>⟨by grind,by grind⟩⟩
theorem thrL_nz {px py qx qy:Rat} (h:¬ (px=qx/\py=qy)):Nz (thrL px py qx qy):=mkLn_nz (thrL_ne h)
theorem sz_thrL {px py qx qy:Rat} {k:Nat} (s1:Sz k px) (s2:Sz k py) (s3:Sz k qx) (s4:Sz k qy) (h:¬ (px=qx/\py=qy)):SzL (40 * k + 40) (thrL px py qx qy):=by
 have ta:Sz (2 * k + 1) (-(qy - py)):=Sz.mono (s4.sub s2).neg (by omega)
 have tb:Sz (2 * k + 1) (qx - px):=Sz.mono (s3.sub s1) (by omega)
 have tc:Sz (8 * k + 8) (-(-(qy - py) * px + (qx - px) * py)):=Sz.mono ((ta.mul s1).add (tb.mul s2)).neg (by omega)
 have:=sz_mkLn (k:=8 * k + 8) (Sz.mono ta (by omega)) (Sz.mono tb (by omega)) tc (thrL_ne h)
 exact ⟨Sz.mono this.1 (by omega),Sz.mono this.2.1 (by omega),Sz.mono this.2.2 (by omega)⟩
theorem c_geo_Through {V:View} {u v:Value} {px py qx qy:Rat} (hp:RPt V u px py) (hq:RPt V v qx qy) {k:Nat} (s1:Sz k px) (s2:Sz k py) (s3:Sz k qx) (s4:Sz k qy) (hk:100 * k + 100 < 274877906944) :
  Acts prog 100 #[u,v] V fun r V'=>(px=qx/\py=qy->∃l,r=.tuple #[l,.bool false]/\RLi V' l (0,0,0))/\(¬ (px=qx/\py=qy)->∃l,r=.tuple #[l,.bool true]/\RLi V' l (thrL px py qx qy)):=by
 have hp0:=hp
 have hq0:=hq
 obtain ⟨p0,p1,p2,p3,p4,p5,rfl,-,-⟩:=hp
 obtain ⟨q0,q1,q2,q3,q4,q5,rfl,-,-⟩:=hq
 have ta:Sz (2 * k + 1) (-(qy - py)):=Sz.mono (s4.sub s2).neg (by omega)
 have tb:Sz (2 * k + 1) (qx - px):=Sz.mono (s3.sub s1) (by omega)
 have td:Sz (2 * k + 1) (qy - py):=Sz.mono (s4.sub s2) (by omega)
 have tc:Sz (8 * k + 8) (-(qy - py) * px + (qx - px) * py):=Sz.mono ((ta.mul s1).add (tb.mul s2)) (by omega)
 refine vc_geo_Through p0 p1 p2 p3 p4 p5 q0 q1 q2 q3 q4 q5 V _ fun V1 l1=>(c_geo_Pt_Sub (hq0.le l1) (hp0.le l1) s3 s4 s1 s2 (by omega)).mono ?_
 rintro r V2 l2 g1
 have g10:=g1
 obtain ⟨_,_,_,_,_,_,rfl,-,-⟩:=g1
 refine ⟨_,_,_,_,_,_,rfl,fun V3 l3=>(c_geo_Pt_Turn (g10.le l3) tb td (by omega)).mono ?_⟩
 rintro r V4 l4 g2
 have g20:=g2
 obtain ⟨_,_,_,_,_,_,rfl,g21,g22⟩:=g2
 refine ⟨_,_,_,_,_,_,rfl,fun V5 l5=>(c_geo_Pt_Dot (g20.le l5) (hp0.le (l1.trans (l2.trans (l3.trans (l4.trans l5))))) (k:=2 * k + 1) ta tb (Sz.mono s1 (by omega)) (Sz.mono s2 (by omega)) (by omega)).mono ?_⟩
 rintro r V6 l6 g3
 have g30:=g3
 obtain ⟨_,_,_,rfl⟩:=g3.shape
 refine ⟨_,_,_,rfl,fun V7 l7=>(c_R_Neg (g30.le l7) tc (by omega)).mono ?_⟩
 rintro r V8 l8 g4
 have g40:=g4
 obtain ⟨_,_,_,rfl⟩:=g4.shape
 refine ⟨_,_,_,rfl,fun V9 l9=>(c_geo_Make (g21.le (l5.trans (l6.trans (l7.trans (l8.trans l9))))) (g22.le (l5.trans (l6.trans (l7.trans (l8.trans l9))))) (g40.le l9) (k:=8 * k + 8) (Sz.mono ta (by omega)) (Sz.mono tb (by omega)) tc.neg (by omega)).mono ?_⟩
 rintro r V10 l10 ⟨m1,m2⟩
 by_cases h:px=qx/\py=qy
 ·obtain ⟨l,rfl,g5⟩:=m1 (thrL_eq.1 h)
  have g50:=g5
  obtain ⟨_,_,_,_,_,_,_,_,_,rfl,-,-,-⟩:=g5
  exact ⟨_,_,_,_,_,_,_,_,_,_,rfl,fun V11 l11=>⟨fun _=>⟨_,rfl,g50.le l11⟩,fun h'=>absurd h h'⟩⟩
 ·obtain ⟨l,rfl,g5⟩:=m2 (thrL_ne h)
  have g50:=g5
  obtain ⟨_,_,_,_,_,_,_,_,_,rfl,-,-,-⟩:=g5
  exact ⟨_,_,_,_,_,_,_,_,_,_,rfl,fun V11 l11=>⟨fun h'=>absurd h' h,fun _=>⟨_,rfl,g50.le l11⟩⟩⟩
/-- The segment's span. -/
def segS (px py qx qy:Rat):Sp:=⟨parL (thrL px py qx qy) px py,parL (thrL px py qx qy) qx qy,false,false⟩
theorem c_geo_Segment {V:View} {u v:Value} {px py qx qy:Rat} (hp:RPt V u px py) (hq:RPt V v qx qy) {k:Nat} (s1:Sz k px) (s2:Sz k py) (s3:Sz k qx) (s4:Sz k qy) (hk:400 * k + 400 < 274877906944) :
  Acts prog 47 #[u,v] V fun r V'=>(px=qx/\py=qy->∃l,r=.tuple #[l,.bool false]/\RFr V' l (0,0,0) Sp.zero)/\(¬ (px=qx/\py=qy)->∃l,r=.tuple #[l,.bool true]/\RFr V' l (thrL px py qx qy) (segS px py qx qy)):=by
 have hp0:=hp
 have hq0:=hq
 obtain ⟨p0,p1,p2,p3,p4,p5,rfl,-,-⟩:=hp
 obtain ⟨q0,q1,q2,q3,q4,q5,rfl,-,-⟩:=hq
 refine vc_geo_Segment p0 p1 p2 p3 p4 p5 q0 q1 q2 q3 q4 q5 V _ fun V1 l1=>(c_geo_Through (hp0.le l1) (hq0.le l1) s1 s2 s3 s4 (by omega)).mono ?_
 rintro r V2 l2 ⟨m1,m2⟩
 by_cases h:px=qx/\py=qy
 ·obtain ⟨l,rfl,g5⟩:=m1 h
  obtain ⟨_,_,_,_,_,_,_,_,_,rfl,-,-,-⟩:=g5
  refine ⟨_,_,_,_,_,_,_,_,_,_,rfl,fun _ V3 l3=>⟨fun _=>⟨_,rfl,?_⟩,fun h'=>absurd h h'⟩,fun h=>nomatch h⟩
  exact ⟨_,_,_,_,_,_,_,_,_,_,_,_,_,_,_,rfl,⟨_,_,_,_,_,_,_,_,_,rfl,RR.zero _,RR.zero _,RR.zero _⟩,_,_,_,_,_,_,rfl,RR.zero _,RR.zero _⟩
 ·obtain ⟨l,rfl,g5⟩:=m2 h
  have g50:=g5
  have sl:=sz_thrL s1 s2 s3 s4 h
  obtain ⟨_,_,_,_,_,_,_,_,_,rfl,-,-,-⟩:=g5
  refine ⟨_,_,_,_,_,_,_,_,_,_,rfl,(fun h=>nomatch h),fun _ V4 l4=>(k_Param (g50.le l4) (hp0.le (l1.trans (l2.trans l4))) sl (Sz.mono s1 (by omega)) (Sz.mono s2 (by omega)) (by omega)).mono ?_⟩
  rintro r V5 l5 e1
  have e10:=e1
  obtain ⟨_,_,_,rfl⟩:=e1.shape
  refine ⟨_,_,_,rfl,fun V6 l6=>(k_Param (g50.le (l4.trans (l5.trans l6))) (hq0.le (l1.trans (l2.trans (l4.trans (l5.trans l6))))) sl (Sz.mono s3 (by omega)) (Sz.mono s4 (by omega)) (by omega)).mono ?_⟩
  rintro r V7 l7 e2
  have e20:=e2
  obtain ⟨_,_,_,rfl⟩:=e2.shape
  refine ⟨_,_,_,rfl,fun V8 l8=>⟨fun h'=>absurd h' h,fun _=>⟨_,rfl,?_⟩⟩⟩
  exact ⟨_,_,_,_,_,_,_,_,_,_,_,_,_,_,_,rfl,g50.le (l4.trans (l5.trans (l6.trans (l7.trans l8)))),_,_,_,_,_,_,rfl,e10.le (l6.trans (l7.trans l8)),e20.le l8⟩
end Go.Proofs.Tryz
