/- A part of the proof (joined by program from: PtB, LineP, LineQ, VSceneF, SceneD, VFrag, RefG, FrA, FrB, FrC, SideP, RefH, FragA, VFrS, FrS, FrT, SceneE, FragB, VFrB, RefI, VMeet, MeetA, OrdL, SortQ, VSrtU, SrtU, VSortL, SrtL, VCmptL, CmptL, GR, VLines, TreeG, TowP). -/
import Derived.Test.YtcbcbdbheiopbaaGreatDoorL15
import Derived.Test.YtcbcbdbheiopbaaGreatDoorL14
import Derived.Test.YtcbcbdbheiopbaaGreatDoorL13
import Derived.Test.YtcbcbdbheiopbaaGreatDoorL5
import Derived.Test.YtcbcbdbheiopbaaGreatDoorL6
import Derived.Test.YtcbcbdbheiopbaaGreatDoorL8
set_option linter.unusedVariables false
open Go.IntKind (i64 u64 u32)
/- Contracts: points of package api, read, written and compared. -/
namespace Go.Proofs.Tryz
open Go.Eng Go.Big
theorem RA.shape {V:View} {v:Value} {q:Rat} (h:RA V v q):∃b p n c p' n' c',v=.agg #[.bool b,.slice p n c,.slice p' n' c']:=by
 obtain ⟨p,n,c,p',n',c',e,-⟩:=h; exact ⟨_,_,_,_,_,_,_,e⟩
/-- A point of package api in normal form. -/
def RAP (V:View) (v:Value) (x y:Rat):Prop:=∃b p n c p' n' c' d q m e q' m' e',v=.agg #[.bool b,.slice p n c,.slice p' n' c',.bool d,.slice q m e,.slice q' m' e'] /\
 RA V (.agg #[.bool b,.slice p n c,.slice p' n' c']) x/\RA V (.agg #[.bool d,.slice q m e,.slice q' m' e']) y
theorem RAP.le {V V':View} {v:Value} {x y:Rat} (h:RAP V v x y) (l:V.Le V'):RAP V' v x y:=by
 obtain ⟨b,p,n,c,p',n',c',d,q,m,e,q',m',e',rfl,h1,h2⟩:=h
 exact ⟨_,_,_,_,_,_,_,_,_,_,_,_,_,_,rfl,h1.le l,h2.le l⟩
theorem c_geo_PtOf {V:View} {v:Value} {x y:Rat} (h:RAP V v x y) {k:Nat} (s1:Sz k x) (s2:Sz k y) (hk:k<=1099511627776) :
  Acts prog 75 #[v] V fun r V'=>RPt V' r x y:=by
 obtain ⟨b,p,n,c,p',n',c',d,q,m,e,q',m',e',rfl,h1,h2⟩:=h
 refine vc_geo_PtOf b p n c p' n' c' d q m e q' m' e' V _ fun V1 l1=>(c_frac_Of (h1.le l1) s1 hk).mono ?_
 rintro r V2 l2 g1
 have g10:=g1
 obtain ⟨u,v,w,rfl⟩:=g1.shape
 refine ⟨_,_,_,rfl,fun V3 l3=>(c_frac_Of (h2.le (l1.trans (l2.trans l3))) s2 hk).mono ?_⟩
 rintro r V4 l4 g2
 have g20:=g2
 obtain ⟨u,v,w,rfl⟩:=g2.shape
 exact ⟨_,_,_,rfl,fun V5 l5=>⟨_,_,_,_,_,_,rfl,g10.le (l3.trans (l4.trans l5)),g20.le l5⟩⟩
theorem c_geo_Ln_Side {V:View} {l p:Value} {l_0 l_1 l_2 p_0 p_1:Rat} (hl:RLn V l l_0 l_1 l_2) (hp:RPt V p p_0 p_1) {k:Nat} (s0:Sz k l_0) (s1:Sz k l_1) (s2:Sz k l_2) (s3:Sz k p_0) (s4:Sz k p_1) (hk:16 * k + 16 < 274877906944) :
  Acts prog 162 #[l,p] V fun r V'=>r=.int .i64 (l_0 * p_0 + l_1 * p_1 + l_2).num.sign:=by
 have hl0:=hl
 have hp0:=hp
 obtain ⟨a0,a1,a2,a3,a4,a5,a6,a7,a8,rfl,-,-,-⟩:=hl
 obtain ⟨p0,p1,p2,p3,p4,p5,rfl,-,-⟩:=hp
 refine vc_geo_Ln_Side a0 a1 a2 a3 a4 a5 a6 a7 a8 p0 p1 p2 p3 p4 p5 V _ fun V1 l1=>(c_geo_Ln_Value (hl0.le l1) (hp0.le l1) s0 s1 s2 s3 s4 (by omega)).mono ?_
 rintro r V2 l2 g
 have g0:=g
 obtain ⟨u,v,w,rfl⟩:=g.shape
 refine ⟨_,_,_,rfl,fun V3 l3=>(c_R_Sign (g0.le l3) (z_geo_Ln_Value_0 s0 s1 s2 s3 s4) (by omega)).mono ?_⟩
 rintro r V4 l4 rfl
 exact ⟨_,rfl,fun V5 l5=>rfl⟩
theorem c_ref01_ToQ {V:View} {v:Value} {q:Rat} (h:RQ V v q) {k:Nat} (s:Sz k q) (hk:k<=1099511627776):Acts prog 77 #[v] V fun r V'=>RA V' r q:=by
 obtain ⟨p,n,c,p',n',c',rfl,h1,h2⟩:=h
 have q1:=digs_len_bits s.1
 have q2:=digs_len_bits s.2
 refine vc_ref01_ToQ _ p n c p' n' c' V _ fun V1 l1=>(c_ref01_ToI ⟨_,_,_,rfl,h1.le l1⟩ (by omega)).mono ?_
 rintro r V2 l2 ⟨p1,n1,c1,rfl,g1⟩
 refine ⟨_,_,_,_,rfl,fun V3 l3=>(c_num_Den q _ (h2.le (l1.trans (l2.trans l3)))).mono ?_⟩
 rintro r V4 l4 ⟨p2,n2,c2,rfl,g2⟩
 refine ⟨_,_,_,rfl,fun V5 l5=>(c_ref01_ToN (g2.le l5) (by omega)).mono ?_⟩
 rintro r V6 l6 ⟨p3,n3,c3,rfl,g3⟩
 exact ⟨_,_,_,rfl,fun V7 l7=>⟨_,_,_,_,_,_,rfl,g1.le (l3.trans (l4.trans (l5.trans (l6.trans l7)))),g3.le l7⟩⟩
theorem c_ref04_ToP {V:View} {v:Value} {x y:Rat} (h:RP V v x y) {k:Nat} (s1:Sz k x) (s2:Sz k y) (hk:k<=1099511627776):Acts prog 20 #[v] V fun r V'=>RAP V' r x y:=by
 obtain ⟨p1,n1,c1,p2,n2,c2,p3,n3,c3,p4,n4,c4,rfl,h1,h2⟩:=h
 refine vc_ref04_ToP _ p1 n1 c1 p2 n2 c2 _ p3 n3 c3 p4 n4 c4 V _ fun V1 l1=>(c_ref01_ToQ (h1.le l1) s1 hk).mono ?_
 rintro r V2 l2 g1
 have g10:=g1
 obtain ⟨_,_,_,_,_,_,_,rfl⟩:=g1.shape
 refine ⟨_,_,_,_,_,_,_,rfl,fun V3 l3=>(c_ref01_ToQ (h2.le (l1.trans (l2.trans l3))) s2 hk).mono ?_⟩
 rintro r V4 l4 g2
 have g20:=g2
 obtain ⟨_,_,_,_,_,_,_,rfl⟩:=g2.shape
 exact ⟨_,_,_,_,_,_,_,rfl,fun V5 l5=>⟨_,_,_,_,_,_,_,_,_,_,_,_,_,_,rfl,g10.le (l3.trans (l4.trans l5)),g20.le l5⟩⟩
end Go.Proofs.Tryz
/- Plain laws: the line in normal form. -/
namespace Go.Proofs.Tryz
open Go.Eng Go.Big
end Go.Proofs.Tryz
/- Plain laws: the line through two points: program and reference agree. -/
namespace Go.Proofs.Tryz
open Go.Eng Go.Big
end Go.Proofs.Tryz
/- By program: the conditions of the functions, from their loaded code. -/
namespace Go.Proofs.Tryz
open Go.Eng
open Go.Value renaming int→I,pointer→P,slice→S,agg→A,bool→B,tuple→T
open Go.IntKind renaming i64→J,u64→U,u32→W
set_option maxRecDepth 100000
theorem vc_scene_Tape_Q (a:Nat) (p:OA) (q r:Nat) (s:Int) (V:View) (R:VR) (hw100000:V.w.heap[a]?=some (.cells #[S p q r,I J s] 133 (0,0))) (hx100000:V.X a) (h:(∀f,V.Le f->∀b:Nat,(f.w.heap[b]?=some (.cells #[S p q r,I J s] 133 (0,0)))->(f.H b)->Acts prog 25 #[P (some ⟨b,0,none⟩),I J 9] (f.lend [b]) fun c7 y=>∃g,c7=I J g/\∃z a0 a1,∃a2,y.w.heap[b]?=some (.cells #[S z a0 a1,I J a2] 133 (0,0))/\(∀i,y.shut.Le i->∀d:Nat,(i.w.heap[d]?=some (.cells #[S z a0 a1,I J a2] 133 (0,0)))->(i.H d)->Acts prog 25 #[P (some ⟨d,0,none⟩),I J 6] (i.lend [d]) fun c8 k=>∃e,c8=I J e/\∃l m n,∃o,k.w.heap[d]?=some (.cells #[S l m n,I J o] 133 (0,0))/\(((e == (0:Int))=true->(∀a3,k.shut.Le a3->Acts prog 106 #[I J (J.wrap ((J.wrap ((2:Int) * (J.wrap (g - (4:Int)))))+1)),I J 2] a3 fun c9 d0=>∃a4,∃a5 a6 a7,∃a8 a9 b0,c9=A #[B a4,S a5 a6 a7,S a8 a9 b0]/\(∀t,d0.Le t->t.w.heap[a]?=some (.cells #[S l m n,I J o] 133 (0,0))->R (A #[B a4,S a5 a6 a7,S a8 a9 b0]) t)))/\((e == (0:Int))=false->(((e == (1:Int))=true->(∀b1,k.shut.Le b1->Acts prog 106 #[I J (J.wrap ((J.wrap ((3:Int) * (J.wrap (g - (4:Int)))))+1)),I J 3] b1 fun d1 d2=>∃b2,∃b3 b4 b5,∃b6 b7 b8,d1=A #[B b2,S b3 b4 b5,S b6 b7 b8]/\(∀u,d2.Le u->u.w.heap[a]?=some (.cells #[S l m n,I J o] 133 (0,0))->R (A #[B b2,S b3 b4 b5,S b6 b7 b8]) u)))/\((e == (1:Int))=false->(∀b9,k.shut.Le b9->Acts prog 92 #[I J (J.wrap (g - (4:Int)))] b9 fun d3 d4=>∃c0,∃c1 c2 c3,∃c4 c5 c6,d3=A #[B c0,S c1 c2 c3,S c4 c5 c6]/\(∀x,d4.Le x->x.w.heap[a]?=some (.cells #[S l m n,I J o] 133 (0,0))->R (A #[B c0,S c1 c2 c3,S c4 c5 c6]) x))))))))):
 Acts prog 37 #[P (some ⟨a,0,none⟩)] V R:=
 fn_does (LF:=LF0) (RF:=[1000015]) (β0:=(upd1 (fun _=>0) 100000 a)) tab_ok mixed [] [] func37 (by kernel_rfl) [(0,.c (.ptr 100000 0))] [(100000,⟨.lit [.v (S p q r),.v (I J s)],133⟩)] (by kernel_rfl) ⟨⟨hw100000,hx100000⟩,trivial,trivial⟩ h (by kernel_rfl)
theorem vc_scene_Tape_Point (a:Nat) (g:OA) (i k:Nat) (l:Int) (V:View) (R:VR) (hw100000:V.w.heap[a]?=some (.cells #[S g i k,I J l] 133 (0,0))) (hx100000:V.X a) (h:(∀e,V.Le e->∀b:Nat,(e.w.heap[b]?=some (.cells #[S g i k,I J l] 133 (0,0)))->(e.H b)->Acts prog 37 #[P (some ⟨b,0,none⟩)] (e.lend [b]) fun b3 n=>∃o,∃p q r,∃s t u,b3=A #[B o,S p q r,S s t u]/\∃x y z,∃a0,n.w.heap[b]?=some (.cells #[S x y z,I J a0] 133 (0,0))/\(∀f,n.shut.Le f->∀d:Nat,(f.w.heap[d]?=some (.cells #[S x y z,I J a0] 133 (0,0)))->(f.H d)->Acts prog 37 #[P (some ⟨d,0,none⟩)] (f.lend [d]) fun b4 a1=>∃a2,∃a3 a4 a5,∃a6 a7 a8,b4=A #[B a2,S a3 a4 a5,S a6 a7 a8]/\∃a9 b0 b1,∃b2,a1.w.heap[d]?=some (.cells #[S a9 b0 b1,I J b2] 133 (0,0))/\(∀m,a1.shut.Le m->m.w.heap[a]?=some (.cells #[S a9 b0 b1,I J b2] 133 (0,0))->R (A #[B o,S p q r,S s t u,B a2,S a3 a4 a5,S a6 a7 a8]) m)))):
 Acts prog 71 #[P (some ⟨a,0,none⟩)] V R:=
 fn_does (LF:=LF0) (RF:=[1000015]) (β0:=(upd1 (fun _=>0) 100000 a)) tab_ok mixed [] [] func71 (by kernel_rfl) [(0,.c (.ptr 100000 0))] [(100000,⟨.lit [.v (S g i k),.v (I J l)],133⟩)] (by kernel_rfl) ⟨⟨hw100000,hx100000⟩,trivial,trivial⟩ h (by kernel_rfl)
end Go.Proofs.Tryz
/- Contracts: num.Part; the tape's Q and Point. -/
namespace Go.Proofs.Tryz
open Go.Eng Go.Big
theorem c_num_Part {V:View} (n:Int) (d:Nat) (h0:-1000<=n) (h1:n<=1000) (hd0:d≠0) (hd:d<=1000) :
  Acts prog 106 #[.int .i64 n,.int .i64 (d:Int)] V fun r V'=>RQ V' r (mkRat n d):=by
 refine vc_num_Part n d V _ fun V1 l1=>(c_num_Int n (by omega) (by omega)).mono ?_
 rintro r V2 l2 ⟨p,m,c,rfl,g⟩
 rw [u64w (by omega)]
 refine ⟨_,_,_,_,rfl,fun V3 l3=>(c_num_Word d (by omega)).mono ?_⟩
 rintro r V4 l4 ⟨p2,m2,c2,rfl,g2⟩
 refine ⟨_,_,_,rfl,fun V5 l5=>(c_num_Frac n (g.le (l3.trans (l4.trans l5))) (g2.le l5) (Nat.le_trans (digs_len_bits (k:=10) (by omega)) (by omega)) (Nat.le_trans (digs_len_bits (k:=10) (by omega)) (by omega)) hd0).mono ?_⟩
 rintro r V6 l6 h
 have h':=h
 obtain ⟨_,_,_,_,_,_,rfl⟩:=h.shape
 exact ⟨_,_,_,_,_,_,_,rfl,fun V7 l7=>h'.le l7⟩
theorem sz_half:∀x:Fin 9,Sz 10 (mkRat (2 * ((x.1:Int) - 4) + 1) 2)/\Sz 10 (mkRat (3 * ((x.1:Int) - 4) + 1) 3):=by unfold Sz; decide +kernel
theorem c_Q {V:View} {tb:Nat} {p:OA} {n c:Nat} {at_:Int} (hr:Rdl V p n) (hn:n<=400) (hw:TpAt V tb p n c at_) (hx:V.X tb) (h0:0<=at_) :
  Acts prog 37 #[.pointer (some ⟨tb,0,none⟩)] V fun r V'=>∃(q:Rat) (at':Int),RQ V' r q/\Sz 10 q/\0<=at'/\TpAt V' tb p n c at':=by
 refine vc_scene_Tape_Q tb p n c at_ V _ hw hx fun V1 l1 bk1 e1 h1=>(c_Next (V:=V1.lend [bk1]) 9 (hr.le fun b o h=>l1 b o h) hn e1 ⟨by simp,h1⟩ h0 (by omega) (by omega)).mono ?_
 rintro r V2 l2 ⟨x,at1,rfl,x0,x1,t1,hw1⟩
 refine ⟨_,rfl,_,_,_,_,hw1,fun V3 l3 bk5 e3 h3=>(c_Next (V:=V3.lend [bk5]) 6 (hr.le fun b o h=>l3 b o (l2 b o (l1 b o h))) hn e3 ⟨by simp,h3⟩ t1 (by omega) (by omega)).mono ?_⟩
 rintro r V4 l4 ⟨y,at2,rfl,y0,y1,t2,hw2⟩
 obtain ⟨i,rfl⟩:∃i:Nat,x=i:=⟨x.toNat,by omega⟩
 obtain ⟨z1,z2⟩:=sz_half ⟨i,by omega⟩
 dsimp only at z1 z2
 have w1:i64.wrap ((i:Int) - 4)=(i:Int) - 4:=i64w (by omega)
 have w2:i64.wrap (i64.wrap (2 * ((i:Int) - 4)) + 1)=2 * ((i:Int) - 4) + 1:=by rw [i64w (x:=2 * ((i:Int) - 4)) (by omega),i64w (by omega)]
 have w3:i64.wrap (i64.wrap (3 * ((i:Int) - 4)) + 1)=3 * ((i:Int) - 4) + 1:=by rw [i64w (x:=3 * ((i:Int) - 4)) (by omega),i64w (by omega)]
 rw [w1,w2,w3]
 refine ⟨_,rfl,_,_,_,_,hw2,fun _ V5 l5=>(c_num_Part (2 * ((i:Int) - 4) + 1) 2 (by omega) (by omega) (by omega) (by omega)).mono ?_,fun _=>⟨fun _ V8 l8=>(c_num_Part (3 * ((i:Int) - 4) + 1) 3 (by omega) (by omega) (by omega) (by omega)).mono ?_,fun _ V11 l11=>(c_num_Of ((i:Int) - 4) (by omega) (by omega)).mono ?_⟩⟩
 ·rintro r V6 l6 h
  have h':=h
  obtain ⟨_,_,_,_,_,_,rfl⟩:=h.shape
  exact ⟨_,_,_,_,_,_,_,rfl,fun V7 l7 e7=>⟨_,at2,h'.le l7,z1,t2,e7⟩⟩
 ·rintro r V6 l6 h
  have h':=h
  obtain ⟨_,_,_,_,_,_,rfl⟩:=h.shape
  exact ⟨_,_,_,_,_,_,_,rfl,fun V7 l7 e7=>⟨_,at2,h'.le l7,z2,t2,e7⟩⟩
 ·rintro r V6 l6 h
  have h':=h
  obtain ⟨_,_,_,_,_,_,rfl⟩:=h.shape
  exact ⟨_,_,_,_,_,_,_,rfl,fun V7 l7 e7=>⟨_,at2,h'.le l7,sz4 (by omega),t2,e7⟩⟩
theorem c_Point {V:View} {tb:Nat} {p:OA} {n c:Nat} {at_:Int} (hr:Rdl V p n) (hn:n<=400) (hw:TpAt V tb p n c at_) (hx:V.X tb) (h0:0<=at_) :
  Acts prog 71 #[.pointer (some ⟨tb,0,none⟩)] V fun r V'=>∃(x y:Rat) (at':Int),RP V' r x y/\Sz 10 x/\Sz 10 y/\0<=at'/\TpAt V' tb p n c at':=by
 refine vc_scene_Tape_Point tb p n c at_ V _ hw hx fun V1 l1 bk1 e1 h1=>(c_Q (V:=V1.lend [bk1]) (hr.le fun b o h=>l1 b o h) hn e1 ⟨by simp,h1⟩ h0).mono ?_
 rintro r V2 l2 ⟨x,at1,hq,sx,t1,hw1⟩
 obtain ⟨p1,n1,c1,p2,n2,c2,rfl,hq1,hq2⟩:=hq
 refine ⟨_,_,_,_,_,_,_,rfl,_,_,_,_,hw1,fun V3 l3 bk7 e3 h3=>(c_Q (V:=V3.lend [bk7]) (hr.le fun b o h=>l3 b o (l2 b o (l1 b o h))) hn e3 ⟨by simp,h3⟩ t1).mono ?_⟩
 rintro r V4 l4 ⟨y,at2,hq',sy,t2,hw2⟩
 obtain ⟨p3,n3,c3,p4,n4,c4,rfl,hq3,hq4⟩:=hq'
 have l25:∀{V5:View},V4.shut.Le V5->V2.Le V5:=fun l5 b o h=>l5 b o (l4 b o (l3 b o h))
 exact ⟨_,_,_,_,_,_,_,rfl,_,_,_,_,hw2,fun V5 l5 e5=>⟨x,y,at2,⟨_,_,_,_,_,_,_,_,_,_,_,_,rfl,⟨_,_,_,_,_,_,rfl,hq1.le (l25 l5),hq2.le (l25 l5)⟩,⟨_,_,_,_,_,_,rfl,hq3.le fun b o h=>l5 b o h,hq4.le fun b o h=>l5 b o h⟩⟩,sx,sy,t2,e5⟩⟩
end Go.Proofs.Tryz
/- By program: the conditions of the functions, from their loaded code. -/
namespace Go.Proofs.Tryz
open Go.Eng
set_option maxRecDepth 100000
end Go.Proofs.Tryz
/- Contracts: the reference's Side and Rev; the program's interval: Neg. -/
namespace Go.Proofs.Tryz
open Go.Eng Go.Big
theorem c_ref04_Side {V:View} {l p:Value} {l_0 l_1 l_2:Int} {p_0 p_1:Rat} (hl:RL V l l_0 l_1 l_2) (hp:RP V p p_0 p_1) {k:Nat} (s0:Sz k ((l_0:Int):Rat)) (s1:Sz k ((l_1:Int):Rat)) (s2:Sz k ((l_2:Int):Rat)) (s3:Sz k p_0) (s4:Sz k p_1) (hk:16 * k + 16 < 274877906944) :
  Acts prog 85 #[l,p] V fun r V'=>r=.int .i64 ((l_0:Rat) * p_0 + (l_1:Rat) * p_1 + (l_2:Rat)).num.sign:=by
 have hl0:=hl
 have hp0:=hp
 obtain ⟨a0,a1,a2,a3,a4,a5,a6,a7,a8,rfl,-,-,-⟩:=hl
 obtain ⟨p0,p1,p2,p3,p4,p5,p6,p7,p8,p9,p10,p11,rfl,-,-⟩:=hp
 refine vc_ref04_Side _ a0 a1 a2 _ a3 a4 a5 _ a6 a7 a8 _ p0 p1 p2 p3 p4 p5 _ p6 p7 p8 p9 p10 p11 V _ fun V1 l1=>(c_ref04_Value (hl0.le l1) (hp0.le l1) s0 s1 s2 s3 s4 (by omega)).mono ?_
 rintro r V2 l2 ⟨u0,u1,u2,u3,u4,u5,rfl,g1,g2⟩
 refine ⟨_,_,_,_,_,_,_,rfl,fun V3 l3=>(c_num_S _ (g1.le l3)).mono ?_⟩
 rintro r V4 l4 rfl
 exact ⟨_,rfl,fun V5 l5=>rfl⟩
theorem c_ref04_Rev {V:View} {l:Value} {a b c:Int} (hl:RL V l a b c):Acts prog 53 #[l] V fun r V'=>RL V' r (-a) (-b) (-c):=by
 obtain ⟨a0,a1,a2,a3,a4,a5,a6,a7,a8,rfl,h1,h2,h3⟩:=hl
 refine vc_ref04_Rev _ a0 a1 a2 _ a3 a4 a5 _ a6 a7 a8 V _ fun V1 l1=>(c_num_Minus a (h1.le l1)).mono ?_
 rintro r V2 l2 ⟨p1,n1,c1,rfl,g1⟩
 refine ⟨_,_,_,_,rfl,fun V3 l3=>(c_num_Minus b (h2.le (l1.trans (l2.trans l3)))).mono ?_⟩
 rintro r V4 l4 ⟨p2,n2,c2,rfl,g2⟩
 refine ⟨_,_,_,_,rfl,fun V5 l5=>(c_num_Minus c (h3.le (l1.trans (l2.trans (l3.trans (l4.trans l5)))))).mono ?_⟩
 rintro r V6 l6 ⟨p3,n3,c3,rfl,g3⟩
 exact ⟨_,_,_,_,rfl,fun V7 l7=>⟨_,_,_,_,_,_,_,_,_,rfl,g1.le (l3.trans (l4.trans (l5.trans (l6.trans l7)))),g2.le (l5.trans (l6.trans l7)),g3.le l7⟩⟩
end Go.Proofs.Tryz
/- Intervals and fragments: how they lie in memory; the values at a line. -/
namespace Go.Eng
open Go.Big
theorem RR.zero (V:View):RR V (.agg #[.int .i64 0,.int .i64 0,.pointer none]) 0:=.inl ⟨rfl,by unfold Wd; decide⟩
end Go.Eng
namespace Go.Proofs.Tryz
open Go.Eng Go.Big
/-- A span: its ends, and whether they are missing. -/
structure Sp where
 lo:Rat
 hi:Rat
 a:Bool
 b:Bool
/-- An end that is missing is 0. -/
def Sp.can (s:Sp):Prop:=(s.a=true->s.lo=0)/\(s.b=true->s.hi=0)
def Sp.sz (k:Nat) (s:Sp):Prop:=Sz k s.lo/\Sz k s.hi
def Sp.zero:Sp:=⟨0,0,false,false⟩
def SzL (k:Nat) (l:L3):Prop:=Sz k (l.1:Rat)/\Sz k (l.2.1:Rat)/\Sz k (l.2.2:Rat)
/-- An interval of package geo. -/
def RIv (V:View) (v:Value) (s:Sp):Prop:=∃(x1 x2:Int) (p:OA) (y1 y2:Int) (q:OA),v=.agg #[.int .i64 x1,.int .i64 x2,.pointer p,.int .i64 y1,.int .i64 y2,.pointer q,.bool s.a,.bool s.b] /\
 RR V (.agg #[.int .i64 x1,.int .i64 x2,.pointer p]) s.lo/\RR V (.agg #[.int .i64 y1,.int .i64 y2,.pointer q]) s.hi
theorem RIv.le {V V':View} {v:Value} {s:Sp} (h:RIv V v s) (l:V.Le V'):RIv V' v s:=by
 obtain ⟨x1,x2,p,y1,y2,q,e,h1,h2⟩:=h
 exact ⟨x1,x2,p,y1,y2,q,e,h1.le l,h2.le l⟩
/-- A line of package geo with integer coefficients. -/
def RLi (V:View) (v:Value) (l:L3):Prop:=RLn V v (l.1:Rat) (l.2.1:Rat) (l.2.2:Rat)
theorem RLi.le {V V':View} {v:Value} {l:L3} (h:RLi V v l) (e:V.Le V'):RLi V' v l:=RLn.le h e
/-- A fragment of package geo. -/
def RFr (V:View) (v:Value) (l:L3) (s:Sp):Prop:=∃(x1 x2:Int) (p:OA) (y1 y2:Int) (q:OA) (z1 z2:Int) (r:OA) (u1 u2:Int) (t:OA) (w1 w2:Int) (o:OA),
 v=.agg #[.int .i64 x1,.int .i64 x2,.pointer p,.int .i64 y1,.int .i64 y2,.pointer q,.int .i64 z1,.int .i64 z2,.pointer r,.int .i64 u1,.int .i64 u2,.pointer t,.int .i64 w1,.int .i64 w2,.pointer o,.bool s.a,.bool s.b] /\
 RLi V (.agg #[.int .i64 x1,.int .i64 x2,.pointer p,.int .i64 y1,.int .i64 y2,.pointer q,.int .i64 z1,.int .i64 z2,.pointer r]) l /\
 RIv V (.agg #[.int .i64 u1,.int .i64 u2,.pointer t,.int .i64 w1,.int .i64 w2,.pointer o,.bool s.a,.bool s.b]) s
theorem RFr.le {V V':View} {v:Value} {l:L3} {s:Sp} (h:RFr V v l s) (e:V.Le V'):RFr V' v l s:=by
 obtain ⟨x1,x2,p,y1,y2,q,z1,z2,r,u1,u2,t,w1,w2,o,rfl,h1,h2⟩:=h
 exact ⟨x1,x2,p,y1,y2,q,z1,z2,r,u1,u2,t,w1,w2,o,rfl,h1.le e,h2.le e⟩
/-- A number of package api in any form. -/
def RRw (V:View) (v:Value) (b:Bool) (xs ys:List Nat):Prop:=∃p n c p' n' c',v=.agg #[.bool b,.slice p n c,.slice p' n' c']/\RD V p n c xs/\RD V p' n' c' ys
theorem RRw.le {V V':View} {v:Value} {b:Bool} {xs ys:List Nat} (h:RRw V v b xs ys) (l:V.Le V'):RRw V' v b xs ys:=by
 obtain ⟨p,n,c,p',n',c',e,h1,h2⟩:=h; exact ⟨p,n,c,p',n',c',e,h1.le l,h2.le l⟩
theorem RRw.nil {V:View}:RRw V (.agg #[.bool false,.slice none 0 0,.slice none 0 0]) false [] []:=⟨_,_,_,_,_,_,rfl,RD.nil,RD.nil⟩
/-- An end of a span of package api. -/
def RE (V:View) (v:Value) (q:Rat) (no:Bool):Prop:=(no=true->RRw V v false [] [])/\(no=false->RA V v q)
theorem RE.le {V V':View} {v:Value} {q:Rat} {no:Bool} (h:RE V v q no) (l:V.Le V'):RE V' v q no:=⟨fun e=>(h.1 e).le l,fun e=>(h.2 e).le l⟩
theorem RE.shape {V:View} {v:Value} {q:Rat} {no:Bool} (h:RE V v q no):∃b p n c p' n' c',v=.agg #[.bool b,.slice p n c,.slice p' n' c']:=by
 cases no with
 | true=>obtain ⟨_,_,_,_,_,_,e,-⟩:=h.1 rfl; exact ⟨_,_,_,_,_,_,_,e⟩
 | false=>exact (h.2 rfl).shape
/-- A span of package api. -/
def RSp (V:View) (v:Value) (s:Sp):Prop:=∃b p n c p' n' c' d q m e q' m' e',v=.agg #[.bool b,.slice p n c,.slice p' n' c',.bool d,.slice q m e,.slice q' m' e',.bool s.a,.bool s.b] /\
 RE V (.agg #[.bool b,.slice p n c,.slice p' n' c']) s.lo s.a/\RE V (.agg #[.bool d,.slice q m e,.slice q' m' e']) s.hi s.b
theorem RSp.le {V V':View} {v:Value} {s:Sp} (h:RSp V v s) (l:V.Le V'):RSp V' v s:=by
 obtain ⟨b,p,n,c,p',n',c',d,q,m,e,q',m',e',rfl,h1,h2⟩:=h
 exact ⟨_,_,_,_,_,_,_,_,_,_,_,_,_,_,rfl,h1.le l,h2.le l⟩
/-- A fragment of package api. -/
def RFa (V:View) (v:Value) (l:L3) (s:Sp):Prop:=∃b1 p1 n1 c1 b2 p2 n2 c2 b3 p3 n3 c3 b p n c p' n' c' d q m e q' m' e',
 v=.agg #[.bool b1,.slice p1 n1 c1,.bool b2,.slice p2 n2 c2,.bool b3,.slice p3 n3 c3,.bool b,.slice p n c,.slice p' n' c',.bool d,.slice q m e,.slice q' m' e',.bool s.a,.bool s.b] /\
 RL V (.agg #[.bool b1,.slice p1 n1 c1,.bool b2,.slice p2 n2 c2,.bool b3,.slice p3 n3 c3]) l.1 l.2.1 l.2.2/\RSp V (.agg #[.bool b,.slice p n c,.slice p' n' c',.bool d,.slice q m e,.slice q' m' e',.bool s.a,.bool s.b]) s
theorem RFa.le {V V':View} {v:Value} {l:L3} {s:Sp} (h:RFa V v l s) (e:V.Le V'):RFa V' v l s:=by
 obtain ⟨b1,p1,n1,c1,b2,p2,n2,c2,b3,p3,n3,c3,b,p,n,c,p',n',c',d,q,m,f,q',m',f',rfl,h1,h2⟩:=h
 exact ⟨_,_,_,_,_,_,_,_,_,_,_,_,_,_,_,_,_,_,_,_,_,_,_,_,_,_,rfl,h1.le e,h2.le e⟩
/-- A span of the reference. -/
def RSs (V:View) (v:Value) (s:Sp):Prop:=∃b p n c p' n' c' d q m e q' m' e',v=.agg #[.bool b,.slice p n c,.slice p' n' c',.bool d,.slice q m e,.slice q' m' e',.bool s.a,.bool s.b] /\
 RQ V (.agg #[.bool b,.slice p n c,.slice p' n' c']) s.lo/\RQ V (.agg #[.bool d,.slice q m e,.slice q' m' e']) s.hi
theorem RSs.le {V V':View} {v:Value} {s:Sp} (h:RSs V v s) (l:V.Le V'):RSs V' v s:=by
 obtain ⟨b,p,n,c,p',n',c',d,q,m,e,q',m',e',rfl,h1,h2⟩:=h
 exact ⟨_,_,_,_,_,_,_,_,_,_,_,_,_,_,rfl,h1.le l,h2.le l⟩
/-- A fragment of the reference. -/
def RF (V:View) (v:Value) (l:L3) (s:Sp):Prop:=∃b1 p1 n1 c1 b2 p2 n2 c2 b3 p3 n3 c3 b p n c p' n' c' d q m e q' m' e',
 v=.agg #[.bool b1,.slice p1 n1 c1,.bool b2,.slice p2 n2 c2,.bool b3,.slice p3 n3 c3,.bool b,.slice p n c,.slice p' n' c',.bool d,.slice q m e,.slice q' m' e',.bool s.a,.bool s.b] /\
 RL V (.agg #[.bool b1,.slice p1 n1 c1,.bool b2,.slice p2 n2 c2,.bool b3,.slice p3 n3 c3]) l.1 l.2.1 l.2.2/\RSs V (.agg #[.bool b,.slice p n c,.slice p' n' c',.bool d,.slice q m e,.slice q' m' e',.bool s.a,.bool s.b]) s
theorem RF.le {V V':View} {v:Value} {l:L3} {s:Sp} (h:RF V v l s) (e:V.Le V'):RF V' v l s:=by
 obtain ⟨b1,p1,n1,c1,b2,p2,n2,c2,b3,p3,n3,c3,b,p,n,c,p',n',c',d,q,m,f,q',m',f',rfl,h1,h2⟩:=h
 exact ⟨_,_,_,_,_,_,_,_,_,_,_,_,_,_,_,_,_,_,_,_,_,_,_,_,_,_,rfl,h1.le e,h2.le e⟩
/-! the values at a line -/
def valL (l:L3) (x y:Rat):Rat:=(l.1:Rat) * x + (l.2.1:Rat) * y + (l.2.2:Rat)
def normL (l:L3):Rat:=(l.1:Rat) * (l.1:Rat) + (l.2.1:Rat) * (l.2.1:Rat)
def atX (l:L3) (t:Rat):Rat:=(l.2.1:Rat) * t - (l.1:Rat) * (l.2.2:Rat) * (normL l)⁻¹
def atY (l:L3) (t:Rat):Rat:=-((l.1:Rat) * t) - (l.2.1:Rat) * (l.2.2:Rat) * (normL l)⁻¹
def revL (l:L3):L3:=(-l.1,-l.2.1,-l.2.2)
def Sp.neg (s:Sp):Sp:=⟨if s.b then 0 else -s.hi,if s.a then 0 else -s.lo,s.b,s.a⟩
def Sp.emp (s:Sp):Bool:=!s.a && !s.b && decide (cmpQ s.lo s.hi ≥ 0)
def Nz (l:L3):Prop:=¬ (l.1=0/\l.2.1=0)
theorem sq_nonneg (x:Int):0<=x * x:=by
 rw [← Int.natAbs_mul_self]; exact Int.natCast_nonneg _
theorem normL_eq (l:L3):normL l=((l.1 * l.1 + l.2.1 * l.2.1:Int):Rat):=by unfold normL; simp
theorem Nz.norm {l:L3} (h:Nz l):normL l≠0:=by
 rw [normL_eq]
 have h1:=sq_nonneg l.1
 have h2:=sq_nonneg l.2.1
 have h3:l.1 * l.1 + l.2.1 * l.2.1≠0:=by
  intro e
  have e1:l.1 * l.1=0:=by omega
  have e2:l.2.1 * l.2.1=0:=by omega
  exact h ⟨(Int.mul_eq_zero.1 e1).elim id id,(Int.mul_eq_zero.1 e2).elim id id⟩
 exact_mod_cast h3
theorem num_zero {q:Rat} (h:q≠0):q.num≠0:=fun e=>h (Rat.num_eq_zero.1 e)
theorem sz_atX {L:L3} {x:Rat} {k:Nat} (sl:SzL k L) (s1:Sz k x):Sz (20 * k + 19) (atX L x):=by
 have e1:atX L x=((L.1:Rat) * ((-(L.2.2:Rat)) * ((L.1:Rat) * (L.1:Rat) + (L.2.1:Rat) * (L.2.1:Rat))⁻¹)) + ((L.2.1:Rat) * x):=by unfold atX normL; grind
 rw [e1]; exact z_geo_Ln_At_0 sl.1 sl.2.1 sl.2.2 s1
theorem sz_atY {L:L3} {x:Rat} {k:Nat} (sl:SzL k L) (s1:Sz k x):Sz (20 * k + 19) (atY L x):=by
 have e2:atY L x=((L.2.1:Rat) * ((-(L.2.2:Rat)) * ((L.1:Rat) * (L.1:Rat) + (L.2.1:Rat) * (L.2.1:Rat))⁻¹)) + ((-(L.1:Rat)) * x):=by unfold atY normL; grind
 rw [e2]; exact z_geo_Ln_At_1 sl.1 sl.2.1 sl.2.2 s1
theorem sign_eq_zero (q:Rat):q.num.sign=0↔q=0:=by rw [Int.sign_eq_zero_iff_zero,Rat.num_eq_zero]
theorem k_Side {V:View} {l p:Value} {L:L3} {x y:Rat} (hl:RLi V l L) (hp:RPt V p x y) {k:Nat} (sl:SzL k L) (s1:Sz k x) (s2:Sz k y) (hk:16 * k + 16 < 274877906944) :
  Acts prog 162 #[l,p] V fun r V'=>r=.int .i64 (valL L x y).num.sign:=c_geo_Ln_Side hl hp sl.1 sl.2.1 sl.2.2 s1 s2 hk
theorem SzL.rev {k:Nat} {L:L3} (h:SzL k L):SzL k (revL L):=by
 unfold SzL revL
 simp only [Rat.intCast_neg]
 exact ⟨h.1.neg,h.2.1.neg,h.2.2.neg⟩
/-! the same for the reference -/
theorem r_norm {L:L3} (h:Nz L):((((((L.2.1:Int):Rat))) * ((((L.2.1:Int):Rat)))) + (((-(((L.1:Int):Rat)))) * ((-(((L.1:Int):Rat)))))).num≠0:=by
 have:(((((L.2.1:Int):Rat))) * ((((L.2.1:Int):Rat)))) + (((-(((L.1:Int):Rat)))) * ((-(((L.1:Int):Rat)))))=normL L:=by unfold normL; grind
 rw [this]
 exact num_zero h.norm
theorem r_At {V:View} {l t:Value} {L:L3} {x:Rat} (hl:RL V l L.1 L.2.1 L.2.2) (ht:RQ V t x) (hz:Nz L) {k:Nat} (sl:SzL k L) (s1:Sz k x) (hk:18 * k + 16 < 274877906944) :
  Acts prog 35 #[l,t] V fun r V'=>RP V' r (atX L x) (atY L x):=by
 refine (c_ref04_At hl ht (r_norm hz) sl.1 sl.2.1 sl.2.2 s1 hk).mono ?_
 rintro r V2 l2 g
 have e1:atX L x=(((-((((L.2.2:Int):Rat)) * ((((((L.2.1:Int):Rat))) * ((((L.2.1:Int):Rat)))) + (((-(((L.1:Int):Rat)))) * ((-(((L.1:Int):Rat))))))⁻¹)) * (((L.1:Int):Rat))) + (x) * (((L.2.1:Int):Rat))):=by unfold atX normL; grind
 have e2:atY L x=(((-((((L.2.2:Int):Rat)) * ((((((L.2.1:Int):Rat))) * ((((L.2.1:Int):Rat)))) + (((-(((L.1:Int):Rat)))) * ((-(((L.1:Int):Rat))))))⁻¹)) * (((L.2.1:Int):Rat))) + (x) * (-(((L.1:Int):Rat)))):=by unfold atY normL; grind
 rw [e1,e2]; exact g
theorem r_Side {V:View} {l p:Value} {L:L3} {x y:Rat} (hl:RL V l L.1 L.2.1 L.2.2) (hp:RP V p x y) {k:Nat} (sl:SzL k L) (s1:Sz k x) (s2:Sz k y) (hk:16 * k + 16 < 274877906944) :
  Acts prog 85 #[l,p] V fun r V'=>r=.int .i64 (valL L x y).num.sign:=c_ref04_Side hl hp sl.1 sl.2.1 sl.2.2 s1 s2 hk
end Go.Proofs.Tryz
/- Contracts: geo.scaled, Make, Through, Segment. -/
namespace Go.Proofs.Tryz
open Go.Eng Go.Big
/-- Three numbers in a row; those ahead of i are scaled by f. -/
structure Scl (V:View) (vs:List Value) (i:Int) (f a b c:Rat):Prop where
 h0:0<=i
 h3:i<=3
 row:∃(x1 x2:Int) (p:OA) (y1 y2:Int) (q:OA) (z1 z2:Int) (r:OA),vs=[.int .i64 x1,.int .i64 x2,.pointer p,.int .i64 y1,.int .i64 y2,.pointer q,.int .i64 z1,.int .i64 z2,.pointer r] /\
  RR V (.agg #[.int .i64 x1,.int .i64 x2,.pointer p]) (if 0 < i then a * f else a)/\RR V (.agg #[.int .i64 y1,.int .i64 y2,.pointer q]) (if 1 < i then b * f else b)/\RR V (.agg #[.int .i64 z1,.int .i64 z2,.pointer r]) (if 2 < i then c * f else c)
theorem Scl.le {V V':View} {vs:List Value} {i:Int} {f a b c:Rat} (h:Scl V vs i f a b c) (l:V.Le V'):Scl V' vs i f a b c:=by
 obtain ⟨h0,h3,x1,x2,p,y1,y2,q,z1,z2,r,e,g1,g2,g3⟩:=h
 exact ⟨h0,h3,x1,x2,p,y1,y2,q,z1,z2,r,e,g1.le l,g2.le l,g3.le l⟩
end Go.Proofs.Tryz
/- Contracts: spans and fragments of package api, read and written by package geo. -/
namespace Go.Proofs.Tryz
open Go.Eng Go.Big
def rawQ (b:Bool) (xs ys:List Nat):Rat:=mkRat (ival b xs) (val ys)
def nrmQ (b:Bool) (xs ys:List Nat):Bool:=NrmI b xs && decide (digs (val ys)=ys) && !decide (ys=[]) && decide (Nat.gcd (val xs) (val ys)=1)
def zerQ (b:Bool) (xs ys:List Nat):Bool:=!b && decide (xs=[]) && decide (ys=[])
def endQ (b:Bool) (xs ys:List Nat) (no:Bool):Rat:=if no then 0 else rawQ b xs ys
def endOk (b:Bool) (xs ys:List Nat) (no:Bool):Bool:=if no then zerQ b xs ys else nrmQ b xs ys
theorem nrm_gcd {q:Rat}:nrmQ (decide (q.num < 0)) (digs q.num.natAbs) (digs q.den)=true/\rawQ (decide (q.num < 0)) (digs q.num.natAbs) (digs q.den)=q:=by
 constructor
 ·unfold nrmQ
  have h1:NrmI (decide (q.num < 0)) (digs q.num.natAbs)=true:=by
   unfold NrmI
   rw [val_digs]
   by_cases h:q.num < 0
   ·have:digs q.num.natAbs≠[]:=fun e=>by have:=digs_eq_nil.1 e; omega
    simp [h,this]
   ·simp [h]
  have h2:digs q.den≠[]:=fun e=>q.den_nz (digs_eq_nil.1 e)
  rw [h1,val_digs,val_digs]
  simp [h2,q.reduced]
 ·unfold rawQ
  rw [ival_digs,val_digs,Rat.mkRat_self]
/-- A span of package api in any form. -/
def RSw (V:View) (v:Value) (b1:Bool) (xs1 ys1:List Nat) (b2:Bool) (xs2 ys2:List Nat) (na nb:Bool):Prop:=∃p n c p' n' c' q m e q' m' e',v=.agg #[.bool b1,.slice p n c,.slice p' n' c',.bool b2,.slice q m e,.slice q' m' e',.bool na,.bool nb] /\
 RRw V (.agg #[.bool b1,.slice p n c,.slice p' n' c']) b1 xs1 ys1/\RRw V (.agg #[.bool b2,.slice q m e,.slice q' m' e']) b2 xs2 ys2
theorem RSw.le {V V':View} {v:Value} {b1:Bool} {xs1 ys1:List Nat} {b2:Bool} {xs2 ys2:List Nat} {na nb:Bool} (h:RSw V v b1 xs1 ys1 b2 xs2 ys2 na nb) (l:V.Le V'):RSw V' v b1 xs1 ys1 b2 xs2 ys2 na nb:=by
 obtain ⟨p,n,c,p',n',c',q,m,e,q',m',e',rfl,h1,h2⟩:=h
 exact ⟨_,_,_,_,_,_,_,_,_,_,_,_,rfl,h1.le l,h2.le l⟩
def spW (b1:Bool) (xs1 ys1:List Nat) (b2:Bool) (xs2 ys2:List Nat) (na nb:Bool):Sp:=⟨endQ b1 xs1 ys1 na,endQ b2 xs2 ys2 nb,na,nb⟩
def okW (b1:Bool) (xs1 ys1:List Nat) (b2:Bool) (xs2 ys2:List Nat) (na nb:Bool):Bool:=endOk b1 xs1 ys1 na && endOk b2 xs2 ys2 nb && !(spW b1 xs1 ys1 b2 xs2 ys2 na nb).emp
/-- What is right to read: a fragment whose line is in lowest terms and whose span has a length. -/
def FOk (l:L3) (s:Sp):Prop:=okL l=true/\s.can/\s.emp=false
theorem RE.raw {V:View} {v:Value} {q:Rat} {no:Bool} (h:RE V v q no) (hc:no=true->q=0):∃b xs ys,RRw V v b xs ys/\endOk b xs ys no=true/\endQ b xs ys no=q/\(∀k,Sz k q->xs.length<=k/\ys.length<=k):=by
 cases no with
 | true=>
  exact ⟨false,[],[],h.1 rfl,rfl,by rw [hc rfl]; rfl,fun k _=>⟨Nat.zero_le _,Nat.zero_le _⟩⟩
 | false=>
  obtain ⟨p,n,c,p',n',c',rfl,h1,h2⟩:=h.2 rfl
  exact ⟨_,_,_,⟨_,_,_,_,_,_,rfl,h1,h2⟩,nrm_gcd.1,nrm_gcd.2,fun k hk=>⟨digs_len_bits hk.1,digs_len_bits hk.2⟩⟩
theorem RLi.api {V:View} {r:Value} {l:L3} (h:RL V r ((l.1:Rat)).num ((l.2.1:Rat)).num ((l.2.2:Rat)).num):RL V r l.1 l.2.1 l.2.2:=by
 simpa [Rat.num_intCast] using h
theorem okL_nz {l:L3} (h:okL l=true):Nz l:=by
 unfold okL at h
 intro e
 simp [e.1,e.2] at h
end Go.Proofs.Tryz
/- Plain laws: the part of a span on one side of a line and its sample; the only common point of two fragments is symmetric. -/
namespace Go.Proofs.Tryz
open Go.Eng Go.Big
/-! the only common point -/
def crossL (l m:L3):Rat:=((l.1:Rat) * (m.2.1:Rat)) - ((l.2.1:Rat) * (m.1:Rat))
def meX (l m:L3):Rat:=(((l.2.1:Rat) * (m.2.2:Rat)) - ((l.2.2:Rat) * (m.2.1:Rat))) * (crossL l m)⁻¹
def meY (l m:L3):Rat:=(((l.2.2:Rat) * (m.1:Rat)) - ((l.1:Rat) * (m.2.2:Rat))) * (crossL l m)⁻¹
end Go.Proofs.Tryz
/- Contracts: the reference's spans and fragments: written, compared, a number's class, Has. -/
namespace Go.Proofs.Tryz
open Go.Eng Go.Big
theorem SzL.digs {k:Nat} {l:L3} (h:SzL k l) (hk:k<=1099511627776):(digs l.1.natAbs).length<=1099511627776/\(digs l.2.1.natAbs).length<=1099511627776/\(digs l.2.2.natAbs).length<=1099511627776:=by
 have d1:=digs_len_bits (show l.1.natAbs < 2 ^ k from h.1.1)
 have d2:=digs_len_bits (show l.2.1.natAbs < 2 ^ k from h.2.1.1)
 have d3:=digs_len_bits (show l.2.2.natAbs < 2 ^ k from h.2.2.1)
 exact ⟨by omega,by omega,by omega⟩
/-- A fragment that lies at an address; a list of fragments. -/
def FAt (V:View) (ad:Addr) (l:L3) (s:Sp):Prop:=∃xs:List Value,RFa V (.agg xs.toArray) l s/\∀i x,xs[i]?=some x->V.at (ad.add i) x
theorem FAt.le {V V':View} {ad:Addr} {l:L3} {s:Sp} (h:FAt V ad l s) (e:V.Le V'):FAt V' ad l s:=by
 obtain ⟨xs,h1,h2⟩:=h; exact ⟨xs,h1.le e,fun i x hx=>e.at (h2 i x hx)⟩
structure RFas (V:View) (p:OA) (n:Nat) (fs:List (L3 × Sp)):Prop where
 len:n=fs.length
 at_:∀(i:Nat) (h:i < fs.length),∃ad,addrAdd p (i * 14)=some ad/\FAt V ad fs[i].1 fs[i].2
theorem RFas.le {V V':View} {p:OA} {n:Nat} {fs:List (L3 × Sp)} (h:RFas V p n fs) (e:V.Le V'):RFas V' p n fs:=⟨h.len,fun i hi=>by obtain ⟨ad,h1,h2⟩:=h.at_ i hi; exact ⟨ad,h1,h2.le e⟩⟩
theorem isSome_addr {p:OA} {j:Nat} {ad:Addr} (h:addrAdd p j=some ad):p.isSome=true:=by
 cases p with
 | none=>cases h
 | some a=>rfl
/-- A span that lies at an address; a list of spans. -/
def SAt (V:View) (ad:Addr) (s:Sp):Prop:=∃xs:List Value,RSs V (.agg xs.toArray) s/\∀i x,xs[i]?=some x->V.at (ad.add i) x
theorem SAt.le {V V':View} {ad:Addr} {s:Sp} (h:SAt V ad s) (e:V.Le V'):SAt V' ad s:=by
 obtain ⟨xs,h1,h2⟩:=h; exact ⟨xs,h1.le e,fun i x hx=>e.at (h2 i x hx)⟩
structure RSl (V:View) (p:OA) (n:Nat) (ss:List Sp):Prop where
 len:n=ss.length
 at_:∀(i:Nat) (h:i < ss.length),∃ad,addrAdd p (i * 8)=some ad/\SAt V ad ss[i]
theorem RSl.le {V V':View} {p:OA} {n:Nat} {ss:List Sp} (h:RSl V p n ss) (e:V.Le V'):RSl V' p n ss:=⟨h.len,fun i hi=>by obtain ⟨ad,h1,h2⟩:=h.at_ i hi; exact ⟨ad,h1,h2.le e⟩⟩
def Sp.la (s:Sp) (t:Rat):Int:=if s.a then 1 else cmpQ t s.lo
def Sp.lb (s:Sp) (t:Rat):Int:=if s.b then -1 else cmpQ t s.hi
end Go.Proofs.Tryz
/- Contracts of package fragment; points made of ints. -/
namespace Go.Proofs.Tryz
open Go.Eng Go.Big
theorem FrSh.ex {V:View} {v:Value} {l:L3} {s:Sp} (h:RFr V v l s):∃(x1 x2:Int) (p:OA) (y1 y2:Int) (q:OA) (z1 z2:Int) (r:OA) (u1 u2:Int) (t:OA) (w1 w2:Int) (o:OA),
 v=.agg #[.int .i64 x1,.int .i64 x2,.pointer p,.int .i64 y1,.int .i64 y2,.pointer q,.int .i64 z1,.int .i64 z2,.pointer r,.int .i64 u1,.int .i64 u2,.pointer t,.int .i64 w1,.int .i64 w2,.pointer o,.bool s.a,.bool s.b]:=by
 obtain ⟨_,_,_,_,_,_,_,_,_,_,_,_,_,_,_,e,-⟩:=h; exact ⟨_,_,_,_,_,_,_,_,_,_,_,_,_,_,_,e⟩
end Go.Proofs.Tryz
/- By program: the conditions of the functions, from their loaded code. -/
namespace Go.Proofs.Tryz
open Go.Eng
open Go.Value renaming int→I,pointer→P,slice→S,agg→A,bool→B,tuple→T
open Go.IntKind renaming i64→J,u64→U,u32→W
set_option maxRecDepth 100000
theorem vc_ref04_Cross (a:Bool) (b:OA) (c d:Nat) (e:OA) (f g:Nat) (i:Bool) (k:OA) (l m:Nat) (n:OA) (o p:Nat) (q:Bool) (r:OA) (s t:Nat) (u:OA) (w x:Nat) (y:Bool) (z:OA) (a0 a1:Nat) (a2:OA) (a3 a4:Nat) (V:View) (R:VR) (h:(Ca V 150 #[A #[B a,S b c d,S e f g],A #[B y,S z a0 a1,S a2 a3 a4]] fun c7 c8=>∃a5,∃a6 a7 a8,∃a9 b0 b1,c7=A #[B a5,S a6 a7 a8,S a9 b0 b1]/\(Ca c8 150 #[A #[B i,S k l m,S n o p],A #[B q,S r s t,S u w x]] fun c9 d0=>∃b2,∃b3 b4 b5,∃b6 b7 b8,c9=A #[B b2,S b3 b4 b5,S b6 b7 b8]/\(Ca d0 93 #[A #[B a5,S a6 a7 a8,S a9 b0 b1],A #[B b2,S b3 b4 b5,S b6 b7 b8]] fun d1 d2=>∃b9,∃c0 c1 c2,∃c3 c4 c5,d1=A #[B b9,S c0 c1 c2,S c3 c4 c5]/\(Rt d2 R (A #[B b9,S c0 c1 c2,S c3 c4 c5])))))):
 Acts prog 87 #[A #[B a,S b c d,S e f g,B i,S k l m,S n o p],A #[B q,S r s t,S u w x,B y,S z a0 a1,S a2 a3 a4]] V R:=
 fd (LF:=LF0) (RF:=[1000015]) [] [] func87 h
end Go.Proofs.Tryz
/- Contracts: the parts of a fragment on the sides of a line; the only common point of two fragments. -/
namespace Go.Proofs.Tryz
open Go.Eng Go.Big
/-- A list of fragments of package geo. -/
structure RFrs (V:View) (p:OA) (n:Nat) (fs:List (L3 × Sp)):Prop where
 len:n=fs.length
 at_:∀(i:Nat) (h:i < fs.length),∃ad,addrAdd p (i * 17)=some ad/\∃xs:List Value,RFr V (.agg xs.toArray) fs[i].1 fs[i].2/\∀j x,xs[j]?=some x->V.at (ad.add j) x
theorem RFrs.le {V V':View} {p:OA} {n:Nat} {fs:List (L3 × Sp)} (h:RFrs V p n fs) (e:V.Le V'):RFrs V' p n fs:=⟨h.len,fun i hi=>by obtain ⟨ad,h1,xs,h2,h3⟩:=h.at_ i hi; exact ⟨ad,h1,xs,h2.le e,fun j x hx=>e.at (h3 j x hx)⟩⟩
theorem RFrs.nil {V:View}:RFrs V none 0 []:=⟨rfl,fun i hi=>by simp at hi⟩
theorem RFrs.one {V:View} {bk:Nat} {xs:List Value} {ty:TypeId} {l:L3} {s:Sp} (hb:V.blk bk (.cells xs.toArray ty (0,0))) (hf:RFr V (.agg xs.toArray) l s):RFrs V (some ⟨bk,0,none⟩) 1 [(l,s)]:=by
 refine ⟨rfl,fun i hi=>?_⟩
 obtain rfl:i=0:=by simpa using hi
 refine ⟨⟨bk,0,none⟩,by simp [addrAdd,add_zero'],_,hf,fun j x hx=>?_⟩
 rw [add_zero']
 exact blk_at hb hx
end Go.Proofs.Tryz
/- Contracts: Write of fragments; fragment.Split; the only common point: onto, Meet. -/
namespace Go.Proofs.Tryz
open Go.Eng Go.Big
/-! the only common point -/
end Go.Proofs.Tryz
/- Contracts: the tape's spans and fragments. -/
namespace Go.Proofs.Tryz
open Go.Eng Go.Big
end Go.Proofs.Tryz
/- Fragments taken apart; equal zero points. -/
namespace Go.Proofs.Tryz
open Go.Eng Go.Big
end Go.Proofs.Tryz
/- By program: the conditions of the functions, from their loaded code. -/
namespace Go.Proofs.Tryz
open Go.Eng
set_option maxRecDepth 100000
end Go.Proofs.Tryz
/- Contracts: the reference reads numbers, points, lines, spans, fragments of package api in any form. -/
namespace Go.Proofs.Tryz
open Go.Eng Go.Big
/-- A line of package api in any form. -/
def RLw (V:View) (v:Value) (b1:Bool) (xs:List Nat) (b2:Bool) (ys:List Nat) (b3:Bool) (zs:List Nat):Prop:=∃p n c q m e s i j,v=.agg #[.bool b1,.slice p n c,.bool b2,.slice q m e,.bool b3,.slice s i j]/\RD V p n c xs/\RD V q m e ys/\RD V s i j zs
theorem RLw.le {V V':View} {v:Value} {b1:Bool} {xs:List Nat} {b2:Bool} {ys:List Nat} {b3:Bool} {zs:List Nat} (h:RLw V v b1 xs b2 ys b3 zs) (l:V.Le V'):RLw V' v b1 xs b2 ys b3 zs:=by
 obtain ⟨p,n,c,q,m,e,s,i,j,rfl,h1,h2,h3⟩:=h
 exact ⟨_,_,_,_,_,_,_,_,_,rfl,h1.le l,h2.le l,h3.le l⟩
def lnW (b1:Bool) (xs:List Nat) (b2:Bool) (ys:List Nat) (b3:Bool) (zs:List Nat):L3:=(ival b1 xs,ival b2 ys,ival b3 zs)
/-- A fragment of package api in any form. -/
structure FW where
 b1:Bool
 xs:List Nat
 b2:Bool
 ys:List Nat
 b3:Bool
 zs:List Nat
 c1:Bool
 us:List Nat
 vs:List Nat
 c2:Bool
 ws:List Nat
 ts:List Nat
 na:Bool
 nb:Bool
def FW.ln (f:FW):L3:=lnW f.b1 f.xs f.b2 f.ys f.b3 f.zs
def FW.sp (f:FW):Sp:=spW f.c1 f.us f.vs f.c2 f.ws f.ts f.na f.nb
def FW.ok (f:FW):Bool:=okLn f.b1 f.xs f.b2 f.ys f.b3 f.zs && okW f.c1 f.us f.vs f.c2 f.ws f.ts f.na f.nb
structure FW.short (f:FW):Prop where
 x:f.xs.length<=1000000
 y:f.ys.length<=1000000
 z:f.zs.length<=1000000
 u:f.us.length<=1000000
 v:f.vs.length<=1000000
 w:f.ws.length<=1000000
 t:f.ts.length<=1000000
def RFw (V:View) (v:Value) (f:FW):Prop:=∃p1 n1 d1 p2 n2 d2 p3 n3 d3 p n c p' n' c' q m e q' m' e',
 v=.agg #[.bool f.b1,.slice p1 n1 d1,.bool f.b2,.slice p2 n2 d2,.bool f.b3,.slice p3 n3 d3,.bool f.c1,.slice p n c,.slice p' n' c',.bool f.c2,.slice q m e,.slice q' m' e',.bool f.na,.bool f.nb] /\
 RLw V (.agg #[.bool f.b1,.slice p1 n1 d1,.bool f.b2,.slice p2 n2 d2,.bool f.b3,.slice p3 n3 d3]) f.b1 f.xs f.b2 f.ys f.b3 f.zs /\
 RSw V (.agg #[.bool f.c1,.slice p n c,.slice p' n' c',.bool f.c2,.slice q m e,.slice q' m' e',.bool f.na,.bool f.nb]) f.c1 f.us f.vs f.c2 f.ws f.ts f.na f.nb
theorem RFw.le {V V':View} {v:Value} {f:FW} (h:RFw V v f) (l:V.Le V'):RFw V' v f:=by
 obtain ⟨p1,n1,d1,p2,n2,d2,p3,n3,d3,p,n,c,p',n',c',q,m,e,q',m',e',rfl,h1,h2⟩:=h
 exact ⟨_,_,_,_,_,_,_,_,_,_,_,_,_,_,_,_,_,_,_,_,_,rfl,h1.le l,h2.le l⟩
end Go.Proofs.Tryz
/- By program: the conditions of the functions, from their loaded code. -/
namespace Go.Proofs.Tryz
open Go.Eng
open Go.Value renaming int→I,pointer→P,slice→S,agg→A,bool→B,tuple→T
open Go.IntKind renaming i64→J,u64→U,u32→W
set_option maxRecDepth 100000
theorem vc_ref04_Cmp (c:Bool) (d:OA) (e f:Nat) (g:Bool) (i:OA) (k l:Nat) (m:Bool) (n:OA) (o p:Nat) (q:Bool) (r:OA) (s t:Nat) (u:Bool) (w:OA) (x y:Nat) (z:Bool) (a0:OA) (a1 a2:Nat) (V:View) (R:VR) (h:(Ca V 223 #[A #[B c,S d e f],A #[B q,S r s t]] fun a9 a3=>∃a,a9=I J a/\(((a != (0:Int))=true->(Rt a3 R (I J a)))/\((a != (0:Int))=false->(Ca a3 223 #[A #[B g,S i k l],A #[B u,S w x y]] fun b0 a5=>∃b,b0=I J b/\(((b != (0:Int))=true->(Rt a5 R (I J b)))/\((b != (0:Int))=false->(Ca a5 223 #[A #[B m,S n o p],A #[B z,S a0 a1 a2]] fun b1 b2=>∃a7,b1=I J a7/\(Rt b2 R (I J a7)))))))))):
 Acts prog 145 #[A #[B c,S d e f,B g,S i k l,B m,S n o p],A #[B q,S r s t,B u,S w x y,B z,S a0 a1 a2]] V R:=
 fd (LF:=LF0) (RF:=[1000015]) [] [] func145 h
theorem vc_ref04_Meet (i:Bool) (k:OA) (l m:Nat) (n:Bool) (o:OA) (p q:Nat) (r:Bool) (s:OA) (t u:Nat) (w:Bool) (x:OA) (y z:Nat) (a0:Bool) (a1:OA) (a2 a3:Nat) (a4:Bool) (a5:OA) (a6 a7:Nat) (V:View) (R:VR) (h:(Ca V 82 #[A #[B i,S k l m]] fun t6 t7=>∃a9,∃b0 b1 b2,∃b3 b4 b5,t6=A #[B a9,S b0 b1 b2,S b3 b4 b5]/\(Ca t7 82 #[A #[B a0,S a1 a2 a3]] fun t8 t9=>∃b6,∃b7 b8 b9,∃c0 c1 c2,t8=A #[B b6,S b7 b8 b9,S c0 c1 c2]/\(Ca t9 150 #[A #[B a9,S b0 b1 b2,S b3 b4 b5],A #[B b6,S b7 b8 b9,S c0 c1 c2]] fun u0 u1=>∃c3,∃c4 c5 c6,∃c7 c8 c9,u0=A #[B c3,S c4 c5 c6,S c7 c8 c9]/\(Ca u1 82 #[A #[B w,S x y z]] fun u2 u3=>∃d0,∃d1 d2 d3,∃d4 d5 d6,u2=A #[B d0,S d1 d2 d3,S d4 d5 d6]/\(Ca u3 82 #[A #[B n,S o p q]] fun u4 u5=>∃d7,∃d8 d9 e0,∃e1 e2 e3,u4=A #[B d7,S d8 d9 e0,S e1 e2 e3]/\(Ca u5 150 #[A #[B d0,S d1 d2 d3,S d4 d5 d6],A #[B d7,S d8 d9 e0,S e1 e2 e3]] fun u6 u7=>∃e4,∃e5 e6 e7,∃e8 e9 f0,u6=A #[B e4,S e5 e6 e7,S e8 e9 f0]/\(Ca u7 93 #[A #[B c3,S c4 c5 c6,S c7 c8 c9],A #[B e4,S e5 e6 e7,S e8 e9 f0]] fun u8 u9=>∃a,∃b c d,∃e f g,u8=A #[B a,S b c d,S e f g]/\(Ca u9 86 #[A #[B a,S b c d,S e f g]] fun w0 f1=>∃a8,w0=I J a8/\(((a8 == (0:Int))=true->(Rt f1 R (T #[A #[B false,S none 0 0,S none 0 0,B false,S none 0 0,S none 0 0],B false])))/\((a8 == (0:Int))=false->(Ca f1 82 #[A #[B n,S o p q]] fun w1 w2=>∃f3,∃f4 f5 f6,∃f7 f8 f9,w1=A #[B f3,S f4 f5 f6,S f7 f8 f9]/\(Ca w2 82 #[A #[B a4,S a5 a6 a7]] fun w3 w4=>∃g0,∃g1 g2 g3,∃g4 g5 g6,w3=A #[B g0,S g1 g2 g3,S g4 g5 g6]/\(Ca w4 150 #[A #[B f3,S f4 f5 f6,S f7 f8 f9],A #[B g0,S g1 g2 g3,S g4 g5 g6]] fun w5 w6=>∃g7,∃g8 g9 i0,∃i1 i2 i3,w5=A #[B g7,S g8 g9 i0,S i1 i2 i3]/\(Ca w6 82 #[A #[B a0,S a1 a2 a3]] fun w7 w8=>∃i4,∃i5 i6 i7,∃i8 i9 k0,w7=A #[B i4,S i5 i6 i7,S i8 i9 k0]/\(Ca w8 82 #[A #[B r,S s t u]] fun w9 x0=>∃k1,∃k2 k3 k4,∃k5 k6 k7,w9=A #[B k1,S k2 k3 k4,S k5 k6 k7]/\(Ca x0 150 #[A #[B i4,S i5 i6 i7,S i8 i9 k0],A #[B k1,S k2 k3 k4,S k5 k6 k7]] fun x1 x2=>∃k8,∃k9 l0 l1,∃l2 l3 l4,x1=A #[B k8,S k9 l0 l1,S l2 l3 l4]/\(Ca x2 93 #[A #[B g7,S g8 g9 i0,S i1 i2 i3],A #[B k8,S k9 l0 l1,S l2 l3 l4]] fun x3 x4=>∃l5,∃l6 l7 l8,∃l9 m0 m1,x3=A #[B l5,S l6 l7 l8,S l9 m0 m1]/\(Ca x4 82 #[A #[B w,S x y z]] fun x5 x6=>∃m2,∃m3 m4 m5,∃m6 m7 m8,x5=A #[B m2,S m3 m4 m5,S m6 m7 m8]/\(Ca x6 82 #[A #[B r,S s t u]] fun x7 x8=>∃m9,∃n0 n1 n2,∃n3 n4 n5,x7=A #[B m9,S n0 n1 n2,S n3 n4 n5]/\(Ca x8 150 #[A #[B m2,S m3 m4 m5,S m6 m7 m8],A #[B m9,S n0 n1 n2,S n3 n4 n5]] fun x9 y0=>∃n6,∃n7 n8 n9,∃o0 o1 o2,x9=A #[B n6,S n7 n8 n9,S o0 o1 o2]/\(Ca y0 82 #[A #[B i,S k l m]] fun y1 y2=>∃o3,∃o4 o5 o6,∃o7 o8 o9,y1=A #[B o3,S o4 o5 o6,S o7 o8 o9]/\(Ca y2 82 #[A #[B a4,S a5 a6 a7]] fun y3 y4=>∃p0,∃p1 p2 p3,∃p4 p5 p6,y3=A #[B p0,S p1 p2 p3,S p4 p5 p6]/\(Ca y4 150 #[A #[B o3,S o4 o5 o6,S o7 o8 o9],A #[B p0,S p1 p2 p3,S p4 p5 p6]] fun y5 y6=>∃p7,∃p8 p9 q0,∃q1 q2 q3,y5=A #[B p7,S p8 p9 q0,S q1 q2 q3]/\(Ca y6 93 #[A #[B n6,S n7 n8 n9,S o0 o1 o2],A #[B p7,S p8 p9 q0,S q1 q2 q3]] fun y7 y8=>∃q4,∃q5 q6 q7,∃q8 q9 r0,y7=A #[B q4,S q5 q6 q7,S q8 q9 r0]/\(Ca y8 95 #[A #[B l5,S l6 l7 l8,S l9 m0 m1],A #[B a,S b c d,S e f g]] fun y9 z0=>∃r1,∃r2 r3 r4,∃r5 r6 r7,y9=A #[B r1,S r2 r3 r4,S r5 r6 r7]/\(Ca z0 95 #[A #[B q4,S q5 q6 q7,S q8 q9 r0],A #[B a,S b c d,S e f g]] fun z1 z2=>∃r8,∃r9 t0 t1,∃t2 t3 t4,z1=A #[B r8,S r9 t0 t1,S t2 t3 t4]/\(Rt z2 R (T #[A #[B r1,S r2 r3 r4,S r5 r6 r7,B r8,S r9 t0 t1,S t2 t3 t4],B true]))))))))))))))))))))))))))))):
 Acts prog 72 #[A #[B i,S k l m,B n,S o p q,B r,S s t u],A #[B w,S x y z,B a0,S a1 a2 a3,B a4,S a5 a6 a7]] V R:=
 fd (LF:=LF0) (RF:=[1000015]) [] [] func72 h
end Go.Proofs.Tryz
/- Contracts of the reference: Compare, Cmp, Collinear, the common point of two lines, onto (printed by mkma.py). -/
namespace Go.Proofs.Tryz
open Go.Eng Go.Big
theorem c_num_Compare {V:View} (z w:Int) {p q:OA} {n c m e:Nat} (ha:RD V p n c (digs z.natAbs)) (hb:RD V q m e (digs w.natAbs)) (hm:(digs z.natAbs).length<=1099511627776) (hn:(digs w.natAbs).length<=1099511627776) :
  Acts prog 223 #[.agg #[.bool (decide (z < 0)),.slice p n c],.agg #[.bool (decide (w < 0)),.slice q m e]] V fun r V'=>r=.int .i64 (z - w).sign:=by
 refine vc_num_Compare _ p n c _ q m e V _ fun V1 l1=>(c_num_Minus w (hb.le l1)).mono ?_
 rintro r V2 l2 ⟨p1,n1,c1,rfl,g1⟩
 refine ⟨_,_,_,_,rfl,fun V3 l3=>(c_num_Add z (-w) (ha.le (l1.trans (l2.trans l3))) (g1.le l3) hm (by rw [Int.natAbs_neg]; exact hn)).mono ?_⟩
 rintro r V4 l4 ⟨p2,n2,c2,rfl,g2⟩
 refine ⟨_,_,_,_,rfl,fun V5 l5=>(c_num_Sign _ (g2.le l5)).mono ?_⟩
 rintro r V6 l6 rfl
 exact ⟨_,rfl,fun V7 l7=>by rw [Int.sub_eq_add_neg]⟩
def cmpL (l m:L3):Int:=if (l.1 - m.1).sign≠0 then (l.1 - m.1).sign else if (l.2.1 - m.2.1).sign≠0 then (l.2.1 - m.2.1).sign else (l.2.2 - m.2.2).sign
theorem cmpL_eq {l m:L3}:cmpL l m=0↔l=m:=by
 have e:∀{a b:Int},(a - b).sign=0↔a=b:=fun {a b}=>by rw [Int.sign_eq_zero_iff_zero]; omega
 unfold cmpL
 constructor
 ·intro h
  by_cases h1:(l.1 - m.1).sign=0
  ·rw [if_neg (by simpa using h1)] at h
   by_cases h2:(l.2.1 - m.2.1).sign=0
   ·rw [if_neg (by simpa using h2)] at h
    exact Prod.ext (e.1 h1) (Prod.ext (e.1 h2) (e.1 h))
   ·rw [if_pos h2] at h; exact absurd h h2
  ·rw [if_pos h1] at h; exact absurd h h1
 ·rintro rfl
  simp
theorem c_ref04_Cmp {V:View} {v w:Value} {l m:L3} (hl:RL V v l.1 l.2.1 l.2.2) (hm:RL V w m.1 m.2.1 m.2.2) {k:Nat} (sl:SzL k l) (sm:SzL k m) (hk:k<=1099511627776) :
  Acts prog 145 #[v,w] V fun r V'=>r=.int .i64 (cmpL l m):=by
 obtain ⟨d1,d2,d3⟩:=sl.digs hk
 obtain ⟨e1,e2,e3⟩:=sm.digs hk
 obtain ⟨_,_,_,_,_,_,_,_,_,rfl,a1,a2,a3⟩:=hl
 obtain ⟨_,_,_,_,_,_,_,_,_,rfl,b1,b2,b3⟩:=hm
 refine vc_ref04_Cmp _ _ _ _ _ _ _ _ _ _ _ _ _ _ _ _ _ _ _ _ _ _ _ _ V _ fun V1 l1=>(c_num_Compare _ _ (a1.le l1) (b1.le l1) d1 e1).mono ?_
 rintro r V2 l2 rfl
 unfold cmpL
 refine ⟨_,rfl,fun h V3 l3=>?_,fun h V4 l4=>(c_num_Compare _ _ (a2.le (l1.trans (l2.trans l4))) (b2.le (l1.trans (l2.trans l4))) d2 e2).mono ?_⟩
 ·rw [bne_iff_ne] at h
  rw [if_pos h]
 ·rw [bne_eq_false_iff_eq] at h
  rw [if_neg (by rw [h]; decide)]
  rintro r V5 l5 rfl
  refine ⟨_,rfl,fun h V6 l6=>?_,fun h V7 l7=>(c_num_Compare _ _ (a3.le (l1.trans (l2.trans (l4.trans (l5.trans l7))))) (b3.le (l1.trans (l2.trans (l4.trans (l5.trans l7))))) d3 e3).mono ?_⟩
  ·rw [bne_iff_ne] at h
   rw [if_pos h]
  ·rw [bne_eq_false_iff_eq] at h
   rw [if_neg (by rw [h]; decide)]
   rintro r V8 l8 rfl
   exact ⟨_,rfl,fun V9 l9=>rfl⟩
def QZero (u:Value):Prop:=u=.agg #[.bool false,.slice none 0 0,.slice none 0 0,.bool false,.slice none 0 0,.slice none 0 0]
theorem r_Meet {V:View} {v w:Value} {l m:L3} (hl:RL V v l.1 l.2.1 l.2.2) (hm:RL V w m.1 m.2.1 m.2.2) {k:Nat} (sl:SzL k l) (sm:SzL k m) (hk:20 * k + 20 < 274877906944) :
  Acts prog 72 #[v,w] V fun r V'=>∃u,r=.tuple #[u,.bool (decide (crossL l m≠0))]/\(crossL l m=0->QZero u)/\(crossL l m≠0->RP V' u (meX l m) (meY l m)):=by
 have e0:((l.1:Int):Rat) * ((m.2.1:Int):Rat) - ((m.1:Int):Rat) * ((l.2.1:Int):Rat)=crossL l m:=by unfold crossL; grind
 have e1:((l.2.1:Int):Rat) * ((m.2.2:Int):Rat) - ((m.2.1:Int):Rat) * ((l.2.2:Int):Rat)=((l.2.1:Rat) * (m.2.2:Rat)) - ((l.2.2:Rat) * (m.2.1:Rat)):=by grind
 have e2:((m.1:Int):Rat) * ((l.2.2:Int):Rat) - ((l.1:Int):Rat) * ((m.2.2:Int):Rat)=((l.2.2:Rat) * (m.1:Rat)) - ((l.1:Rat) * (m.2.2:Rat)):=by grind
 obtain ⟨sl1,sl2,sl3⟩:=sl
 obtain ⟨sm1,sm2,sm3⟩:=sm
 obtain ⟨_,_,_,_,_,_,_,_,_,rfl,a1,a2,a3⟩:=hl
 obtain ⟨_,_,_,_,_,_,_,_,_,rfl,b1,b2,b3⟩:=hm
 refine vc_ref04_Meet _ _ _ _ _ _ _ _ _ _ _ _ _ _ _ _ _ _ _ _ _ _ _ _ V _ fun V1 l1=>(c_ref04_q' (a1.le l1) sl1 (by omega)).mono ?_
 rintro r V2 l2 gda
 have gda0:=gda
 obtain ⟨_,_,_,_,_,_,rfl⟩:=gda.shape
 refine ⟨_,_,_,_,_,_,_,rfl,fun V3 l3=>(c_ref04_q' (b2.le (l1.trans (l2.trans (l3)))) sm2 (by omega)).mono ?_⟩
 rintro r V4 l4 gdb
 have gdb0:=gdb
 obtain ⟨_,_,_,_,_,_,rfl⟩:=gdb.shape
 refine ⟨_,_,_,_,_,_,_,rfl,fun V5 l5=>(c_num_Times (gda0.le (l3.trans (l4.trans (l5)))) (gdb0.le l5) sl1 sm2 (by omega)).mono ?_⟩
 rintro r V6 l6 gdc
 have gdc0:=gdc
 obtain ⟨_,_,_,_,_,_,rfl⟩:=gdc.shape
 refine ⟨_,_,_,_,_,_,_,rfl,fun V7 l7=>(c_ref04_q' (b1.le (l1.trans (l2.trans (l3.trans (l4.trans (l5.trans (l6.trans (l7)))))))) sm1 (by omega)).mono ?_⟩
 rintro r V8 l8 gdd
 have gdd0:=gdd
 obtain ⟨_,_,_,_,_,_,rfl⟩:=gdd.shape
 refine ⟨_,_,_,_,_,_,_,rfl,fun V9 l9=>(c_ref04_q' (a2.le (l1.trans (l2.trans (l3.trans (l4.trans (l5.trans (l6.trans (l7.trans (l8.trans (l9)))))))))) sl2 (by omega)).mono ?_⟩
 rintro r V10 l10 gde
 have gde0:=gde
 obtain ⟨_,_,_,_,_,_,rfl⟩:=gde.shape
 refine ⟨_,_,_,_,_,_,_,rfl,fun V11 l11=>(c_num_Times (gdd0.le (l9.trans (l10.trans (l11)))) (gde0.le l11) sm1 sl2 (by omega)).mono ?_⟩
 rintro r V12 l12 gdf
 have gdf0:=gdf
 obtain ⟨_,_,_,_,_,_,rfl⟩:=gdf.shape
 refine ⟨_,_,_,_,_,_,_,rfl,fun V13 l13=>(c_num_Sub (gdc0.le (l7.trans (l8.trans (l9.trans (l10.trans (l11.trans (l12.trans (l13)))))))) (gdf0.le l13) (sl1.mul sm2) (sm1.mul sl2) (by omega)).mono ?_⟩
 rintro r V14 l14 gdg
 rw [e0] at gdg
 have gdg0:=gdg
 obtain ⟨_,_,_,_,_,_,rfl,gdg1,-⟩:=gdg
 have sD:Sz (4 * k + 3) (((l.1:Int):Rat) * ((m.2.1:Int):Rat) - ((m.1:Int):Rat) * ((l.2.1:Int):Rat)):=Sz.mono ((sl1.mul sm2).sub (sm1.mul sl2)) (by omega)
 rw [e0] at sD
 refine ⟨_,_,_,_,_,_,_,rfl,fun V15 l15=>(c_num_S _ (gdg1.le l15)).mono ?_⟩
 rintro r V16 l16 rfl
 refine ⟨_,rfl,fun hz V17 l17=>?_,fun hz=>?_⟩
 ·rw [beq_iff_eq,sign_eq_zero] at hz
  rw [hz]
  exact ⟨_,rfl,fun _=>rfl,fun h=>absurd rfl h⟩
 ·rw [beq_eq_false_iff_ne,ne_eq,sign_eq_zero] at hz
  rw [decide_eq_true hz]
  have hz':¬ (crossL l m).num=0:=fun h=>hz (Rat.num_eq_zero.1 h)
  intro V17 l17
  have M0:V.Le V17:=(l1.trans (l2.trans (l3.trans (l4.trans (l5.trans (l6.trans (l7.trans (l8.trans (l9.trans (l10.trans (l11.trans (l12.trans (l13.trans (l14.trans (l15.trans (l16.trans (l17)))))))))))))))))
  replace gdg0:=gdg0.le (l15.trans (l16.trans (l17)))
  refine (c_ref04_q' (a2.le M0) sl2 (by omega)).mono ?_
  rintro r V18 l18 gxa
  have gxa0:=gxa
  obtain ⟨_,_,_,_,_,_,rfl⟩:=gxa.shape
  refine ⟨_,_,_,_,_,_,_,rfl,fun V19 l19=>(c_ref04_q' (b3.le (M0.trans (l18.trans (l19)))) sm3 (by omega)).mono ?_⟩
  rintro r V20 l20 gxb
  have gxb0:=gxb
  obtain ⟨_,_,_,_,_,_,rfl⟩:=gxb.shape
  refine ⟨_,_,_,_,_,_,_,rfl,fun V21 l21=>(c_num_Times (gxa0.le (l19.trans (l20.trans (l21)))) (gxb0.le l21) sl2 sm3 (by omega)).mono ?_⟩
  rintro r V22 l22 gxc
  have gxc0:=gxc
  obtain ⟨_,_,_,_,_,_,rfl⟩:=gxc.shape
  refine ⟨_,_,_,_,_,_,_,rfl,fun V23 l23=>(c_ref04_q' (b2.le (M0.trans (l18.trans (l19.trans (l20.trans (l21.trans (l22.trans (l23)))))))) sm2 (by omega)).mono ?_⟩
  rintro r V24 l24 gxd
  have gxd0:=gxd
  obtain ⟨_,_,_,_,_,_,rfl⟩:=gxd.shape
  refine ⟨_,_,_,_,_,_,_,rfl,fun V25 l25=>(c_ref04_q' (a3.le (M0.trans (l18.trans (l19.trans (l20.trans (l21.trans (l22.trans (l23.trans (l24.trans (l25)))))))))) sl3 (by omega)).mono ?_⟩
  rintro r V26 l26 gxe
  have gxe0:=gxe
  obtain ⟨_,_,_,_,_,_,rfl⟩:=gxe.shape
  refine ⟨_,_,_,_,_,_,_,rfl,fun V27 l27=>(c_num_Times (gxd0.le (l25.trans (l26.trans (l27)))) (gxe0.le l27) sm2 sl3 (by omega)).mono ?_⟩
  rintro r V28 l28 gxf
  have gxf0:=gxf
  obtain ⟨_,_,_,_,_,_,rfl⟩:=gxf.shape
  refine ⟨_,_,_,_,_,_,_,rfl,fun V29 l29=>(c_num_Sub (gxc0.le (l23.trans (l24.trans (l25.trans (l26.trans (l27.trans (l28.trans (l29)))))))) (gxf0.le l29) (sl2.mul sm3) (sm2.mul sl3) (by omega)).mono ?_⟩
  rintro r V30 l30 gxg
  rw [e1] at gxg
  have gxg0:=gxg
  obtain ⟨_,_,_,_,_,_,rfl⟩:=gxg.shape
  have sX:Sz (4 * k + 3) (((l.2.1:Rat) * (m.2.2:Rat)) - ((l.2.2:Rat) * (m.2.1:Rat))):=by rw [← e1]; exact Sz.mono ((sl2.mul sm3).sub (sm2.mul sl3)) (by omega)
  have M1:V.Le V30:=(M0.trans (l18.trans (l19.trans (l20.trans (l21.trans (l22.trans (l23.trans (l24.trans (l25.trans (l26.trans (l27.trans (l28.trans (l29.trans (l30))))))))))))))
  replace gdg0:=gdg0.le (l18.trans (l19.trans (l20.trans (l21.trans (l22.trans (l23.trans (l24.trans (l25.trans (l26.trans (l27.trans (l28.trans (l29.trans (l30)))))))))))))
  refine ⟨_,_,_,_,_,_,_,rfl,fun V31 l31=>(c_ref04_q' (b1.le (M1.trans l31)) sm1 (by omega)).mono ?_⟩
  rintro r V32 l32 gya
  have gya0:=gya
  obtain ⟨_,_,_,_,_,_,rfl⟩:=gya.shape
  refine ⟨_,_,_,_,_,_,_,rfl,fun V33 l33=>(c_ref04_q' (a3.le (M1.trans (l31.trans (l32.trans (l33))))) sl3 (by omega)).mono ?_⟩
  rintro r V34 l34 gyb
  have gyb0:=gyb
  obtain ⟨_,_,_,_,_,_,rfl⟩:=gyb.shape
  refine ⟨_,_,_,_,_,_,_,rfl,fun V35 l35=>(c_num_Times (gya0.le (l33.trans (l34.trans (l35)))) (gyb0.le l35) sm1 sl3 (by omega)).mono ?_⟩
  rintro r V36 l36 gyc
  have gyc0:=gyc
  obtain ⟨_,_,_,_,_,_,rfl⟩:=gyc.shape
  refine ⟨_,_,_,_,_,_,_,rfl,fun V37 l37=>(c_ref04_q' (a1.le (M1.trans (l31.trans (l32.trans (l33.trans (l34.trans (l35.trans (l36.trans (l37))))))))) sl1 (by omega)).mono ?_⟩
  rintro r V38 l38 gyd
  have gyd0:=gyd
  obtain ⟨_,_,_,_,_,_,rfl⟩:=gyd.shape
  refine ⟨_,_,_,_,_,_,_,rfl,fun V39 l39=>(c_ref04_q' (b3.le (M1.trans (l31.trans (l32.trans (l33.trans (l34.trans (l35.trans (l36.trans (l37.trans (l38.trans (l39))))))))))) sm3 (by omega)).mono ?_⟩
  rintro r V40 l40 gye
  have gye0:=gye
  obtain ⟨_,_,_,_,_,_,rfl⟩:=gye.shape
  refine ⟨_,_,_,_,_,_,_,rfl,fun V41 l41=>(c_num_Times (gyd0.le (l39.trans (l40.trans (l41)))) (gye0.le l41) sl1 sm3 (by omega)).mono ?_⟩
  rintro r V42 l42 gyf
  have gyf0:=gyf
  obtain ⟨_,_,_,_,_,_,rfl⟩:=gyf.shape
  refine ⟨_,_,_,_,_,_,_,rfl,fun V43 l43=>(c_num_Sub (gyc0.le (l37.trans (l38.trans (l39.trans (l40.trans (l41.trans (l42.trans (l43)))))))) (gyf0.le l43) (sm1.mul sl3) (sl1.mul sm3) (by omega)).mono ?_⟩
  rintro r V44 l44 gyg
  rw [e2] at gyg
  have gyg0:=gyg
  obtain ⟨_,_,_,_,_,_,rfl⟩:=gyg.shape
  have sY:Sz (4 * k + 3) (((l.2.2:Rat) * (m.1:Rat)) - ((l.1:Rat) * (m.2.2:Rat))):=by rw [← e2]; exact Sz.mono ((sm1.mul sl3).sub (sl1.mul sm3)) (by omega)
  replace gdg0:=gdg0.le (l31.trans (l32.trans (l33.trans (l34.trans (l35.trans (l36.trans (l37.trans (l38.trans (l39.trans (l40.trans (l41.trans (l42.trans (l43.trans (l44))))))))))))))
  replace gxg0:=gxg0.le (l31.trans (l32.trans (l33.trans (l34.trans (l35.trans (l36.trans (l37.trans (l38.trans (l39.trans (l40.trans (l41.trans (l42.trans (l43.trans (l44))))))))))))))
  refine ⟨_,_,_,_,_,_,_,rfl,fun V45 l45=>(c_num_Over (gxg0.le l45) (gdg0.le l45) hz' sX sD (by omega)).mono ?_⟩
  rintro r V46 l46 gr
  have gr0:=gr
  obtain ⟨_,_,_,_,_,_,rfl⟩:=gr.shape
  refine ⟨_,_,_,_,_,_,_,rfl,fun V47 l47=>(c_num_Over (gyg0.le (l45.trans (l46.trans (l47)))) (gdg0.le (l45.trans (l46.trans (l47)))) hz' sY sD (by omega)).mono ?_⟩
  rintro r V48 l48 gs
  have gs0:=gs
  obtain ⟨_,_,_,_,_,_,rfl⟩:=gs.shape
  exact ⟨_,_,_,_,_,_,_,rfl,fun V49 l49=>⟨_,rfl,fun h=>absurd h hz,fun _=>⟨_,_,_,_,_,_,_,_,_,_,_,_,rfl,gr0.le (l47.trans (l48.trans (l49))),gs0.le l49⟩⟩⟩
end Go.Proofs.Tryz
/- Lines (package geo) in a row that is sorted: how they are compared. -/
namespace Go.Proofs.Tryz
open Go.Eng Go.Big
def dCL:L3:=(0,0,0)
theorem cmpL_lt {a b:L3}:cmpL a b < 0↔(a.1 < b.1 \/ a.1=b.1/\(a.2.1 < b.2.1 \/ a.2.1=b.2.1/\a.2.2 < b.2.2)):=by
 have s:∀{x y:Int},(x < y/\(x - y).sign=-1) \/ (x=y/\(x - y).sign=0) \/ (y < x/\(x - y).sign=1):=by
  intro x y
  rcases Int.lt_trichotomy x y with h | h | h
  ·exact .inl ⟨h,Int.sign_eq_neg_one_of_neg (by omega)⟩
  ·exact .inr (.inl ⟨h,by rw [h,Int.sub_self]; rfl⟩)
  ·exact .inr (.inr ⟨h,Int.sign_eq_one_of_pos (by omega)⟩)
 unfold cmpL
 rcases @s a.1 b.1 with ⟨h1,e1⟩ | ⟨h1,e1⟩ | ⟨h1,e1⟩ <;> rcases @s a.2.1 b.2.1 with ⟨h2,e2⟩ | ⟨h2,e2⟩ | ⟨h2,e2⟩ <;> rcases @s a.2.2 b.2.2 with ⟨h3,e3⟩ | ⟨h3,e3⟩ | ⟨h3,e3⟩ <;> rw [e1,e2,e3] <;> simp <;> omega
/-- A line; its numbers are small. -/
def RCL (V:View) (v:Value) (c:L3):Prop:=RLn V v c.1 c.2.1 c.2.2/\Bd c
theorem RCL.le {V V':View} {v:Value} {c:L3} (h:RCL V v c) (l:V.Le V'):RCL V' v c:=⟨h.1.le l,h.2⟩
theorem RCL.shape {V:View} {v:Value} {c:L3} (h:RCL V v c):∃(x y:Int) (p:OA) (xb yb:Int) (pb:OA) (xc yc:Int) (pc:OA),v=.agg #[.int .i64 x,.int .i64 y,.pointer p,.int .i64 xb,.int .i64 yb,.pointer pb,.int .i64 xc,.int .i64 yc,.pointer pc]:=by
 obtain ⟨⟨x1,x2,p,y1,y2,q,z1,z2,r,e,-⟩,-⟩:=h; exact ⟨_,_,_,_,_,_,_,_,_,e⟩
end Go.Proofs.Tryz
/- Plain: quicksort's state between two partitions. -/
namespace Go.Proofs.Tryz
open Go.Big
section
variable {α:Type} {c:α->α->Int} {d:α}
structure PQ (c:α->α->Int) (d:α) (l0 l:List α) (a0 b0 a b:Nat):Prop where
 seg:Seg d l0 l a0 b0
 ha:a0<=a
 hab:a<=b
 hb:b<=b0
 lo:Asc c d l a0 a
 hi:Asc c d l b b0
 s1:Sep c d l a0 a b0
 s2:Sep c d l a0 b b0
 pre:0 < a->∀k,a<=k->k < b->¬ c (l.getD k d) (l.getD (a - 1) d) < 0
variable {l0 l m:List α} {a0 b0 a b mid:Nat}
theorem PQ.start {l:List α} (h:a<=b) (hp:0 < a->∀k,a<=k->k < b->¬ c (l.getD k d) (l.getD (a - 1) d) < 0):PQ c d l l a b a b:=
 ⟨.refl _ _ _,Nat.le_refl _,h,Nat.le_refl _,.short (by omega),.short (by omega),fun p q h1 h2=>by omega,fun p q h1 h2 h3 h4=>by omega,hp⟩
theorem PQ.change (h:PQ c d l0 l a0 b0 a b) (hs:Seg d l m a b):PQ c d l0 m a0 b0 a b:=
 ⟨h.seg.trans (hs.wide h.ha h.hb),h.ha,h.hab,h.hb,hs.asc h.lo (.inl (Nat.le_refl _)),hs.asc h.hi (.inr (Nat.le_refl _)),hs.sep h.s1 (.inr (.inl ⟨Nat.le_refl _,h.hb⟩)),hs.sep h.s2 (.inl ⟨h.ha,Nat.le_refl _⟩),fun h0 k h1 h2=>by
  obtain ⟨k',h3,h4,e⟩:=hs.mem k h1 h2
  rw [e,hs.out (a - 1) (by omega)]
  exact h.pre h0 k' h3 h4⟩
theorem PQ.fin (h:PQ c d l0 l a0 b0 a b) (hs:Seg d l m a b) (ha:Asc c d m a b):Seg d l0 m a0 b0/\Asc c d m a0 b0:=by
 have h':=h.change hs
 refine ⟨h'.seg,h'.lo.join (ha.join h'.hi fun p q h1 h2 h3 h4=>h'.s2 p q (by have:=h.ha; omega) h2 h3 h4) h'.s1⟩
theorem PQ.left (ho:Ord c) (h:PQ c d l0 l a0 b0 a b) (hm:a<=mid) (hm':mid < b) (h1:∀k,a<=k->k < mid->c (l.getD k d) (l.getD mid d) < 0) (h2:∀k,mid < k->k < b->¬ c (l.getD k d) (l.getD mid d) < 0)
  (hs:Seg d l m a mid) (ha:Asc c d m a mid):PQ c d l0 m a0 b0 (mid + 1) b:=by
 have e0:=h.ha
 have e1:=h.hb
 have em:m.getD mid d=l.getD mid d:=hs.out mid (by omega)
 have below:∀k,a<=k->k < mid->¬ c (m.getD mid d) (m.getD k d) < 0:=fun k g1 g2=>by
  obtain ⟨k',g3,g4,e⟩:=hs.mem k g1 g2
  rw [em,e]; exact ho.asy _ _ (h1 k' g3 g4)
 have t1:=hs.sep h.s1 (.inr (.inl ⟨Nat.le_refl _,by omega⟩))
 have t2:=hs.sep h.s2 (.inl ⟨e0,by omega⟩)
 have up:∀q,mid < q->q < b->¬ c (m.getD q d) (m.getD mid d) < 0:=fun q g1 g2=>by rw [em,hs.out q (by omega)]; exact h2 q g1 g2
 refine ⟨h.seg.trans (hs.wide e0 (by omega)),by omega,by omega,e1,(hs.asc h.lo (.inl (Nat.le_refl _))).join (m:=a) (fun p q g1 g2 g3=>?_) fun p q g1 g2 g3 g4=>t1 p q g1 g2 g3 (by omega),hs.asc h.hi (.inr (by omega)),fun p q g1 g2 g3 g4=>?_,t2,fun _ k g1 g2=>up k (by omega) g2⟩
 ·by_cases e:q=mid
  ·subst e; exact below p g1 g2
  ·exact ha p q g1 g2 (by omega)
 ·by_cases hq:b<=q
  ·exact t2 p q g1 (by omega) hq g4
  ·by_cases hp:p < a
   ·exact t1 p q g1 hp (by omega) g4
   ·have u:=up q (by omega) (by omega)
    by_cases e:p=mid
    ·subst e; exact u
    ·exact ho.tr _ _ _ u (below p (by omega) (by omega))
theorem PQ.right (ho:Ord c) (h:PQ c d l0 l a0 b0 a b) (hm:a<=mid) (hm':mid < b) (h1:∀k,a<=k->k < mid->c (l.getD k d) (l.getD mid d) < 0) (h2:∀k,mid < k->k < b->¬ c (l.getD k d) (l.getD mid d) < 0)
  (hs:Seg d l m (mid + 1) b) (ha:Asc c d m (mid + 1) b):PQ c d l0 m a0 b0 a mid:=by
 have e0:=h.ha
 have e1:=h.hb
 have em:m.getD mid d=l.getD mid d:=hs.out mid (by omega)
 have up:∀q,mid < q->q < b->¬ c (m.getD q d) (m.getD mid d) < 0:=fun q g1 g2=>by
  obtain ⟨k',g3,g4,e⟩:=hs.mem q (by omega) g2
  rw [em,e]; exact h2 k' (by omega) g4
 have below:∀k,a<=k->k < mid->¬ c (m.getD mid d) (m.getD k d) < 0:=fun k g1 g2=>by
  rw [em,hs.out k (by omega)]; exact ho.asy _ _ (h1 k g1 g2)
 have t1:=hs.sep h.s1 (.inr (.inl ⟨by omega,e1⟩))
 have t2:=hs.sep h.s2 (.inl ⟨by omega,Nat.le_refl _⟩)
 have t3:=hs.asc h.hi (.inr (Nat.le_refl _))
 refine ⟨h.seg.trans (hs.wide (by omega) e1),e0,hm,by omega,hs.asc h.lo (.inl (by omega)),fun p q g1 g2 g3=>?_,t1,fun p q g1 g2 g3 g4=>?_,fun h0 k g1 g2=>?_⟩
 ·by_cases hq:q < b
  ·by_cases e:p=mid
   ·subst e; exact up q g2 hq
   ·exact ha p q (by omega) g2 hq
  ·by_cases hp:p < b
   ·exact t2 p q (by omega) hp (by omega) g3
   ·exact t3 p q (by omega) g2 g3
 ·by_cases hq:b<=q
  ·exact t2 p q g1 (by omega) hq g4
  ·by_cases hp:p < a
   ·exact t1 p q g1 hp (by omega) g4
   ·have u:=below p (by omega) g2
    by_cases e:q=mid
    ·subst e; exact u
    ·exact ho.tr _ _ _ (up q (by omega) (by omega)) u
 ·rw [hs.out k (by omega),hs.out (a - 1) (by omega)]; exact h.pre h0 k g1 (by omega)
/-- The second half of a heap sort: a heap in front, the greatest behind, in order. -/
structure HQ (c:α->α->Int) (d:α) (l:List α) (f i n:Nat):Prop where
 hp:Hp c d l f 0 i none
 asc:Asc c d l (f + i) (f + n)
 sep:Sep c d l f (f + i) (f + n)
theorem HQ.start {f n:Nat} (h:Hp c d l f 0 n none):HQ c d l f n n:=⟨h,.short (by omega),fun p q h1 h2 h3 h4=>by omega⟩
theorem HQ.step (ho:Ord c) {f k n:Nat} (h:HQ c d l f (k + 1) n) (hk:k + 1<=n) (hl:f + n<=l.length) (hs:Seg d (swp d l f (f + k)) m f (f + k)) (hm:Hp c d m f 0 k none):HQ c d m f k n:=by
 have ha:=fun x=>swp_at (d:=d) (l:=l) (i:=f) (j:=f + k) (k:=x) (by omega) (by omega)
 have out:∀q,f + k < q->m.getD q d=l.getD q d:=fun q hq=>by rw [hs.out q (by omega),ha,if_neg (by omega),if_neg (by omega)]
 have top:m.getD (f + k) d=l.getD f d:=by rw [hs.out (f + k) (by omega),ha,if_pos rfl]
 refine ⟨hm,fun p q g1 g2 g3=>?_,fun p q g1 g2 g3 g4=>?_⟩
 ·rw [out q (by omega)]
  by_cases e:p=f + k
  ·rw [e,top]; exact h.sep f q (Nat.le_refl _) (by omega) (by omega) g3
  ·rw [out p (by omega)]; exact h.asc p q (by omega) g2 g3
 ·have hp:∃j,j < k + 1/\m.getD p d=l.getD (f + j) d:=by
   obtain ⟨p',e1,e2,e⟩:=hs.mem p g1 g2
   rw [e,ha,if_neg (by omega)]
   split
   ·exact ⟨k,by omega,rfl⟩
   ·exact ⟨p' - f,by omega,by rw [show f + (p' - f)=p' by omega]⟩
  obtain ⟨j,hj,e⟩:=hp
  rw [e]
  by_cases eq:q=f + k
  ·rw [eq,top]; exact h.hp.top ho j hj
  ·rw [out q (by omega)]; exact h.sep (f + j) q (by omega) (by omega) (by omega) g4
theorem HQ.fin {f n:Nat} (h:HQ c d l f 0 n):Asc c d l f (f + n):=by have:=h.asc; simpa using this
/-- A partition in progress: the pivot at a, the elements with P ahead of i, the others behind j. -/
structure PT (P:α->Prop) (d:α) (l:List α) (a b i j:Nat):Prop where
 hi:a < i
 hij:i<=j + 1
 hj:j < b
 lo:∀k,a < k->k < i->P (l.getD k d)
 up:∀k,j < k->k < b->¬ P (l.getD k d)
variable {P:α->Prop} {i j:Nat}
theorem PT.start (h:a + 1 < b):PT P d l a b (a + 1) (b - 1):=⟨by omega,by omega,by omega,fun k h1 h2=>by omega,fun k h1 h2=>by omega⟩
theorem PT.swap (h:PT P d l a b i j) (hij:i<=j) (hl:b<=l.length) (h1:¬ P (l.getD i d)) (h2:P (l.getD j d)):PT P d (swp d l i j) a b (i + 1) (j - 1)/\(swp d l i j).getD a d=l.getD a d/\Seg d l (swp d l i j) a b:=by
 have e0:=h.hi
 have e1:=h.hj
 have ne:i≠j:=fun e=>h1 (e ▸ h2)
 have ha:=fun x=>swp_at (d:=d) (l:=l) (i:=i) (j:=j) (k:=x) (by omega) (by omega)
 refine ⟨⟨by omega,by omega,by omega,fun k g1 g2=>?_,fun k g1 g2=>?_⟩,by rw [ha,if_neg (by omega),if_neg (by omega)],Seg.swp (by omega) (by omega) (by omega) e1 hl⟩
 ·rw [ha,if_neg (by omega)]
  by_cases e:k=i
  ·rw [if_pos e]; exact h2
  ·rw [if_neg e]; exact h.lo k g1 (by omega)
 ·rw [ha]
  by_cases e:k=j
  ·rw [if_pos e]; exact h1
  ·rw [if_neg e,if_neg (by omega)]; exact h.up k (by omega) g2
/-- The end: the pivot goes between the parts. -/
theorem PT.fin (ho:Ord c) (h:PT (fun x=>c x (l.getD a d) < 0) d l a b i j) (hij:¬ i<=j) (hl:b<=l.length):Seg d l (swp d l j a) a b/\a<=j/\j < b /\
  (∀k,a<=k->k < j->c ((swp d l j a).getD k d) ((swp d l j a).getD j d) < 0)/\(∀k,j < k->k < b->¬ c ((swp d l j a).getD k d) ((swp d l j a).getD j d) < 0):=by
 have e0:=h.hi
 have e1:=h.hij
 have e2:=h.hj
 have ha:=fun x=>swp_at (d:=d) (l:=l) (i:=j) (j:=a) (k:=x) (by omega) (by omega)
 have ej:(swp d l j a).getD j d=l.getD a d:=by
  rw [ha]
  by_cases e:j=a
  ·rw [if_pos e,e]
  ·rw [if_neg e,if_pos rfl]
 refine ⟨Seg.swp (by omega) e2 (Nat.le_refl _) (by omega) hl,by omega,e2,fun k g1 g2=>?_,fun k g1 g2=>?_⟩
 ·rw [ej,ha]
  by_cases e:k=a
  ·rw [if_pos e]; exact h.lo j (by omega) (by omega)
  ·rw [if_neg e,if_neg (by omega)]; exact h.lo k (by omega) (by omega)
 ·rw [ej,ha,if_neg (by omega),if_neg (by omega)]; exact h.up k g1 g2
end
end Go.Proofs.Tryz
/- By program: the conditions of the functions, from their loaded code. -/
namespace Go.Proofs.Tryz
open Go.Eng
open Go.Value renaming int→I,pointer→P,slice→S,agg→A,bool→B,tuple→T
open Go.IntKind renaming i64→J,u64→U,u32→W
set_option maxRecDepth 100000
theorem vc_math_bits_Len64 (e:Int) (V:View) (R:VR) (h:(∃k:(Int × Int)->VP,(((decide (e ≥ (4294967296:Int)))=true->(0<=(32:Int))/\(∃l,(((e.fdiv (2 ^ 32))=l.1)/\((32:Int)=l.2))/\k l V))/\((decide (e ≥ (4294967296:Int)))=false->(∃m,((e=m.1)/\((0:Int)=m.2))/\k m V)))/\∀(b:Int × Int) (f:View),V.Le f->k b f->(true=true/\(∃n:(Int × Int)->VP,(((decide (b.1 ≥ (65536:Int)))=true->(0<=(16:Int))/\(∃o,(((b.1.fdiv (2 ^ 16))=o.1)/\((J.wrap (b.2 + (16:Int)))=o.2))/\n o f))/\((decide (b.1 ≥ (65536:Int)))=false->(∃p,((b.1=p.1)/\(b.2=p.2))/\n p f)))/\∀(d:Int × Int) (g:View),f.Le g->n d g->(true=true/\(∃q:(Int × Int)->VP,(((decide (d.1 ≥ (256:Int)))=true->(0<=(8:Int))/\(∃r,(((d.1.fdiv (2 ^ 8))=r.1)/\((J.wrap (d.2 + (8:Int)))=r.2))/\q r g))/\((decide (d.1 ≥ (256:Int)))=false->(∃s,((d.1=s.1)/\(d.2=s.2))/\q s g)))/\∀(i:Int × Int) (t:View),g.Le t->q i t->(true=true/\(0<=(IntKind.u8.wrap (i.1))/\(IntKind.u8.wrap (i.1)) < (((⟨#[0,1,2,2,3,3,3,3,4,4,4,4,4,4,4,4,5,5,5,5,5,5,5,5,5,5,5,5,5,5,5,5,6,6,6,6,6,6,6,6,6,6,6,6,6,6,6,6,6,6,6,6,6,6,6,6,6,6,6,6,6,6,6,6,7,7,7,7,7,7,7,7,7,7,7,7,7,7,7,7,7,7,7,7,7,7,7,7,7,7,7,7,7,7,7,7,7,7,7,7,7,7,7,7,7,7,7,7,7,7,7,7,7,7,7,7,7,7,7,7,7,7,7,7,7,7,7,7,8,8,8,8,8,8,8,8,8,8,8,8,8,8,8,8,8,8,8,8,8,8,8,8,8,8,8,8,8,8,8,8,8,8,8,8,8,8,8,8,8,8,8,8,8,8,8,8,8,8,8,8,8,8,8,8,8,8,8,8,8,8,8,8,8,8,8,8,8,8,8,8,8,8,8,8,8,8,8,8,8,8,8,8,8,8,8,8,8,8,8,8,8,8,8,8,8,8,8,8,8,8,8,8,8,8,8,8,8,8,8,8,8,8,8,8,8,8,8,8,8,8,8,8,8,8,8,8]⟩:ByteArray).size:Nat):Int))/\(Rt t R (I J (J.wrap (i.2 + (J.wrap ((((⟨#[0,1,2,2,3,3,3,3,4,4,4,4,4,4,4,4,5,5,5,5,5,5,5,5,5,5,5,5,5,5,5,5,6,6,6,6,6,6,6,6,6,6,6,6,6,6,6,6,6,6,6,6,6,6,6,6,6,6,6,6,6,6,6,6,7,7,7,7,7,7,7,7,7,7,7,7,7,7,7,7,7,7,7,7,7,7,7,7,7,7,7,7,7,7,7,7,7,7,7,7,7,7,7,7,7,7,7,7,7,7,7,7,7,7,7,7,7,7,7,7,7,7,7,7,7,7,7,7,8,8,8,8,8,8,8,8,8,8,8,8,8,8,8,8,8,8,8,8,8,8,8,8,8,8,8,8,8,8,8,8,8,8,8,8,8,8,8,8,8,8,8,8,8,8,8,8,8,8,8,8,8,8,8,8,8,8,8,8,8,8,8,8,8,8,8,8,8,8,8,8,8,8,8,8,8,8,8,8,8,8,8,8,8,8,8,8,8,8,8,8,8,8,8,8,8,8,8,8,8,8,8,8,8,8,8,8,8,8,8,8,8,8,8,8,8,8,8,8,8,8,8,8,8,8,8,8]⟩:ByteArray).data.toList.getD ((IntKind.u8.wrap (i.1)).toNat) 0).toNat:Int)))))))))))))):
 Acts prog 308 #[I U e] V R:=
 fd (LF:=LF0) (RF:=[1000015]) [] [(2,⟨Int × Int,false,[],[],fun a=>[(0,.c (.v (I U a.1))),(2,.c (.v (I J a.2)))],fun a=>[]⟩),(5,⟨Int × Int,false,[],[],fun a=>[(0,.c (.v (I U a.1))),(2,.c (.v (I J a.2)))],fun a=>[]⟩),(8,⟨Int × Int,false,[],[],fun a=>[(0,.c (.v (I U a.1))),(2,.c (.v (I J a.2)))],fun a=>[]⟩)] func308 h
theorem vc_math_bits_Len (a:Int) (V:View) (R:VR) (h:(Ca V 308 #[I U a] fun d e=>∃b,d=I J b/\(Rt e R (I J b)))):
 Acts prog 254 #[I U a] V R:=
 fd (LF:=LF0) (RF:=[1000015]) [] [] func254 h
end Go.Proofs.Tryz
/- Sorting: what does not depend on the elements. -/
namespace Go.Proofs.Tryz
open Go.Eng Go.Big
set_option maxRecDepth 10000 in
theorem c_Len64 {V:View} (x:Nat) (hx:x < 256):Acts prog 308 #[.int .u64 (x:Int)] V fun r V'=>r=.int .i64 (blen x:Int):=by
 refine vc_math_bits_Len64 _ V _ ⟨fun z _=>z=((x:Int),0),⟨fun h0=>absurd (of_decide_eq_true h0) (by omega),fun _=>⟨_,⟨rfl,rfl⟩,rfl⟩⟩,?_⟩
 rintro _ V1 l1 rfl
 refine ⟨rfl,fun z _=>z=((x:Int),0),⟨fun h0=>absurd (of_decide_eq_true h0) (by dsimp only; omega),fun _=>⟨_,⟨rfl,rfl⟩,rfl⟩⟩,?_⟩
 rintro _ V2 l2 rfl
 refine ⟨rfl,fun z _=>z=((x:Int),0),⟨fun h0=>absurd (of_decide_eq_true h0) (by dsimp only; omega),fun _=>⟨_,⟨rfl,rfl⟩,rfl⟩⟩,?_⟩
 rintro _ V3 l3 rfl
 have hw:IntKind.u8.wrap (x:Int)=x:=IntWalk.u8_in _ (by omega)
 have hsz:(len8.size:Int)=256:=rfl
 dsimp only
 rw [hw]
 refine ⟨rfl,⟨by omega,by show (x:Int) < (len8.size:Int); rw [hsz]; omega⟩,fun V4 l4=>?_⟩
 show Value.int .i64 (i64.wrap (0 + i64.wrap ((len8.data.toList.getD (x:Int).toNat 0).toNat:Int)))=_
 congr 1
 have key:∀y:Nat,y < 256->(len8.data.toList.getD y 0).toNat=blen y:=by decide +kernel
 have hbl:blen x<=8:=blen_le.2 (by omega)
 have:=key x hx
 rw [Int.toNat_natCast,this]
 simp (disch:=omega) only [i64w]
 omega
theorem c_bits_Len {V:View} (x:Nat) (hx:x < 256):Acts prog 254 #[.int .u64 (x:Int)] V fun r V'=>r=.int .i64 (blen x:Int):=by
 refine vc_math_bits_Len _ V _ fun V1 l1=>(c_Len64 x hx).mono ?_
 rintro r V2 l2 rfl
 exact ⟨_,rfl,fun V3 l3=>rfl⟩
end Go.Proofs.Tryz
/- By program: the conditions of the functions, from their loaded code. -/
namespace Go.Proofs.Tryz
open Go.Eng
set_option maxRecDepth 100000
end Go.Proofs.Tryz
/- Sorting (slices.SortFunc) of bspregion/geo.Ln (turned by mksort.py from the texts on changes). -/
namespace Go.Proofs.Tryz
open Go.Eng Go.Big
/-- The row that is sorted. -/
structure SRL (V:View) (n:Nat) (vs:List Value) (l:List L3):Prop where
 row:Row 9 RCL V vs l
 len:n=l.length
 few:l.length < 50
theorem SRL.le {V V':View} {n:Nat} {vs:List Value} {l:List L3} (h:SRL V n vs l) (e:V.Le V'):SRL V' n vs l:=⟨h.row.le fun _ _ g=>RCL.le g e,h.len,h.few⟩
theorem SRL.get {V:View} {n:Nat} {vs:List Value} {l:List L3} (h:SRL V n vs l) {k:Nat} (hk:k < l.length):∃(x y:Int) (p:OA) (xb yb:Int) (pb:OA) (xc yc:Int) (pc:OA),
  ((0 + k * 9) + 9<=vs.length/\(vs.drop (0 + k * 9)).take 9=[.int .i64 x,.int .i64 y,.pointer p,.int .i64 xb,.int .i64 yb,.pointer pb,.int .i64 xc,.int .i64 yc,.pointer pc])/\RCL V (.agg #[.int .i64 x,.int .i64 y,.pointer p,.int .i64 xb,.int .i64 yb,.pointer pb,.int .i64 xc,.int .i64 yc,.pointer pc]) (l.getD k dCL):=by
 obtain ⟨xs,-,h2,h3,h4⟩:=h.row.get (d:=dCL) hk (by decide)
 have h20:=h2
 obtain ⟨x,y,p,xb,yb,pb,xc,yc,pc,e⟩:=h2.shape
 have e:=congrArg Array.toList (Value.agg.inj e)
 dsimp only at e
 subst e
 rw [Nat.zero_add]
 exact ⟨x,y,p,xb,yb,pb,xc,yc,pc,⟨h3,h4⟩,h20⟩
theorem SRL.swap {V:View} {n:Nat} {vs:List Value} {l:List L3} (h:SRL V n vs l) {i j:Nat} (hi:i < l.length) (hj:j < l.length) {x y:Int} {p:OA} {xb yb:Int} {pb:OA} {xc yc:Int} {pc:OA} {x' y':Int} {p':OA} {xb' yb':Int} {pb':OA} {xc' yc':Int} {pc':OA}
  (h1:RCL V (.agg #[.int .i64 x,.int .i64 y,.pointer p,.int .i64 xb,.int .i64 yb,.pointer pb,.int .i64 xc,.int .i64 yc,.pointer pc]) (l.getD i dCL)) (h2:RCL V (.agg #[.int .i64 x',.int .i64 y',.pointer p',.int .i64 xb',.int .i64 yb',.pointer pb',.int .i64 xc',.int .i64 yc',.pointer pc']) (l.getD j dCL)) :
  (0 + i * 9) + 9<=vs.length/\(0 + j * 9) + 9<=(setVals vs (0 + i * 9) [.int .i64 x',.int .i64 y',.pointer p',.int .i64 xb',.int .i64 yb',.pointer pb',.int .i64 xc',.int .i64 yc',.pointer pc']).length /\
  SRL V n (setVals (setVals vs (0 + i * 9) [.int .i64 x',.int .i64 y',.pointer p',.int .i64 xb',.int .i64 yb',.pointer pb',.int .i64 xc',.int .i64 yc',.pointer pc']) (0 + j * 9) [.int .i64 x,.int .i64 y,.pointer p,.int .i64 xb,.int .i64 yb,.pointer pb,.int .i64 xc,.int .i64 yc,.pointer pc]) (swp dCL l i j):=by
 obtain ⟨-,-,-,g1,-⟩:=h.row.get (d:=dCL) hi (by decide)
 obtain ⟨-,-,-,g2,-⟩:=h.row.get (d:=dCL) hj (by decide)
 rw [Nat.zero_add,Nat.zero_add]
 refine ⟨g1,by rw [setVals_len (by exact g1)]; exact g2,h.row.swap hi hj (by decide) rfl rfl h1 h2,by rw [swp_len]; exact h.len,by rw [swp_len]; exact h.few⟩
end Go.Proofs.Tryz
/- By program: the conditions of the functions, from their loaded code. -/
namespace Go.Proofs.Tryz
open Go.Eng
set_option maxRecDepth 100000
end Go.Proofs.Tryz
/- slices.CompactFunc of bspregion/geo.Ln (by mksort.py). -/
namespace Go.Proofs.Tryz
open Go.Eng Go.Big
end Go.Proofs.Tryz
/- Any row as it grows. -/
namespace Go.Proofs.Tryz
open Go.Eng Go.Big
/-- Any row as it grows. -/
structure GR {α:Type} (sz:Nat) (R:View->Value->α->Prop) (V:View) (n c:Nat) (vs:List Value) (l:List α):Prop where
 len:n=l.length
 le:n<=c
 cap:c * sz<=vs.length
 row:Row sz R V vs l
theorem GR.nil {α:Type} {sz:Nat} {R:View->Value->α->Prop} {V:View}:GR sz R V 0 0 [] []:=⟨rfl,Nat.le_refl _,by simp,Row.nil⟩
theorem GR.mono {α:Type} {sz:Nat} {R:View->Value->α->Prop} {V V':View} {n c:Nat} {vs:List Value} {l:List α} (h:GR sz R V n c vs l) (m:∀v a,R V v a->R V' v a):GR sz R V' n c vs l:=⟨h.len,h.le,h.cap,h.row.le m⟩
theorem GR.snoc {α:Type} {sz:Nat} {R:View->Value->α->Prop} {V:View} {n c:Nat} {vs:List Value} {l:List α} (h:GR sz R V n c vs l) {xs:List Value} {a:α} (hx:xs.length=sz) (ha:R V (.agg xs.toArray) a) (h0:0 < sz) {sp:List Value} {c':Nat} (h1:n + 1<=c') (h2:c' * sz<=(n + 1) * sz + sp.length) :
  GR sz R V (n + 1) c' (vs.take (n * sz)++xs++sp) (l++[a]):=by
 have hn:=h.len
 have hc:=h.cap
 have hl:n * sz<=c * sz:=Nat.mul_le_mul_right _ h.le
 refine ⟨by rw [List.length_append,hn]; rfl,h1,?_,?_⟩
 ·have ht:(vs.take (n * sz)).length=n * sz:=by rw [List.length_take]; omega
  rw [List.length_append,List.length_append,ht,hx]
  rw [Nat.succ_mul] at h2
  exact h2
 ·have:=h.row.snoc (sp:=sp) hx ha h0
  rw [← hn] at this
  exact this
end Go.Proofs.Tryz
/- By program: the conditions of the functions, from their loaded code. -/
namespace Go.Proofs.Tryz
open Go.Eng
set_option maxRecDepth 100000
end Go.Proofs.Tryz
/- Contracts: the lines of a tree (package bsp, package tree). -/
namespace Go.Proofs.Tryz
open Go.Eng Go.Big
/-- A line in canonical orientation. -/
def canL (l:L3):L3:=if l.1 < 0 \/ l.1=0/\l.2.1 < 0 then revL l else l
/-- The lines of the nodes, each before those of its parts. -/
def Tr.lns:Tr->List L3
 | .leaf _=>[]
 | .node l a b=>l :: (a.lns++b.lns)
theorem lns_len:∀t:Tr,t.lns.length=t.size
 | .leaf _=>rfl
 | .node _ a b=>by simp only [Tr.lns,List.length_cons,List.length_append,lns_len a,lns_len b,Tr.size]
theorem lns_all {p:L3->Prop}:∀{t:Tr},t.All p->∀x ∈ t.lns,p x
 | .leaf _,_,x,h=>by cases h
 | .node l a b,⟨h1,h2,h3⟩,x,h=>by
  rcases List.mem_cons.1 h with rfl | h
  ·exact h1
  ·rcases List.mem_append.1 h with h | h
   ·exact lns_all h2 x h
   ·exact lns_all h3 x h
theorem Bd.rev {l:L3} (h:Bd l):Bd (revL l):=by
 obtain ⟨h1,h2,h3⟩:=h
 unfold Bd revL
 simp only [Int.natAbs_neg]
 exact ⟨h1,h2,h3⟩
theorem Bd.can {l:L3} (h:Bd l):Bd (canL l):=by
 unfold canL; split
 ·exact h.rev
 ·exact h
theorem Bd.szl {l:L3} (h:Bd l):SzL 1000 l:=⟨h.sz.1,h.sz.2.1,h.sz.2.2⟩
theorem le_hideS {V:View} {P:Prop} {b:Nat} (h:P->V.H b):V.Le (V.shut.hideG P b):=fun x o g=>⟨fun hh=>by
 rcases hh with hh | hh
 ·exact g.1 hh
 ·rw [hh.2.1] at g; exact g.1 (h hh.1),g.2⟩
theorem Acts.monoB {f:FuncId} {args:Array Value} {V:View} {R R':Value->View->Prop} (h:Acts prog f args V R) (hR:∀r V',V.Le V'->(∀b,V.H b->V'.H b)->R r V'->R' r V'):Acts prog f args V R':=
 ⟨h.1,h.2.mono fun _ w' ⟨r,he,hx,hr⟩=>⟨r,he,hx,hR r _ (V.le_to w' hx) (fun _ hb=>hb) hr⟩⟩
end Go.Proofs.Tryz
/- Plain: the cell of a tree into which a vector at a point leads; it depends on the signs at the lines through the point alone; the samples of two systems of rays say the same; points near to a point. -/
namespace Go.Proofs.Tryz.Sec
open Go.Eng Go.Big
/-- The value of the direction v at a line. -/
def nv (l:L3) (v:V2):Rat:=(l.1:Rat) * v.1 + (l.2.1:Rat) * v.2
/-- The direction of a line. -/
def dirL (l:L3):V2:=((l.2.1:Rat),-(l.1:Rat))
theorem nv_eq (l:L3) (v:V2):nv l v=cr (dirL l) v:=by unfold nv cr dirL; grind
/-- The side on which the points near to p lie, in the direction v. -/
def sdv (l:L3) (p v:V2):Int:=if (valL l p.1 p.2).num.sign=0 then (nv l v).num.sign else (valL l p.1 p.2).num.sign
def tow:Tr->V2->V2->Bool × Bool
 | .leaf i,_,_=>(i,true)
 | .node l a b,p,v=>if sdv l p v=1 then tow a p v else if sdv l p v=-1 then tow b p v else (false,false)
/-- The lines through p on the ways to p. -/
def metL:Tr->V2->List L3
 | .leaf _,_=>[]
 | .node l a b,p=>(if valL l p.1 p.2=0 then [l] else [])++((if valL l p.1 p.2 ≥ 0 then metL a p else [])++(if valL l p.1 p.2<=0 then metL b p else []))
theorem metL_val:∀{t:Tr} {p:V2} {l:L3},l ∈ metL t p->valL l p.1 p.2=0/\l ∈ t.lns
 | .leaf _,_,_,h=>by cases h
 | .node m a b,p,l,h=>by
  unfold metL at h
  simp only [List.mem_append] at h
  rcases h with h | h | h
  ·split at h
   ·rename_i e; rcases List.mem_singleton.1 h with rfl; exact ⟨e,List.mem_cons_self ..⟩
   ·cases h
  ·split at h
   ·have:=metL_val h; exact ⟨this.1,List.mem_cons_of_mem _ (List.mem_append_left _ this.2)⟩
   ·cases h
  ·split at h
   ·have:=metL_val h; exact ⟨this.1,List.mem_cons_of_mem _ (List.mem_append_right _ this.2)⟩
   ·cases h
theorem sg_neg {q:Rat}:q.num.sign=-1↔q < 0:=by
 rw [Int.sign_eq_neg_one_iff_neg,← Int.not_le,← Rat.not_le,Rat.num_nonneg]
theorem sg_pos {q:Rat}:q.num.sign=1↔q > 0:=by
 have h:=@sg_neg (-q)
 rw [Rat.neg_num,Int.sign_neg] at h
 constructor
 ·intro e; have:=h.1 (by rw [e]); grind
 ·intro e; have:=h.2 (by grind); omega
theorem sg_zero {q:Rat}:q.num.sign=0↔q=0:=by rw [Int.sign_eq_zero_iff_zero,Rat.num_eq_zero]
/-- The points near to p lie in some cell, and in the same one for all vectors with the same signs. -/
theorem tow_same:∀{t:Tr} {p v x:V2},(∀l ∈ metL t p,nv l v≠0)->(∀l ∈ metL t p,(nv l v > 0->nv l x > 0)/\(nv l v < 0->nv l x < 0)) ->
  tow t p x=tow t p v/\(tow t p v).2=true
 | .leaf _,_,_,_,_,_=>⟨rfl,rfl⟩
 | .node l a b,p,v,x,h0,h1=>by
  have ha:valL l p.1 p.2 ≥ 0->tow a p x=tow a p v/\(tow a p v).2=true:=fun e=>by
   have sub:∀m ∈ metL a p,m ∈ metL (.node l a b) p:=fun m hm=>by
    unfold metL
    rw [if_pos e]
    exact List.mem_append_right _ (List.mem_append_left _ hm)
   exact tow_same (fun m hm=>h0 m (sub m hm)) (fun m hm=>h1 m (sub m hm))
  have hb:valL l p.1 p.2<=0->tow b p x=tow b p v/\(tow b p v).2=true:=fun e=>by
   have sub:∀m ∈ metL b p,m ∈ metL (.node l a b) p:=fun m hm=>by
    unfold metL
    rw [if_pos e]
    exact List.mem_append_right _ (List.mem_append_right _ hm)
   exact tow_same (fun m hm=>h0 m (sub m hm)) (fun m hm=>h1 m (sub m hm))
  have hl:valL l p.1 p.2=0->l ∈ metL (.node l a b) p:=fun e=>by
   unfold metL
   rw [if_pos e]
   exact List.mem_append_left _ (List.mem_singleton.2 rfl)
  have key:sdv l p x=sdv l p v/\(sdv l p v=1/\valL l p.1 p.2 ≥ 0 \/ sdv l p v=-1/\valL l p.1 p.2<=0):=by
   unfold sdv
   by_cases e:valL l p.1 p.2=0
   ·have hm:=hl e
    rw [if_pos (sg_zero.2 e),if_pos (sg_zero.2 e)]
    obtain ⟨q1,q2⟩:=h1 l hm
    have q0:=h0 l hm
    by_cases q:nv l v > 0
    ·rw [sg_pos.2 q,sg_pos.2 (q1 q)]; exact ⟨rfl,.inl ⟨rfl,by grind⟩⟩
    ·have q':nv l v < 0:=by grind
     rw [sg_neg.2 q',sg_neg.2 (q2 q')]; exact ⟨rfl,.inr ⟨rfl,by grind⟩⟩
   ·have e':¬ (valL l p.1 p.2).num.sign=0:=fun h=>e (sg_zero.1 h)
    rw [if_neg e',if_neg e']
    refine ⟨rfl,?_⟩
    by_cases q:valL l p.1 p.2 > 0
    ·exact .inl ⟨sg_pos.2 q,by grind⟩
    ·exact .inr ⟨sg_neg.2 (by grind),by grind⟩
  obtain ⟨k1,k2⟩:=key
  simp only [tow,k1]
  rcases k2 with ⟨e,g⟩ | ⟨e,g⟩
  ·rw [e,if_pos rfl,if_pos rfl]; exact ha g
  ·rw [e,if_neg (by decide),if_pos rfl,if_neg (by decide),if_pos rfl]; exact hb g
/-! the samples of two systems of rays that hold the lines through p say the same -/
/-- The rays D hold the directions of the lines M. -/
def Cov (D:List V2) (M:List L3):Prop:=∀l ∈ M,∃r ∈ D,∃c:Rat,c > 0/\r=(c * (dirL l).1,c * (dirL l).2)
theorem cov_nv {l:L3} {r:V2} {c:Rat} (c0:c > 0) (e:r=(c * (dirL l).1,c * (dirL l).2)) (v:V2):cr r v=c * nv l v:=by
 rw [nv_eq,e]; unfold cr; grind
theorem mul_sgn {c x:Rat} (c0:c > 0):(c * x > 0↔x > 0)/\(c * x < 0↔x < 0)/\(c * x=0↔x=0):=by
 have p:x > 0->c * x > 0:=fun h=>mp c0 h
 have n:x < 0->c * x < 0:=fun h=>by have:=mp c0 (show -x > 0 by grind); grind
 have z:x=0->c * x=0:=fun h=>by rw [h]; grind
 refine ⟨⟨fun h=>?_,p⟩,⟨fun h=>?_,n⟩,⟨fun h=>?_,z⟩⟩
 ·by_cases q:x > 0
  ·exact q
  ·by_cases q':x < 0
   ·have:=n q'; grind
   ·have:=z (by grind); grind
 ·by_cases q:x < 0
  ·exact q
  ·by_cases q':x > 0
   ·have:=p q'; grind
   ·have:=z (by grind); grind
 ·rcases Rat.mul_eq_zero.1 h with h | h
  ·grind
  ·exact h
theorem Cov.gen {D:List V2} {M:List L3} (h:Cov D M) {v:V2} (hv:∀r ∈ D,cr r v≠0):∀l ∈ M,nv l v≠0:=by
 intro l hl e
 obtain ⟨r,hr,c,c0,e'⟩:=h l hl
 exact hv r hr (by rw [cov_nv c0 e',e]; grind)
theorem Cov.same {D:List V2} {M:List L3} (h:Cov D M) {v x:V2} (hv:∀r ∈ D,(cr r v > 0->cr r x > 0)/\(cr r v < 0->cr r x < 0)) :
  ∀l ∈ M,(nv l v > 0->nv l x > 0)/\(nv l v < 0->nv l x < 0):=by
 intro l hl
 obtain ⟨r,hr,c,c0,e'⟩:=h l hl
 have:=hv r hr
 rw [cov_nv c0 e',cov_nv c0 e'] at this
 obtain ⟨a1,a2,_⟩:=@mul_sgn c (nv l v) c0
 obtain ⟨b1,b2,_⟩:=@mul_sgn c (nv l x) c0
 exact ⟨fun h=>b1.1 (this.1 (a1.2 h)),fun h=>b2.1 (this.2 (a2.2 h))⟩
theorem sms_nz {D S:List V2} (h:Ray D) (hS:Sms D S):∀x ∈ S,nz x:=by
 intro x hx
 have g:=sms_gen h hS x hx
 rcases hS with ⟨rfl,rfl⟩ | ⟨h0,_,_⟩
 ·rcases List.mem_singleton.1 hx with rfl; exact .inl (by decide)
 ·obtain ⟨d,hd⟩:=List.exists_mem_of_ne_nil D h0
  have:=g d hd
  unfold nz
  by_cases e:x.1=0
  ·right; intro e'; exact this (by unfold cr; rw [e,e']; grind)
  ·exact .inl e
/-- A vector that is parallel to no ray of D has a like sample of E. -/
theorem like {D E S':List V2} (hD:∀r ∈ D,nz r) (hE:Ray E) (hS':Sms E S') {t:Tr} {p x:V2} (nx:nz x) (hx:∀r ∈ D,cr r x≠0) (c1:Cov D (metL t p)) (c2:Cov E (metL t p)) :
  ∃y ∈ S',tow t p y=tow t p x/\(tow t p x).2=true:=by
 obtain ⟨z,hz⟩:=turned x nx (D++E) fun r hr=>by
  rcases List.mem_append.1 hr with h | h
  ·exact hD r h
  ·exact hE.nz r h
 have z1:∀r ∈ D,(cr r x > 0->cr r z > 0)/\(cr r x < 0->cr r z < 0):=fun r hr=>⟨(hz r (List.mem_append_left _ hr)).1,(hz r (List.mem_append_left _ hr)).2.1⟩
 have z2:∀r ∈ E,cr r z≠0:=fun r hr=>(hz r (List.mem_append_right _ hr)).2.2
 obtain ⟨y,hy,y1⟩:=sms_all hE hS' z2
 have t1:=tow_same (c1.gen hx) (c1.same z1)
 have t2:=tow_same (c2.gen z2) (c2.same y1)
 exact ⟨y,hy,t2.1.trans t1.1,t1.2⟩
/-- What the samples say: some point near to p is inside; all are. -/
def anyS (t:Tr) (p:V2) (S:List V2):Bool:=S.any fun v=>(tow t p v).1
def allS (t:Tr) (p:V2) (S:List V2):Bool:=S.all fun v=>(tow t p v).1
theorem say_eq {D S E S':List V2} (hD:Ray D) (hS:Sms D S) (hE:Ray E) (hS':Sms E S') {t:Tr} {p:V2} (c1:Cov D (metL t p)) (c2:Cov E (metL t p)) :
  anyS t p S=anyS t p S'/\allS t p S=allS t p S':=by
 have a:∀x ∈ S,∃y ∈ S',tow t p y=tow t p x:=fun x hx=>by
  obtain ⟨y,hy,e,_⟩:=like hD.nz hE hS' (sms_nz hD hS x hx) (sms_gen hD hS x hx) c1 c2
  exact ⟨y,hy,e⟩
 have b:∀x ∈ S',∃y ∈ S,tow t p y=tow t p x:=fun x hx=>by
  obtain ⟨y,hy,e,_⟩:=like hE.nz hD hS (sms_nz hE hS' x hx) (sms_gen hE hS' x hx) c2 c1
  exact ⟨y,hy,e⟩
 unfold anyS allS
 constructor
 ·rw [Bool.eq_iff_iff,List.any_eq_true,List.any_eq_true]
  constructor
  ·rintro ⟨x,hx,h⟩; obtain ⟨y,hy,e⟩:=a x hx; exact ⟨y,hy,by rw [e]; exact h⟩
  ·rintro ⟨x,hx,h⟩; obtain ⟨y,hy,e⟩:=b x hx; exact ⟨y,hy,by rw [e]; exact h⟩
 ·rw [Bool.eq_iff_iff,List.all_eq_true,List.all_eq_true]
  constructor
  ·intro h x hx; obtain ⟨y,hy,e⟩:=b x hx; rw [← e]; exact h y hy
  ·intro h x hx; obtain ⟨y,hy,e⟩:=a x hx; rw [← e]; exact h y hy
/-! a point near to p in a direction -/
theorem inv_mul {c:Rat} (h:c≠0) (a:Rat):a * c⁻¹ * c=a:=by rw [Rat.mul_assoc,Rat.inv_mul_cancel _ h,Rat.mul_one]
end Go.Proofs.Tryz.Sec
