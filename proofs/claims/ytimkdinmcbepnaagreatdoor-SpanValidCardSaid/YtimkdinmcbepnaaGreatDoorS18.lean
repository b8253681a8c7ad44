/- A part of the proof (joined by program from: VLaw6, Law6A, VLaw6C, SpanC, VLaw6D, SpanD, SetW, SentA, VSpanG, SpanG, ErrA, Law6H). -/
import Derived.Test.YtimkdinmcbepnaaGreatDoorS5
import Derived.Test.YtimkdinmcbepnaaGreatDoorS17
import Derived.Test.YtimkdinmcbepnaaGreatDoorS16
import Derived.Test.YtimkdinmcbepnaaGreatDoorS13
import Derived.WalkKit
import Derived.LaidEql
import Derived.Stop.Asserts
import Derived.RowKitTokens
set_option linter.unusedVariables false
open Go.IntKind (i64 u64 u32)
/- By program: the conditions of the functions, from their loaded code. -/
namespace Go.Proofs.Tryz
open Go.Eng
open Go.Value renaming int→I,pointer→P,slice→S,agg→A,bool→B,tuple→T
open Go.IntKind renaming i64→J,u64→U,u32→W
set_option maxRecDepth 100000
theorem vc_law06_unit (b c:Int) (V:View) (R:VR) (h:(Ca V 19 #[I J b] fun a9 b0=>∃d,∃e f g,∃i k l,a9=A #[B d,S e f g,S i k l]/\(Ca b0 28 #[A #[B d,S e f g,S i k l]] fun b1 b2=>∃m,∃n o p,∃q r s,b1=A #[B m,S n o p,S q r s]/\(Ca b2 19 #[I J c] fun b3 b4=>∃t,∃u w x,∃y z a0,b3=A #[B t,S u w x,S y z a0]/\(Ca b4 28 #[A #[B t,S u w x,S y z a0]] fun b5 b6=>∃a1,∃a2 a3 a4,∃a5 a6 a7,b5=A #[B a1,S a2 a3 a4,S a5 a6 a7]/\(∀a,b6.Le a->∀a8:Nat,(a.blk a8 (.cells #[B m,S n o p,S q r s,B a1,S a2 a3 a4,S a5 a6 a7,B false,B false] 77 (0,0)))->R (S (some ⟨a8,0,none⟩) 1 1) a)))))):
 Acts prog 67 #[I J b,I J c] V R:=
 fd (LF:=LF0) (RF:=[1000010]) [] [] func67 h
theorem vc_law06_known (V:View) (R:VR) (h:(Ca V 67 #[I J 0,I J 1] fun a5 a6=>∃e f g,a5=S e f g/\(Ca a6 67 #[I J 1,I J 2] fun a7 a8=>∃i k l,a7=S i k l/\(Ca a8 13 #[S e f g,S i k l] fun a9 b0=>∃m n o,∃a,a9=T #[S m n o,a]/\(Ca b0 67 #[I J 0,I J 1] fun b1 b2=>∃p q r,b1=S p q r/\(Ca b2 67 #[I J 1,I J 2] fun b3 b4=>∃s t u,b3=S s t u/\(Ca b4 14 #[S p q r,S s t u] fun b5 c=>∃b6 w b7,∃b,b5=T #[S b6 w b7,b]/\(IsIface a)/\(((isNilI a)=true->(IsIface b)/\(((isNilI b)=true->(Ca c 67 #[I J 0,I J 2] fun b8 b9=>∃x y z,b8=S x y z/\(Ca b9 18 #[S m n o,S x y z] fun c0 a0=>∃d,c0=B d/\((d=true->(Rt a0 R (B ((w:Int) == (0:Int)))))/\(d=false->(Rt a0 R (B false)))))))/\((isNilI b)=false->(Rt c R (B false)))))/\((isNilI a)=false->(Rt c R (B false))))))))))):
 Acts prog 17 #[] V R:=
 fd (LF:=LF0) (RF:=[1000010]) [] [] func17 h
end Go.Proofs.Tryz
/- Law 06: SpanAlgebra. -/
namespace Go.Proofs.Tryz
open Go.Eng Go.Big
/-- Any row as it grows. -/
structure GR {α:Type} (sz:Nat) (R:View->Value->α->Prop) (V:View) (n c:Nat) (vs:List Value) (l:List α):Prop where
 len:n=l.length
 le:n<=c
 cap:c * sz<=vs.length
 row:Row sz R V vs l
theorem GR.nil {α:Type} {sz:Nat} {R:View->Value->α->Prop} {V:View}:GR sz R V 0 0 [] []:=⟨rfl,Nat.le_refl _,by simp,Row.nil⟩
theorem GR.mono {α:Type} {sz:Nat} {R:View->Value->α->Prop} {V V':View} {n c:Nat} {vs:List Value} {l:List α} (h:GR sz R V n c vs l) (m:∀v a,R V v a->R V' v a):GR sz R V' n c vs l:=⟨h.len,h.le,h.cap,h.row.le m⟩
theorem GR.snoc {α:Type} {sz:Nat} {R:View->Value->α->Prop} {V:View} {n c:Nat} {vs:List Value} {l:List α} (h:GR sz R V n c vs l) {xs:List Value} {a:α} (hx:xs.length=sz) (ha:R V (.agg xs.toArray) a) (h0:0 < sz) {sp:List Value} {c':Nat} (h1:n + 1<=c') (h2:c' * sz<=(n + 1) * sz + sp.length) :
  GR sz R V (n + 1) c' (vs.take (n * sz)++xs++sp) (l++[a]):=by
 have hn:=h.len
 have hc:=h.cap
 have hl:n * sz<=c * sz:=Nat.mul_le_mul_right _ h.le
 refine ⟨by rw [List.length_append,hn]; rfl,h1,?_,?_⟩
 ·have ht:(vs.take (n * sz)).length=n * sz:=by rw [List.length_take]; omega
  rw [List.length_append,List.length_append,ht,hx]
  rw [Nat.succ_mul] at h2
  exact h2
 ·have:=h.row.snoc (sp:=sp) hx ha h0
  rw [← hn] at this
  exact this
/-- The span from a to b. -/
def spU (a b:Int):Sp:=⟨(a:Rat),(b:Rat),false,false⟩
theorem c_unit {V:View} (a b:Int) (ha:-100<=a/\a<=100) (hb:-100<=b/\b<=100) (sa:Sz 10 (a:Rat)) (sb:Sz 10 (b:Rat)):Acts prog 67 #[.int .i64 a,.int .i64 b] V fun r V'=>∃q m e,r=.slice q m e/\Lst 8 RSp V' q m [spU a b]:=by
 refine vc_law06_unit a b V _ fun V1 l1=>(c_num_Of a (by omega) (by omega)).mono ?_
 rintro r V2 l2 g1
 have g10:=g1
 obtain ⟨_,_,_,_,_,_,rfl⟩:=g1.shape
 refine ⟨_,_,_,_,_,_,_,rfl,fun V3 l3=>(c_ref01_ToQ (g10.le l3) sa (by decide)).mono ?_⟩
 rintro r V4 l4 g2
 have g20:=g2
 obtain ⟨_,_,_,_,_,_,_,rfl⟩:=g2.shape
 refine ⟨_,_,_,_,_,_,_,rfl,fun V5 l5=>(c_num_Of b (by omega) (by omega)).mono ?_⟩
 rintro r V6 l6 g3
 have g30:=g3
 obtain ⟨_,_,_,_,_,_,rfl⟩:=g3.shape
 refine ⟨_,_,_,_,_,_,_,rfl,fun V7 l7=>(c_ref01_ToQ (g30.le l7) sb (by decide)).mono ?_⟩
 rintro r V8 l8 g4
 have g40:=g4
 obtain ⟨_,_,_,_,_,_,_,rfl⟩:=g4.shape
 refine ⟨_,_,_,_,_,_,_,rfl,fun V9 l9 bk hbk=>⟨_,_,_,rfl,Lst.of_row (vs:=[.bool _,.slice _ _ _,.slice _ _ _,.bool _,.slice _ _ _,.slice _ _ _,.bool false,.bool false]) hbk (row_one rfl ?_)⟩⟩
 exact ⟨_,_,_,_,_,_,_,_,_,_,_,_,_,_,rfl,⟨(fun h=>nomatch h),fun _=>g20.le (l5.trans (l6.trans (l7.trans (l8.trans l9))))⟩,⟨(fun h=>nomatch h),fun _=>g40.le l9⟩⟩
theorem ok6_one {a b:Int} (h:(a:Rat) < (b:Rat)) (sa:Sz 10 (a:Rat)) (sb:Sz 10 (b:Rat)):Ok6 [spU a b] 2:=
 ⟨⟨fun s hs=>by rw [List.mem_singleton.1 hs]; exact ⟨⟨(fun h=>nomatch h),(fun h=>nomatch h)⟩,by rw [Sp.emp_iff]; exact .inr (.inr h)⟩,List.pairwise_singleton _ _⟩,fun s hs=>by rw [List.mem_singleton.1 hs]; exact ⟨sa.mono (by decide),sb.mono (by decide)⟩,fe_le _,by simp⟩
theorem uni_012:combL 1 [spU 0 1] [spU 1 2]=[spU 0 2]:=by
 refine reg_eq (endsL ([spU 0 1]++[spU 1 2])++[1]) (comb_reg _ _ _) (ok6_one (by decide) (sz_int (by decide) (by decide)) (sz_int (by decide) (by decide))).rg fun t ht=>?_
 simp only [List.mem_append,not_or,List.mem_singleton] at ht
 rw [comb_inB _ _ _ ht.1]
 have h1:=ht.2
 have e0:((0:Int):Rat)=0:=rfl
 have e1:((1:Int):Rat)=1:=rfl
 have e2:((2:Int):Rat)=2:=rfl
 unfold inB spU Sp.innB opB
 rw [e0,e1,e2]
 simp
 grind
theorem int_012:combL 2 [spU 0 1] [spU 1 2]=[]:=by
 refine reg_eq (endsL ([spU 0 1]++[spU 1 2])++[1]) (comb_reg _ _ _) ⟨fun s h=>(by cases h),List.Pairwise.nil⟩ fun t ht=>?_
 simp only [List.mem_append,not_or,List.mem_singleton] at ht
 rw [comb_inB _ _ _ ht.1]
 have h1:=ht.2
 have e0:((0:Int):Rat)=0:=rfl
 have e1:((1:Int):Rat)=1:=rfl
 have e2:((2:Int):Rat)=2:=rfl
 unfold inB spU Sp.innB opB
 rw [e0,e1,e2]
 simp
 grind
theorem c_known6 {V:View}:Acts prog 17 #[] V fun r V'=>r=.bool true:=by
 have s0:Sz 10 ((0:Int):Rat):=sz_int (by decide) (by decide)
 have s1:Sz 10 ((1:Int):Rat):=sz_int (by decide) (by decide)
 have s2:Sz 10 ((2:Int):Rat):=sz_int (by decide) (by decide)
 have o01:Ok6 [spU 0 1] 2:=ok6_one (by decide) s0 s1
 have o12:Ok6 [spU 1 2] 2:=ok6_one (by decide) s1 s2
 have o02:Ok6 [spU 0 2] 2:=ok6_one (by decide) s0 s2
 refine vc_law06_known V _ fun V1 l1=>(c_unit 0 1 (by decide) (by decide) s0 s1).mono ?_
 rintro r V2 l2 ⟨p1,n1,c1,rfl,g1⟩
 refine ⟨_,_,_,rfl,fun V3 l3=>(c_unit 1 2 (by decide) (by decide) s1 s2).mono ?_⟩
 rintro r V4 l4 ⟨p2,n2,c2,rfl,g2⟩
 have L3:=l3.trans l4
 refine ⟨_,_,_,rfl,fun V5 l5=>(c_span_Union (g1.le (L3.trans l5) fun _ _ g=>RSp.le g (L3.trans l5)) (g2.le l5 fun _ _ g=>RSp.le g l5) o01 o12 (by decide)).mono ?_⟩
 rintro r V6 l6 ⟨p3,n3,c3,rfl,g3⟩
 refine ⟨_,_,_,_,rfl,fun V7 l7=>(c_unit 0 1 (by decide) (by decide) s0 s1).mono ?_⟩
 rintro r V8 l8 ⟨p4,n4,c4,rfl,g4⟩
 refine ⟨_,_,_,rfl,fun V9 l9=>(c_unit 1 2 (by decide) (by decide) s1 s2).mono ?_⟩
 rintro r V10 l10 ⟨p5,n5,c5,rfl,g5⟩
 have L9:=l9.trans l10
 refine ⟨_,_,_,rfl,fun V11 l11=>(c_span_Intersect (g4.le (L9.trans l11) fun _ _ g=>RSp.le g (L9.trans l11)) (g5.le l11 fun _ _ g=>RSp.le g l11) o01 o12 (by decide)).mono ?_⟩
 rintro r V12 l12 ⟨p6,n6,c6,rfl,g6⟩
 rw [uni_012] at g3
 rw [int_012] at g6
 have n60:n6=0:=g6.len
 subst n60
 refine ⟨_,_,_,_,rfl,.inl rfl,fun _=>⟨.inl rfl,fun _ V13 l13=>(c_unit 0 2 (by decide) (by decide) s0 s2).mono ?_,(fun h=>nomatch h)⟩,(fun h=>nomatch h)⟩
 rintro r V14 l14 ⟨p7,n7,c7,rfl,g7⟩
 have L7:=l7.trans (l8.trans (l9.trans (l10.trans (l11.trans (l12.trans (l13.trans l14))))))
 refine ⟨_,_,_,rfl,fun V15 l15=>(c_SameAll (g3.le (L7.trans l15) fun _ _ g=>RSp.le g (L7.trans l15)) (g7.le l15 fun _ _ g=>RSp.le g l15) (by decide) o02.sz).mono ?_⟩
 rintro r V16 l16 rfl
 exact ⟨_,rfl,fun _ V17 l17=>rfl,(fun h=>nomatch h)⟩
end Go.Proofs.Tryz
/- By program: the conditions of the functions, from their loaded code. -/
namespace Go.Proofs.Tryz
open Go.Eng
set_option maxRecDepth 100000
end Go.Proofs.Tryz
/- Contracts: Join, Full. -/
namespace Go.Proofs.Tryz
open Go.Eng Go.Big
end Go.Proofs.Tryz
/- By program: the conditions of the functions, from their loaded code. -/
namespace Go.Proofs.Tryz
open Go.Eng
open Go.Value renaming int→I,pointer→P,slice→S,agg→A,bool→B,tuple→T
open Go.IntKind renaming i64→J,u64→U,u32→W
set_option maxRecDepth 100000
theorem vc_geo_Iv_Inside (m n:Int) (o:OA) (e f:Int) (g:OA) (i a:Bool) (b c:Int) (d:OA) (V:View) (R:VR) (h:((i=true->((a=true->(Rt V R (B true)))/\(a=false->(Ca V 129 #[A #[I J e,I J f,P g],A #[I J b,I J c,P d]] fun x y=>∃q,x=I J q/\(Rt y R (B (decide (q > (0:Int)))))))))/\(i=false->(Ca V 129 #[A #[I J m,I J n,P o],A #[I J b,I J c,P d]] fun z k=>∃l,z=I J l/\(((decide (l < (0:Int)))=true->((a=true->(Rt k R (B true)))/\(a=false->(Ca k 129 #[A #[I J e,I J f,P g],A #[I J b,I J c,P d]] fun a0 a1=>∃t,a0=I J t/\(Rt a1 R (B (decide (t > (0:Int)))))))))/\((decide (l < (0:Int)))=false->(Rt k R (B false)))))))):
 Acts prog 94 #[A #[I J m,I J n,P o,I J e,I J f,P g,B i,B a],A #[I J b,I J c,P d]] V R:=
 fd (LF:=LF0) (RF:=[1000010]) [] [] func94 h
theorem vc_span_Class (a1:OA) (a2 a3:Nat) (a4:Bool) (a5:OA) (a6 a7:Nat) (a8:OA) (a9 b0:Nat) (V:View) (R:VR) (h:(Ca V 63 #[S a1 a2 a3] fun c3 l=>∃f d m,∃n,c3=T #[S f d m,B n]/\(((!n)=true->(∃b1,(∃b2,(some ⟨1,0,none⟩:OA)=some b2/\l.at b2 (b1))/\(Rt l R (T #[I J 0,b1]))))/\((!n)=false->(Ca l 93 #[A #[B a4,S a5 a6 a7,S a8 a9 b0]] fun c4 b4=>∃g,∃i,∃k,c4=A #[I J g,I J i,P k]/\(∃(o:Int->VP) (b5:Int->Nat),(∃b6:Int,(s5 0 f d m (d:Int) (((0:Int)=b6)/\sm g/\sm i/\sm k))/\o b6 b4)/\∀(e:Int) (a:View),b4.Le a->o e a->(true=true/\(((decide (e < (d:Int)))=true->(f.isSome=true)/\(0<=e/\e < (d:Int))/\(∃p,∃q,∃r,∃s,∃t,∃u,∃w,∃x,∃b,addrAdd f (e.toNat * 8)=some b/\a.at (b.add 0) (I J p)/\a.at (b.add 1) (I J q)/\a.at (b.add 2) (P r)/\a.at (b.add 3) (I J s)/\a.at (b.add 4) (I J t)/\a.at (b.add 5) (P u)/\a.at (b.add 6) (B w)/\a.at (b.add 7) (B x)/\(Ca a 94 #[A #[I J p,I J q,P r,I J s,I J t,P u,B w,B x],A #[I J g,I J i,P k]] fun c5 b7=>∃y,c5=B y/\((y=true->(Rt b7 R (T #[I J 2,.nilIface])))/\(y=false->(Ca b7 95 #[A #[I J p,I J q,P r,I J s,I J t,P u,B w,B x],A #[I J g,I J i,P k]] fun c6 b9=>∃z,c6=B z/\((z=true->(Rt b9 R (T #[I J 1,.nilIface])))/\(z=false->(∃a0:Int,b5 a0 < b5 e/\(s5 0 f d m (d:Int) (((J.wrap (e + (1:Int)))=a0)/\sm g/\sm i/\sm k))/\o a0 b9)))))))))/\((decide (e < (d:Int)))=false->(Rt a R (T #[I J 0,.nilIface]))))))))))):
 Acts prog 32 #[S a1 a2 a3,A #[B a4,S a5 a6 a7,S a8 a9 b0]] V R:=
 fd (LF:=LF0) (RF:=[1000010]) [(6,⟨Int,false,[8,21,22],[8],fun c2=>[(23,.c (.v (I J c2)))],fun c2=>[]⟩)] [] func32 h
end Go.Proofs.Tryz
/- Contracts: where a number lies (package span). -/
namespace Go.Proofs.Tryz
open Go.Eng Go.Big
def Sp.ins (s:Sp) (t:Rat):Bool:=(s.a || decide (cmpQ s.lo t < 0)) && (s.b || decide (cmpQ s.hi t > 0))
theorem c_Iv_Inside {V:View} {v w:Value} {s:Sp} {t:Rat} (h:RIv V v s) (ht:RR V w t) {k:Nat} (hs:s.sz k) (st:Sz k t) (hk:2 * k < 1099511627776) :
  Acts prog 94 #[v,w] V fun r V'=>r=.bool (s.ins t):=by
 have ht0:=ht
 obtain ⟨x1,x2,p,y1,y2,q,rfl,h1,h2⟩:=h
 obtain ⟨t0,t1,t2,rfl⟩:=ht.shape
 refine vc_geo_Iv_Inside x1 x2 p y1 y2 q s.a s.b t0 t1 t2 V _ ⟨fun ha=>⟨fun hb V1 l1=>by simp [Sp.ins,ha,hb],fun hb V2 l2=>(c_R_Cmp (h2.le l2) (ht0.le l2) hs.2 st (by omega)).mono ?_⟩,fun ha V5 l5=>(c_R_Cmp (h1.le l5) (ht0.le l5) hs.1 st (by omega)).mono ?_⟩
 ·rintro r V3 l3 rfl
  exact ⟨_,rfl,fun V4 l4=>by simp [Sp.ins,ha,hb]⟩
 ·rintro r V6 l6 rfl
  refine ⟨_,rfl,fun hc=>⟨fun hb V7 l7=>by simp [Sp.ins,ha,hb,of_decide_eq_true hc],fun hb V8 l8=>(c_R_Cmp (h2.le (l5.trans (l6.trans l8))) (ht0.le (l5.trans (l6.trans l8))) hs.2 st (by omega)).mono ?_⟩,fun hc V11 l11=>by simp [Sp.ins,ha,of_decide_eq_false hc]⟩
  rintro r V9 l9 rfl
  exact ⟨_,rfl,fun V10 l10=>by simp [Sp.ins,ha,hb,of_decide_eq_true hc]⟩
theorem ins_cls {s:Sp} {t:Rat}:clsV (s.la t) (s.lb t)=if s.ins t then 2 else if s.has t then 1 else 0:=by
 obtain ⟨lo,hi,a,b⟩:=s
 have e1:=cmpQ_swap lo t
 have e2:=cmpQ_swap hi t
 unfold Sp.ins Sp.has Sp.la Sp.lb clsV
 rcases cmpQ_or lo t with ⟨-,h1⟩ | ⟨-,h1⟩ | ⟨-,h1⟩ <;> rcases cmpQ_or hi t with ⟨-,h2⟩ | ⟨-,h2⟩ | ⟨-,h2⟩ <;> rw [h1] at e1 <;> rw [h2] at e2 <;> cases a <;> cases b <;> simp_all <;> omega
theorem clsL_cons {s:Sp} {r:List Sp} {t:Rat}:clsL (s :: r) t=if clsV (s.la t) (s.lb t)≠0 then clsV (s.la t) (s.lb t) else clsL r t:=rfl
theorem c_span_Class_of {V:View} {p:OA} {n c:Nat} {v:Value} {A:List Sp} {x:Nat} {t:Rat} (hA:∀V1,V.Le V1->Acts prog 63 #[.slice p n c] V1 fun r V'=>∃q m e,r=.tuple #[.slice q m e,.bool true]/\Lst 8 RIv V' q m A) (oA:Ok6 A x) (h:x < 50) (sh:∃b p n c p' n' c',v=.agg #[.bool b,.slice p n c,.slice p' n' c'])
  (ht:∀V1,V.Le V1->Acts prog 93 #[v] V1 fun r V'=>RR V' r t) (st:Sz 10000 t) :
  Acts prog 32 #[.slice p n c,v] V fun r V'=>r=.tuple #[.int .i64 (clsL A t),.nilIface]:=by
 obtain ⟨_,_,_,_,_,_,_,rfl⟩:=sh
 have hn:=oA.len
 refine vc_span_Class p n c _ _ _ _ _ _ _ V _ fun V1 l1=>(hA V1 l1).mono ?_
 rintro r V2 l2 ⟨q,k,e,rfl,g⟩
 obtain rfl:=g.len
 refine ⟨_,_,_,_,rfl,(fun h=>nomatch h),fun _ V4 l4=>(ht V4 (l1.trans (l2.trans l4))).mono ?_⟩
 rintro r V5 l5 f
 have f0:=f
 obtain ⟨x5,x6,p7,rfl⟩:=f.shape
 refine ⟨_,_,_,rfl,fun z V'=>∃j:Nat,z=(j:Int)/\j<=A.length/\clsL A t=clsL (A.drop j) t,fun z=>A.length - z.toNat,⟨0,by and_intros <;> rfl,0,rfl,Nat.zero_le _,rfl⟩,?_⟩
 rintro z V6 l6 ⟨j,rfl,jle,hc⟩
 have g6:=g.le (l4.trans (l5.trans l6)) fun _ _ g=>RIv.le g (l4.trans (l5.trans l6))
 refine ⟨rfl,fun hlt=>?_,fun hlt V13 l13=>?_⟩
 ·have hlt:(j:Int) < A.length:=of_decide_eq_true hlt
  have hi:j < A.length:=by omega
  obtain ⟨ad,ha,xs,-,hv,hat⟩:=g6.at_ j hi
  have hv0:=hv
  obtain ⟨x1,x2,q1,y1,y2,q2,ex,r1,r2⟩:=hv
  have ex:=congrArg Array.toList (Value.agg.inj ex)
  dsimp only at ex
  subst ex
  have hs:=oA.sz _ (List.getElem_mem hi)
  have w:i64.wrap ((j:Int) + 1)=((j + 1:Nat):Int):=by rw [i64w (by omega)]; rfl
  rw [Int.toNat_natCast,w]
  rw [List.drop_eq_getElem_cons hi,clsL_cons,ins_cls] at hc
  refine ⟨isSome_addr ha,⟨by omega,by omega⟩,_,_,_,_,_,_,_,_,ad,ha,hat 0 _ rfl,hat 1 _ rfl,hat 2 _ rfl,hat 3 _ rfl,hat 4 _ rfl,hat 5 _ rfl,hat 6 _ rfl,hat 7 _ rfl,fun V7 l7=>(c_Iv_Inside (hv0.le l7) (f0.le (l6.trans l7)) hs st (by decide)).mono ?_⟩
  rintro r V8 l8 rfl
  refine ⟨_,rfl,fun hb V9 l9=>?_,fun hb V10 l10=>(c_Iv_Has (hv0.le (l7.trans (l8.trans l10))) (f0.le (l6.trans (l7.trans (l8.trans l10)))) hs st (by decide)).mono ?_⟩
  ·rw [hb] at hc
   rw [hc]; rfl
  ·rintro r V11 l11 rfl
   refine ⟨_,rfl,fun hd V12 l12=>?_,fun hd=>⟨((j + 1:Nat):Int),by dsimp only; omega,by and_intros <;> rfl,j + 1,rfl,hi,?_⟩⟩
   ·rw [hb,hd] at hc
    rw [hc]; rfl
   ·rw [hb,hd] at hc
    simpa using hc
 ·have hlt:¬ (j:Int) < A.length:=of_decide_eq_false hlt
  rw [List.drop_eq_nil_of_le (by omega)] at hc
  rw [hc]; rfl
end Go.Proofs.Tryz
/- Plain: lists of spans in any form; when they are a set. -/
namespace Go.Proofs.Tryz
open Go.Eng Go.Big
/-- A span of package api in any form. -/
structure SW where
 c1:Bool
 us:List Nat
 vs:List Nat
 c2:Bool
 ws:List Nat
 ts:List Nat
 na:Bool
 nb:Bool
def SW.sp (s:SW):Sp:=spW s.c1 s.us s.vs s.c2 s.ws s.ts s.na s.nb
def SW.ok (s:SW):Bool:=okW s.c1 s.us s.vs s.c2 s.ws s.ts s.na s.nb
structure SW.short (s:SW):Prop where
 u:s.us.length<=4
 v:s.vs.length<=4
 w:s.ws.length<=4
 t:s.ts.length<=4
def RSW (V:View) (v:Value) (s:SW):Prop:=RSw V v s.c1 s.us s.vs s.c2 s.ws s.ts s.na s.nb
theorem RSW.le {V V':View} {v:Value} {s:SW} (h:RSW V v s) (l:V.Le V'):RSW V' v s:=RSw.le h l
theorem sw_shape {V:View} {v:Value} {s:SW} (h:RSW V v s):∃b p n c p' n' c' d q m e q' m' e',v=.agg #[.bool b,.slice p n c,.slice p' n' c',.bool d,.slice q m e,.slice q' m' e',.bool s.na,.bool s.nb]:=by
 obtain ⟨_,_,_,_,_,_,_,_,_,_,_,_,e,-⟩:=h; exact ⟨_,_,_,_,_,_,_,_,_,_,_,_,_,_,e⟩
theorem RSW.dig {V:View} {v:Value} {s:SW} (h:RSW V v s):(Dig s.us/\Dig s.vs)/\Dig s.ws/\Dig s.ts:=by
 obtain ⟨_,_,_,_,_,_,_,_,_,_,_,_,-,⟨_,_,_,_,_,_,-,a1,a2⟩,_,_,_,_,_,_,-,a3,a4⟩:=h
 exact ⟨⟨a1.dig,a2.dig⟩,a3.dig,a4.dig⟩
theorem RSW.sz {V:View} {v:Value} {s:SW} (h:RSW V v s) (hs:s.short):s.sp.sz 10000:=by
 obtain ⟨⟨d1,d2⟩,d3,d4⟩:=h.dig
 have z:Sz 10000 (0:Rat):=szz 10000 (by decide)
 unfold SW.sp spW Sp.sz endQ
 dsimp only
 constructor
 ·split
  ·exact z
  ·exact (sz_of_len (k:=4) d1 d2 hs.u hs.v).mono (by decide)
 ·split
  ·exact z
  ·exact (sz_of_len (k:=4) d3 d4 hs.w hs.t).mono (by decide)
theorem SW.good {s:SW} (h:s.ok=true):s.sp.good:=by
 unfold SW.ok okW at h
 simp only [Bool.and_eq_true,Bool.not_eq_true'] at h
 refine ⟨⟨fun ha=>?_,fun ha=>?_⟩,h.2⟩
 ·have ha:s.na=true:=ha
  show endQ s.c1 s.us s.vs s.na=0
  rw [ha]; rfl
 ·have ha:s.nb=true:=ha
  show endQ s.c2 s.ws s.ts s.nb=0
  rw [ha]; rfl
theorem RSW.sp {V:View} {v:Value} {s:SW} (h:RSW V v s) (ho:s.ok=true):RSp V v s.sp:=by
 unfold SW.ok okW at ho
 simp only [Bool.and_eq_true,Bool.not_eq_true'] at ho
 obtain ⟨⟨y1,y2⟩,-⟩:=ho
 obtain ⟨_,_,_,_,_,_,_,_,_,_,_,_,es,e1,e2⟩:=h
 exact ⟨_,_,_,_,_,_,_,_,_,_,_,_,_,_,es,re_of e1 y1,re_of e2 y2⟩
/-- Two spans, one behind the other, that do not touch. -/
def gapB (s t:Sp):Bool:=!s.b && !t.a && decide (s.hi < t.lo)
theorem gapB_iff {s t:Sp}:gapB s t=true↔s.bef t:=by
 unfold gapB Sp.bef
 simp only [Bool.and_eq_true,Bool.not_eq_true',decide_eq_true_eq,and_assoc]
def chB (l:List Sp):Bool:=(List.range (l.length - 1)).all fun i=>gapB (l.getD i Sp.zero) (l.getD (i + 1) Sp.zero)
theorem getDz {l:List Sp} {i:Nat} (h:i < l.length):l.getD i Sp.zero=l[i]:=by rw [List.getD_eq_getElem?_getD,List.getElem?_eq_getElem h]; rfl
theorem chB_iff {l:List Sp}:chB l=true↔∀i (h:i + 1 < l.length),gapB (l[i]'(by omega)) l[i + 1]=true:=by
 unfold chB
 rw [List.all_eq_true]
 constructor
 ·intro h i hi
  have:=h i (by rw [List.mem_range]; omega)
  rwa [getDz hi,getDz (by omega)] at this
 ·intro h i hi
  rw [List.mem_range] at hi
  rw [getDz (by omega),getDz (by omega)]
  exact h i (by omega)
theorem chB_no {l:List Sp} {i:Nat} (h:i + 1 < l.length) (hg:gapB (l[i]'(by omega)) l[i + 1]=false):chB l=false:=by
 refine Bool.eq_false_iff.2 fun e=>?_
 rw [chB_iff.1 e i h] at hg
 cases hg
theorem reg_of_ch {l:List Sp} (hg:∀s ∈ l,s.good) (hc:chB l=true):reg l:=by
 refine ⟨hg,List.pairwise_iff_getElem.2 fun i j hi hj hij=>?_⟩
 have key:∀d i (h:i + d + 1 < l.length),Sp.bef (l[i]'(by omega)) (l[i + d + 1]'h):=by
  intro d
  induction d with
  | zero=>exact fun i h=>gapB_iff.1 (chB_iff.1 hc i h)
  | succ d ih=>
   intro i h
   obtain ⟨a1,a2,a3⟩:=ih i (by omega)
   obtain ⟨b1,b2,b3⟩:=gapB_iff.1 (chB_iff.1 hc (i + d + 1) h)
   have:=lo_hi (hg _ (List.getElem_mem (show i + d + 1 < l.length by omega))).2 a2 b1
   exact ⟨a1,b2,by grind⟩
 have:=key (j - i - 1) i (by omega)
 have e:i + (j - i - 1) + 1=j:=by omega
 simpa only [e] using this
/-- When a list of spans in any form is a set. -/
def setB (l:List SW):Bool:=l.all SW.ok && chB (l.map SW.sp)
theorem setB_reg {l:List SW} (h:setB l=true):reg (l.map SW.sp):=by
 unfold setB at h
 rw [Bool.and_eq_true,List.all_eq_true] at h
 refine reg_of_ch (fun s hs=>?_) h.2
 obtain ⟨x,hx,rfl⟩:=List.mem_map.1 hs
 exact SW.good (h.1 x hx)
theorem all_no {l:List SW} {j:Nat} (hi:j < l.length) (h:l[j].ok=false):l.all SW.ok=false:=
 List.all_eq_false.2 ⟨_,List.getElem_mem hi,by rw [h]; decide⟩
theorem all_ok {l:List SW} (h:∀s ∈ l,s.ok=true):l.all SW.ok=true:=List.all_eq_true.2 h
end Go.Proofs.Tryz
/- A sentinel error that is seen. -/
namespace Go.Proofs.Tryz
open Go.Eng
/-- A sentinel error: what its variable holds. -/
def Sent (V:View) (g:Nat) (y:Value):Prop:=V.at ⟨g,0,none⟩ y
theorem Sent.le {V V':View} {g:Nat} {y:Value} (h:Sent V g y) (l:V.Le V'):Sent V' g y:=l.at h
/-- A value of a sentinel's kind. -/
def SErr (y:Value):Prop:=∃a:Addr,y=.iface 336 (.pointer (some a))
end Go.Proofs.Tryz
/- By program: the conditions of the functions, from their loaded code. -/
namespace Go.Proofs.Tryz
open Go.Eng
open Go.Value renaming int→I,pointer→P,slice→S,agg→A,bool→B,tuple→T
open Go.IntKind renaming i64→J,u64→U,u32→W
set_option maxRecDepth 100000
theorem vc_ref06_ReadAll (f:OA) (d i:Nat) (V:View) (R:VR) (h:(∃(a3:(Nat × Nat × (List Value) × Int)->VP) (a7:(Nat × Nat × (List Value) × Int)->Nat),(∃k,(s8 f d i f d i (d:Int) (none:OA) (((0:Nat)=k.1)/\((0:Nat)=k.2.1)/\sm 0/\((0:Int)=k.2.2.2)/\(k.2.2.1=[])))/\a3 k V)/\∀(a:Nat × Nat × (List Value) × Int) (b:View),V.Le b->a3 a b->(true=true/\(((decide (a.2.2.2 < (d:Int)))=true->(f.isSome=true)/\(0<=a.2.2.2/\a.2.2.2 < (d:Int))/\(∃a8,∃a9 b0 b1,∃b2 b3 b4,∃b5,∃b6 b7 b8,∃b9 c0 c1,∃c2,∃c3,∃e,addrAdd f (a.2.2.2.toNat * 8)=some e/\b.at (e.add 0) (B a8)/\b.at (e.add 1) (S a9 b0 b1)/\b.at (e.add 2) (S b2 b3 b4)/\b.at (e.add 3) (B b5)/\b.at (e.add 4) (S b6 b7 b8)/\b.at (e.add 5) (S b9 c0 c1)/\b.at (e.add 6) (B c2)/\b.at (e.add 7) (B c3)/\(Ca b 41 #[A #[B a8,S a9 b0 b1,S b2 b3 b4,B b5,S b6 b7 b8,S b9 c0 c1,B c2,B c3]] fun c8 c4=>∃m,∃n o p,∃q r s,∃t,∃u w x,∃y z a0,∃a1,∃a2,∃a4,c8=T #[A #[B m,S n o p,S q r s,B t,S u w x,S y z a0,B a1,B a2],B a4]/\(((!a4)=true->(Rt c4 R (T #[S none 0 0,B false])))/\((!a4)=false->((a.1 + 1) * 120<=140737488355328/\a.1<=a.2.1/\a.2.1 * 8<=a.2.2.1.length/\([B m,S n o p,S q r s,B t,S u w x,S y z a0,B a1,B a2]:List Value).length=1 * 8/\(∀c9 ∈ ([B m,S n o p,S q r s,B t,S u w x,S y z a0,B a1,B a2]:List Value),c9.oneCell'=true)/\∀(c6:List Value) (a5:Nat),a.1 + 1<=a5->a5 * 8<=(a.1 + 1) * 8 + c6.length->(∃g:Nat × Nat × (List Value) × Int,a7 g < a7 a/\(s7 f d i f d i (d:Int) (((a.1 + 1:Nat)=g.1)/\((a5:Nat)=g.2.1)/\((J.wrap (a.2.2.2 + (1:Int)))=g.2.2.2)/\((a.2.2.1.take (a.1 * 8)++([B m,S n o p,S q r s,B t,S u w x,S y z a0,B a1,B a2]:List Value)++c6)=g.2.2.1)))/\a3 g c4)))))))/\((decide (a.2.2.2 < (d:Int)))=false->(∀a6,b.Le a6->∀c7:Nat,(a.2.2.1≠[]->a6.blk c7 (.cells a.2.2.1.toArray 45 (0,0)))->R (T #[S (mA c7 a.2.1) a.1 a.2.1,B (decide ((d:Int)<=(4096:Int)))]) a6)))))):
 Acts prog 105 #[S f d i] V R:=
 fd (LF:=LF0) (RF:=[1000010]) [(3,⟨Nat × Nat × (List Value) × Int,false,[0,9,10],[],fun l=>[(4,.c (.msl 4 l.1 l.2.1)),(11,.c (.v (I J l.2.2.2)))],fun l=>[(4,⟨.mrow l.2.2.1,45⟩)]⟩)] [] func105 h
theorem vc_ref06_ReadSet (t:OA) (u w:Nat) (V:View) (R:VR) (h:(Ca V 105 #[S t u w] fun b8 x=>∃b e f,∃y,b8=T #[S b e f,B y]/\(∃(i:(Bool × Int)->VP) (g:(Bool × Int)->Nat),(∃p,(s3 b e f ((y=p.1)/\((1:Int)=p.2)))/\i p x)/\∀(a:Bool × Int) (d:View),x.Le d->i a d->(true=true/\((a.1=true->(((decide (a.2 < (e:Int)))=true->(b.isSome=true)/\(0<=(J.wrap (a.2 - (1:Int)))/\(J.wrap (a.2 - (1:Int))) < (e:Int))/\((addrAdd b (((J.wrap (a.2 - (1:Int))).toNat) * 8)).isSome=true)/\(∃q,(∃z,addrAdd (addrAdd b (((J.wrap (a.2 - (1:Int))).toNat) * 8)) 7=some z/\d.at z (B q))/\(((!q)=true->(b.isSome=true)/\(0<=a.2/\a.2 < (e:Int))/\((addrAdd b (a.2.toNat * 8)).isSome=true)/\(∃r,(∃a0,addrAdd (addrAdd b (a.2.toNat * 8)) 6=some a0/\d.at a0 (B r))/\(((!r)=true->(b.isSome=true)/\(0<=(J.wrap (a.2 - (1:Int)))/\(J.wrap (a.2 - (1:Int))) < (e:Int))/\((addrAdd b (((J.wrap (a.2 - (1:Int))).toNat) * 8)).isSome=true)/\(∃a1,∃a2 a3 a4,∃a5 a6 a7,∃k,addrAdd (addrAdd b (((J.wrap (a.2 - (1:Int))).toNat) * 8)) 3=some k/\d.at (k.add 0) (B a1)/\d.at (k.add 1) (S a2 a3 a4)/\d.at (k.add 2) (S a5 a6 a7)/\(b.isSome=true)/\(0<=a.2/\a.2 < (e:Int))/\((addrAdd b (a.2.toNat * 8)).isSome=true)/\(∃a8,∃a9 b0 b1,∃b2 b3 b4,∃l,addrAdd (addrAdd b (a.2.toNat * 8)) 0=some l/\d.at (l.add 0) (B a8)/\d.at (l.add 1) (S a9 b0 b1)/\d.at (l.add 2) (S b2 b3 b4)/\(Ca d 22 #[A #[B a1,S a2 a3 a4,S a5 a6 a7],A #[B a8,S a9 b0 b1,S b2 b3 b4]] fun b9 c0=>∃b5,b9=I J b5/\(∃m:Bool × Int,g m < g a/\(s3 b e f (((decide (b5 < (0:Int)))=m.1)/\((J.wrap (a.2 + (1:Int)))=m.2)))/\i m c0)))))/\((!r)=false->(∃n:Bool × Int,g n < g a/\(s3 b e f ((false=n.1)/\((J.wrap (a.2 + (1:Int)))=n.2)))/\i n d)))))/\((!q)=false->(∃o:Bool × Int,g o < g a/\(s3 b e f ((false=o.1)/\((J.wrap (a.2 + (1:Int)))=o.2)))/\i o d)))))/\((decide (a.2 < (e:Int)))=false->(Rt d R (T #[S b e f,B a.1])))))/\(a.1=false->(Rt d R (T #[S b e f,B a.1])))))))):
 Acts prog 43 #[S t u w] V R:=
 fd (LF:=LF0) (RF:=[1000010]) [(3,⟨Bool × Int,false,[4],[],fun s=>[(5,.c (.v (B s.1))),(6,.c (.v (I J s.2)))],fun s=>[]⟩)] [] func43 h
theorem vc_span_ValidSpan (a:Bool) (b:OA) (c d:Nat) (e:OA) (f g:Nat) (i:Bool) (k:OA) (l m:Nat) (n:OA) (o p:Nat) (q r:Bool) (V:View) (R:VR) (h:(Ca V 104 #[A #[B a,S b c d,S e f g,B i,S k l m,S n o p,B q,B r]] fun u w=>∃x,∃y,∃z,∃a0,∃a1,∃a2,∃a3,∃a4,∃s,u=T #[A #[I J x,I J y,P z,I J a0,I J a1,P a2,B a3,B a4],B s]/\(Rt w R (B s)))):
 Acts prog 42 #[A #[B a,S b c d,S e f g,B i,S k l m,S n o p,B q,B r]] V R:=
 fd (LF:=LF0) (RF:=[1000010]) [] [] func42 h
theorem vc_span_Valid (a:OA) (b c:Nat) (V:View) (R:VR) (h:(Ca V 63 #[S a b c] fun f g=>∃i k l,∃d,f=T #[S i k l,B d]/\(Rt g R (B d)))):
 Acts prog 44 #[S a b c] V R:=
 fd (LF:=LF0) (RF:=[1000010]) [] [] func44 h
theorem vc_law06_SpanValid (b:OA) (a e:Nat) (g:Bool) (k:OA) (l m:Nat) (n:OA) (o p:Nat) (V:View) (R:VR) (h:(((decide ((a:Int) > (20:Int)))=true->(Ca V 17 #[] fun i7 i8=>∃d0,i7=B d0/\(Rt i8 R (B d0))))/\((decide ((a:Int) > (20:Int)))=false->(∀a6,V.Le a6->∀d2:Nat,(a6.blk d2 (.cells #[B g,S k l m,S n o p] 51 (0,0)))->Acts prog 40 #[I J 4,S (some ⟨d2,0,none⟩) 1 1] a6 fun i9 a7=>∃a8,i9=B a8/\∀o8:C->Value,(((!a8)=true->(Ca a7 17 #[] fun k0 k1=>∃d3,k0=B d3/\(Rt k1 R (B d3))))/\((!a8)=false->(∃(a9:Int->VP) (d5:Int->Nat),(∃d6:Int,(s8 b a e 0 b a e (a:Int) (((0:Int)=d6)/\s6 g k l m n o (sm p)))/\a9 d6 a7)/\∀(i:Int) (d:View),a7.Le d->a9 i d->(true=true/\(((decide (i < (a:Int)))=true->(b.isSome=true)/\(0<=i/\i < (a:Int))/\(∃r,∃s t u,∃w x y,∃z,∃a0 a1 a2,∃a3 a4 a5,∃b0,∃b1,∃f,addrAdd b (i.toNat * 8)=some f/\d.at (f.add 0) (B r)/\d.at (f.add 1) (S s t u)/\d.at (f.add 2) (S w x y)/\d.at (f.add 3) (B z)/\d.at (f.add 4) (S a0 a1 a2)/\d.at (f.add 5) (S a3 a4 a5)/\d.at (f.add 6) (B b0)/\d.at (f.add 7) (B b1)/\(∀b2,d.Le b2->∀d7:Nat,(b2.blk d7 (.cells #[B r,S s t u,S w x y,B z,S a0 a1 a2,S a3 a4 a5] 51 (0,0)))->Acts prog 40 #[I J 4,S (some ⟨d7,0,none⟩) 2 2] b2 fun k2 d8=>∃b3,k2=B b3/\∀o9:C->Value,(((!b3)=true->(Ca d8 17 #[] fun k3 k4=>∃d9,k3=B d9/\(Rt k4 R (B d9))))/\((!b3)=false->(Ca d8 41 #[A #[B r,S s t u,S w x y,B z,S a0 a1 a2,S a3 a4 a5,B b0,B b1]] fun k5 k6=>∃k7,∃k8 k9 l0,∃l1 l2 l3,∃l4,∃l5 l6 l7,∃l8 l9 m0,∃m1,∃m2,∃b4,k5=T #[A #[B k7,S k8 k9 l0,S l1 l2 l3,B l4,S l5 l6 l7,S l8 l9 m0,B m1,B m2],B b4]/\(Ca k6 42 #[A #[B r,S s t u,S w x y,B z,S a0 a1 a2,S a3 a4 a5,B b0,B b1]] fun m3 e1=>∃b5,m3=B b5/\(((!(b5 == b4))=true->(Rt e1 R (B false)))/\((!(b5 == b4))=false->(∃b6:Int,d5 b6 < d5 i/\(s8 b a e 0 b a e (a:Int) (((J.wrap (i + (1:Int)))=b6)/\s6 g k l m n o (sm p)))/\a9 b6 e1))))))))))/\((decide (i < (a:Int)))=false->(Ca d 43 #[S b a e] fun m4 m5=>∃e3 e4 e5,∃b7,m4=T #[S e3 e4 e5,B b7]/\(Ca m5 32 #[S b a e,A #[B g,S k l m,S n o p]] fun m6 e6=>∃b8,∃q,m6=T #[I J b8,q]/\(((!b7)=true->(Ca e6 13 #[S b a e,S none 0 0] fun m7 m8=>∃m9 n0 n1,∃e7,m7=T #[S m9 n0 n1,e7]/\(Ca m8 15 #[S b a e] fun n2 n3=>∃n4 n5 n6,∃e8,n2=T #[S n4 n5 n6,e8]/\(Ca n3 17 #[] fun n7 e9=>∃b9,n7=B b9/\((b9=true->(Ca e9 44 #[S b a e] fun n8 c0=>∃c1,n8=B c1/\(((!c1)=true->(∃f0,(∃f1,(some ⟨1,0,none⟩:OA)=some f1/\c0.at f1 (f0))/\(Ca c0 38 #[q,f0] fun n9 c2=>∃c3,n9=B c3/\((c3=true->(∃f2,(∃f3,(some ⟨1,0,none⟩:OA)=some f3/\c2.at f3 (f2))/\(Ca c2 38 #[e7,f2] fun o0 c4=>∃c5,o0=B c5/\((c5=true->(∃f4,(∃f5,(some ⟨1,0,none⟩:OA)=some f5/\c4.at f5 (f4))/\(Ca c4 38 #[e8,f4] fun o1 f6=>∃c6,o1=B c6/\((c6=true->(Rt f6 R (B (b8 == (0:Int)))))/\(c6=false->(Rt f6 R (B false)))))))/\(c5=false->(Rt c4 R (B false)))))))/\(c3=false->(Rt c2 R (B false)))))))/\((!c1)=false->(Rt c0 R (B false))))))/\(b9=false->(Rt e9 R (B false))))))))/\((!b7)=false->(Ca e6 17 #[] fun o2 g3=>∃c7,o2=B c7/\((c7=true->(Ca g3 44 #[S b a e] fun o3 c8=>∃c9,o3=B c9/\((c9=true->(IsIface q)/\(((isNilI q)=true->(Ca c8 24 #[A #[B g,S k l m,S n o p]] fun o4 o5=>∃g4,∃g5 g6 g7,∃g8 g9 i0,o4=A #[B g4,S g5 g6 g7,S g8 g9 i0]/\(Ca o5 36 #[S e3 e4 e5,A #[B g4,S g5 g6 g7,S g8 g9 i0]] fun o6 o7=>∃i1,o6=I J i1/\(Rt o7 R (B (b8 == i1))))))/\((isNilI q)=false->(Rt c8 R (B false)))))/\(c9=false->(Rt c8 R (B false))))))/\(c7=false->(Rt g3 R (B false))))))))))))))))))):
 Acts prog 8 #[S b a e,A #[B g,S k l m,S n o p]] V R:=
 fd (LF:=LF0) (RF:=[40,1000010]) [(4,⟨Int,false,[0,3,27,28],[3],fun i6=>[(29,.c (.v (I J i6)))],fun i6=>[]⟩)] [] func8 h
end Go.Proofs.Tryz
/- Contracts: spans in any form: lists of them are read; what is no set is refused (package span, and the reference). -/
namespace Go.Proofs.Tryz
open Go.Eng Go.Big
theorem c_IvsOf_raw {V:View} {p:OA} {n c:Nat} {ls:List SW} (h:Lst 8 RSW V p n ls) (hn:ls.length<=20) (hs:∀s ∈ ls,s.short) :
  Acts prog 88 #[.slice p n c] V fun r V'=>∃q m e,r=.tuple #[.slice q m e,.bool (ls.all SW.ok)]/\(ls.all SW.ok=true->Lst 8 RIv V' q m (ls.map SW.sp)):=by
 obtain rfl:=h.len
 refine vc_geo_IvsOf p _ c V _ ⟨fun h1=>absurd (of_decide_eq_true h1) (by omega),fun _=>⟨fun z V'=>∃j:Nat,z.2.2.2=(j:Int)/\j<=ls.length/\GR 8 RIv V' z.1 z.2.1 z.2.2.1 ((ls.take j).map SW.sp)/\∀s ∈ ls.take j,s.ok=true,
  fun z=>ls.length - z.2.2.2.toNat,⟨(0,0,[],0),by and_intros <;> rfl,0,rfl,Nat.zero_le _,GR.nil,fun s h=>by cases h⟩,?_⟩⟩
 rintro ⟨z1,z2,vs,z4⟩ V1 l1 ⟨j,e4,jle,hg,hok⟩
 dsimp only at e4 hg
 subst e4
 have zl:=hg.len
 rw [List.length_map,List.length_take] at zl
 refine ⟨rfl,fun hlt=>?_,fun hlt V4 l4 bk hb=>?_⟩
 ·have hlt:(j:Int) < ls.length:=of_decide_eq_true hlt
  have hi:j < ls.length:=by omega
  obtain ⟨ad,ha,xs,-,hf,hat⟩:=(h.le l1 fun _ _ g=>RSW.le g l1).at_ j hi
  have hf0:=hf
  obtain ⟨_,_,_,_,_,_,_,_,_,_,_,_,_,_,ex⟩:=sw_shape hf
  have ex:=congrArg Array.toList (Value.agg.inj ex)
  dsimp only at ex
  subst ex
  have w:i64.wrap ((j:Int) + 1)=((j + 1:Nat):Int):=by rw [i64w (by omega)]; rfl
  dsimp only
  rw [Int.toNat_natCast,w]
  have sj:=hs _ (List.getElem_mem hi)
  refine ⟨isSome_addr ha,⟨by omega,by omega⟩,_,_,_,_,_,_,_,_,_,_,_,_,_,_,_,_,ad,ha,hat 0 _ rfl,hat 1 _ rfl,hat 2 _ rfl,hat 3 _ rfl,hat 4 _ rfl,hat 5 _ rfl,hat 6 _ rfl,hat 7 _ rfl,fun V2 l2=>(c_geo_IvOf (hf0.le l2) (by have:=sj.u; omega) (by have:=sj.v; omega) (by have:=sj.w; omega) (by have:=sj.t; omega) (hf0.sz sj) (by decide)).mono ?_⟩
  rintro r V3 l3 ⟨w,rfl,g⟩
  have g0:=g
  obtain ⟨x1,x2,q,y1,y2,q',rfl,-,-⟩:=g
  refine ⟨_,_,_,_,_,_,_,_,_,rfl,fun ho V5 l5=>?_,fun ho=>⟨by omega,hg.le,hg.cap,rfl,one8,fun sp c' h1 h2=>⟨(z1 + 1,c',_,((j + 1:Nat):Int)),by dsimp only; omega,by and_intros <;> rfl,j + 1,rfl,hi,?_,fun s hm=>?_⟩⟩⟩
  ·have:ls[j].ok=false:=by rw [Bool.not_eq_true'] at ho; exact ho
   rw [all_no hi this]
   exact ⟨_,_,_,rfl,(fun h=>nomatch h)⟩
  ·dsimp only
   rw [List.take_add_one,List.getElem?_eq_getElem hi,List.map_append]
   exact (hg.mono (V':=V3) fun _ _ g=>RIv.le g (l2.trans l3)).snoc rfl g0 (by decide) h1 h2
  ·rw [List.take_add_one,List.getElem?_eq_getElem hi] at hm
   rcases List.mem_append.1 hm with hm | hm
   ·exact hok s hm
   ·rw [List.mem_singleton.1 hm]; rw [Bool.not_eq_false'] at ho; exact ho
 ·have hlt:¬ (j:Int) < ls.length:=of_decide_eq_false hlt
  obtain rfl:j=ls.length:=by omega
  rw [List.take_length] at hg hok
  obtain rfl:=hg.len
  rw [all_ok hok]
  exact ⟨_,_,_,rfl,fun _=>Lst.of_mrow hb (hg.row.le fun _ _ g=>RIv.le g l4) (by decide) hg.le⟩
theorem c_SetOf_raw {V:View} {p:OA} {n c:Nat} {ls:List SW} (h:Lst 8 RSW V p n ls) (hn:ls.length<=20) (hs:∀s ∈ ls,s.short) :
  Acts prog 63 #[.slice p n c] V fun r V'=>∃q m e,r=.tuple #[.slice q m e,.bool (setB ls)]/\(setB ls=true->Lst 8 RIv V' q m (ls.map SW.sp)):=by
 have sz:∀s ∈ ls,s.sp.sz 10000:=fun s hm=>by
  obtain ⟨i,hi,rfl⟩:=List.mem_iff_getElem.1 hm
  obtain ⟨ad,ha,xs,-,hf,hat⟩:=h.at_ i hi
  exact hf.sz (hs _ hm)
 refine vc_geo_SetOf p n c V _ fun V1 l1=>(c_IvsOf_raw (h.le l1 fun _ _ g=>RSW.le g l1) hn hs).mono ?_
 rintro r V2 l2 ⟨q,k,e,rfl,g⟩
 refine ⟨_,_,_,_,rfl,fun ho V3 l3=>?_,fun ho=>?_⟩
 ·rw [Bool.not_eq_true'] at ho
  have:setB ls=false:=by unfold setB; rw [ho]; rfl
  rw [this]
  exact ⟨_,_,_,rfl,(fun h=>nomatch h)⟩
 rw [Bool.not_eq_false'] at ho
 have g:=g ho
 have hb:setB ls=chB (ls.map SW.sp):=by unfold setB; rw [ho]; rfl
 have hlen:(ls.map SW.sp).length<=20:=by rw [List.length_map]; exact hn
 have sz:∀s ∈ ls.map SW.sp,s.sz 10000:=fun s hm=>by
  obtain ⟨x,hx,rfl⟩:=List.mem_map.1 hm
  exact sz x hx
 rw [hb]
 clear hb
 generalize ls.map SW.sp=A at *
 obtain rfl:=g.len
 have no:∀{i:Nat} (hi:i + 1 < A.length),gapB (A[i]'(by omega)) A[i + 1]=false->∀V':View,∃q m e,Value.tuple #[.slice none 0 0,.bool false]=.tuple #[.slice q m e,.bool (chB A)]/\(chB A=true->Lst 8 RIv V' q m A):=fun hi hg V'=>by
  rw [chB_no hi hg]; exact ⟨_,_,_,rfl,(fun h=>nomatch h)⟩
 refine ⟨fun z V'=>∃j:Nat,z=(j:Int)/\j<=A.length/\∀i (h:i + 1 < A.length),i + 1 < j->gapB (A[i]'(by omega)) A[i + 1]=true,fun z=>A.length - z.toNat,⟨0,by and_intros <;> rfl,0,rfl,Nat.zero_le _,fun i _ h=>by omega⟩,?_⟩
 rintro z V4 l4 ⟨j,rfl,jle,hch⟩
 refine ⟨rfl,fun hlt=>?_,fun hlt V10 l10=>?_⟩
 ·have hlt:(j:Int) < A.length:=of_decide_eq_true hlt
  have hi:j < A.length:=by omega
  have g4:=g.le l4 fun _ _ g=>RIv.le g l4
  obtain ⟨ad,ha,xs,-,⟨x1,x2,q1,y1,y2,q2,ex,r1,r2⟩,hat⟩:=g4.at_ j hi
  have ex:=congrArg Array.toList (Value.agg.inj ex)
  dsimp only at ex
  subst ex
  have w:i64.wrap ((j:Int) + 1)=((j + 1:Nat):Int):=by rw [i64w (by omega)]; rfl
  rw [Int.toNat_natCast,w]
  refine ⟨isSome_addr ha,⟨by omega,by omega⟩,_,_,_,_,_,_,_,_,ad,ha,hat 0 _ rfl,hat 1 _ rfl,hat 2 _ rfl,hat 3 _ rfl,hat 4 _ rfl,hat 5 _ rfl,hat 6 _ rfl,hat 7 _ rfl,fun h0=>?_,fun h0=>⟨((j + 1:Nat):Int),by dsimp only; omega,by and_intros <;> rfl,j + 1,rfl,hi,fun i _ hij=>?_⟩⟩
  ·have h0:(j:Int) > 0:=of_decide_eq_true h0
   obtain ⟨i,rfl⟩:∃i,j=i + 1:=⟨j - 1,by omega⟩
   have hi':i < A.length:=by omega
   have w2:i64.wrap (((i + 1:Nat):Int) - 1)=(i:Int):=by rw [i64w (by omega)]; omega
   rw [w2,Int.toNat_natCast]
   obtain ⟨ad',ha',xs,-,⟨u1,u2,p1,v1,v2,p2,ex,r1',r2'⟩,hat'⟩:=g4.at_ i hi'
   have ex:=congrArg Array.toList (Value.agg.inj ex)
   dsimp only at ex
   subst ex
   have hat7:=hat' 7 _ rfl
   have hat3:=hat' 3 _ rfl
   have hat4:=hat' 4 _ rfl
   have hat5:=hat' 5 _ rfl
   have A7:addrAdd (addrAdd q (i * 8)) 7=some (ad'.add 7):=by rw [ha']; rfl
   have A3:addrAdd (addrAdd q (i * 8)) 3=some (ad'.add 3):=by rw [ha']; rfl
   refine ⟨fun hx V5 l5=>no hi (by unfold gapB; rw [hx]; cases A[i].b <;> rfl) V5,fun hx=>⟨isSome_addr ha',⟨by omega,by omega⟩,by rw [ha']; rfl,_,⟨_,A7,hat7⟩,fun hy V5 l5=>no hi (by unfold gapB; rw [hy]; rfl) V5,fun hy=>⟨isSome_addr ha',⟨by omega,by omega⟩,by rw [ha']; rfl,v1,v2,p2,_,A3,by rw [adr_add2]; exact hat3,by rw [adr_add2]; exact hat4,by rw [adr_add2]; exact hat5,fun V7 l7=>(c_R_Cmp (r2'.le l7) (r1.le l7) (sz _ (List.getElem_mem hi')).2 (sz _ (List.getElem_mem hi)).1 (by decide)).mono ?_⟩⟩⟩
   rintro r V8 l8 rfl
   refine ⟨_,rfl,fun hc V9 l9=>no hi ?_ V9,fun hc=>⟨((i + 1 + 1:Nat):Int),by dsimp only; omega,by and_intros <;> rfl,i + 1 + 1,rfl,hi,fun i' h' hij=>?_⟩⟩
   ·have hc:=of_decide_eq_true hc
    have:¬ A[i].hi < A[i + 1].lo:=by rcases cmpQ_or A[i].hi A[i + 1].lo with ⟨h1,e⟩ | ⟨h1,e⟩ | ⟨h1,e⟩ <;> rw [e] at hc <;> grind
    unfold gapB
    rw [decide_eq_false this,Bool.and_false]
   ·by_cases e:i'=i
    ·subst e
     have hc:=of_decide_eq_false hc
     have:A[i'].hi < A[i' + 1].lo:=by rcases cmpQ_or A[i'].hi A[i' + 1].lo with ⟨h1,e⟩ | ⟨h1,e⟩ | ⟨h1,e⟩ <;> rw [e] at hc <;> grind
     unfold gapB
     rw [decide_eq_true this,hx,hy]; rfl
    ·exact hch i' h' (by omega)
  ·have h0:¬ (j:Int) > 0:=of_decide_eq_false h0
   omega
 ·have hlt:¬ (j:Int) < A.length:=of_decide_eq_false hlt
  have:chB A=true:=chB_iff.2 fun i h=>hch i h (by omega)
  rw [this]
  exact ⟨_,_,_,rfl,fun _=>g.le (l4.trans l10) fun _ _ g=>RIv.le g (l4.trans l10)⟩
theorem c_ValidSpan {V:View} {v:Value} {s:SW} (h:RSW V v s) (hs:s.short):Acts prog 42 #[v] V fun r V'=>r=.bool s.ok:=by
 have h0:=h
 obtain ⟨_,_,_,_,_,_,_,_,_,_,_,_,_,_,rfl⟩:=sw_shape h
 refine vc_span_ValidSpan _ _ _ _ _ _ _ _ _ _ _ _ _ _ _ _ V _ fun V1 l1=>(c_geo_IvOf (h0.le l1) (by have:=hs.u; omega) (by have:=hs.v; omega) (by have:=hs.w; omega) (by have:=hs.t; omega) (h0.sz hs) (by decide)).mono ?_
 rintro r V2 l2 ⟨w,rfl,g⟩
 obtain ⟨x1,x2,q,y1,y2,q',rfl,-,-⟩:=g
 exact ⟨_,_,_,_,_,_,_,_,_,rfl,fun V3 l3=>rfl⟩
theorem c_span_Valid {V:View} {p:OA} {n c:Nat} {ls:List SW} (h:Lst 8 RSW V p n ls) (hn:ls.length<=20) (hs:∀s ∈ ls,s.short):Acts prog 44 #[.slice p n c] V fun r V'=>r=.bool (setB ls):=by
 refine vc_span_Valid p n c V _ fun V1 l1=>(c_SetOf_raw (h.le l1 fun _ _ g=>RSW.le g l1) hn hs).mono ?_
 rintro r V2 l2 ⟨q,k,e,rfl,-⟩
 exact ⟨_,_,_,_,rfl,fun V3 l3=>rfl⟩
/-! what is no set is refused -/
section
variable {V:View} {p:OA} {n c:Nat} {ls:List SW} (h:Lst 8 RSW V p n ls) (hn:ls.length<=20) (hs:∀s ∈ ls,s.short) (hb:setB ls=false) {y:Value} (hy:Sent V 1 y)
include h hn hs hb hy
theorem c_span_Class_bad {v:Value} (sh:∃b p n c p' n' c',v=.agg #[.bool b,.slice p n c,.slice p' n' c']):Acts prog 32 #[.slice p n c,v] V fun r V'=>r=.tuple #[.int .i64 0,y]:=by
 obtain ⟨_,_,_,_,_,_,_,rfl⟩:=sh
 refine vc_span_Class p n c _ _ _ _ _ _ _ V _ fun V1 l1=>(c_SetOf_raw (h.le l1 fun _ _ g=>RSW.le g l1) hn hs).mono ?_
 rintro r V2 l2 ⟨q,k,e,rfl,-⟩
 rw [hb]
 exact ⟨_,_,_,_,rfl,fun _=>⟨y,⟨_,rfl,hy.le (l1.trans l2)⟩,fun V3 l3=>rfl⟩,(fun h=>nomatch h)⟩
theorem c_span_Complement_bad:Acts prog 15 #[.slice p n c] V fun r V'=>r=.tuple #[.slice none 0 0,y]:=by
 refine vc_span_Complement p n c V _ fun V1 l1=>(c_SetOf_raw (h.le l1 fun _ _ g=>RSW.le g l1) hn hs).mono ?_
 rintro r V2 l2 ⟨q,k,e,rfl,-⟩
 rw [hb]
 exact ⟨_,_,_,_,rfl,fun _=>⟨y,⟨_,rfl,hy.le (l1.trans l2)⟩,fun V3 l3=>rfl⟩,(fun h=>nomatch h)⟩
theorem c_span_Union_bad:Acts prog 13 #[.slice p n c,.slice none 0 0] V fun r V'=>r=.tuple #[.slice none 0 0,y]:=by
 refine vc_span_Union p n c _ _ _ V _ fun V1 l1=>?_
 refine (show Acts prog _ _ V1 (fun r V'=>r=.tuple #[.slice none 0 0,y]) from vc_span_two p n c _ _ _ _ V1 _ fun V2 l2=>(c_SetOf_raw (h.le (l1.trans l2) fun _ _ g=>RSW.le g (l1.trans l2)) hn hs).mono ?_).mono ?_
 ·rintro r V3 l3 ⟨q,k,e,rfl,-⟩
  refine ⟨_,_,_,_,rfl,fun V4 l4=>(c_SetOf_raw (ls:=[]) Lst.nil (by decide) (fun s h=>by cases h)).mono ?_⟩
  rintro r V5 l5 ⟨q',k',e',rfl,-⟩
  rw [hb]
  exact ⟨_,_,_,_,rfl,fun _=>⟨y,⟨_,rfl,hy.le (l1.trans (l2.trans (l3.trans (l4.trans l5))))⟩,fun V3 l3=>rfl⟩,(fun h=>nomatch h)⟩
 ·rintro r V3 l3 rfl
  exact ⟨_,_,_,_,rfl,fun V4 l4=>rfl⟩
end
/-! the reference -/
theorem one8r {b:Bool} {p:OA} {n c:Nat} {p':OA} {n' c':Nat} {d:Bool} {q:OA} {m e:Nat} {q':OA} {m' e':Nat} {x y:Bool}:∀v ∈ ([.bool b,.slice p n c,.slice p' n' c',.bool d,.slice q m e,.slice q' m' e',.bool x,.bool y]:List Value),v.oneCell'=true:=by
 intro v hm
 simp only [List.mem_cons,List.not_mem_nil,or_false] at hm
 rcases hm with rfl | rfl | rfl | rfl | rfl | rfl | rfl | rfl <;> rfl
theorem c_ref06_Read_sw {V:View} {v:Value} {s:SW} (h:RSW V v s) (hs:s.short) :
  Acts prog 41 #[v] V fun r V'=>∃w,r=.tuple #[w,.bool s.ok]/\SpSh w/\(s.ok=true->RSs V' w s.sp):=
 c_ref06_Read h (by have:=hs.u; omega) (by have:=hs.v; omega) (by have:=hs.w; omega) (by have:=hs.t; omega)
theorem c_ref06_ReadAll {V:View} {p:OA} {n c:Nat} {ls:List SW} (h:Lst 8 RSW V p n ls) (hn:ls.length<=20) (hs:∀s ∈ ls,s.short) :
  Acts prog 105 #[.slice p n c] V fun r V'=>∃q m e,r=.tuple #[.slice q m e,.bool (ls.all SW.ok)]/\(ls.all SW.ok=true->Lst 8 RSs V' q m (ls.map SW.sp)):=by
 obtain rfl:=h.len
 refine vc_ref06_ReadAll p _ c V _ ⟨fun z V'=>∃j:Nat,z.2.2.2=(j:Int)/\j<=ls.length/\GR 8 RSs V' z.1 z.2.1 z.2.2.1 ((ls.take j).map SW.sp)/\∀s ∈ ls.take j,s.ok=true,
  fun z=>ls.length - z.2.2.2.toNat,⟨(0,0,[],0),by and_intros <;> rfl,0,rfl,Nat.zero_le _,GR.nil,fun s h=>by cases h⟩,?_⟩
 rintro ⟨z1,z2,vs,z4⟩ V1 l1 ⟨j,e4,jle,hg,hok⟩
 dsimp only at e4 hg
 subst e4
 have zl:=hg.len
 rw [List.length_map,List.length_take] at zl
 refine ⟨rfl,fun hlt=>?_,fun hlt V5 l5 bk hb=>?_⟩
 ·have hlt:(j:Int) < ls.length:=of_decide_eq_true hlt
  have hi:j < ls.length:=by omega
  obtain ⟨ad,ha,xs,-,hf,hat⟩:=(h.le l1 fun _ _ g=>RSW.le g l1).at_ j hi
  have hf0:=hf
  obtain ⟨_,_,_,_,_,_,_,_,_,_,_,_,_,_,ex⟩:=sw_shape hf
  have ex:=congrArg Array.toList (Value.agg.inj ex)
  dsimp only at ex
  subst ex
  have w:i64.wrap ((j:Int) + 1)=((j + 1:Nat):Int):=by rw [i64w (by omega)]; rfl
  dsimp only
  rw [Int.toNat_natCast,w]
  refine ⟨isSome_addr ha,⟨by omega,by omega⟩,_,_,_,_,_,_,_,_,_,_,_,_,_,_,_,_,ad,ha,hat 0 _ rfl,hat 1 _ rfl,hat 2 _ rfl,hat 3 _ rfl,hat 4 _ rfl,hat 5 _ rfl,hat 6 _ rfl,hat 7 _ rfl,fun V2 l2=>(c_ref06_Read_sw (hf0.le l2) (hs _ (List.getElem_mem hi))).mono ?_⟩
  rintro r V3 l3 ⟨w,rfl,⟨_,_,_,_,_,_,_,_,_,_,_,_,_,_,_,_,rfl⟩,g⟩
  refine ⟨_,_,_,_,_,_,_,_,_,_,_,_,_,_,_,_,_,rfl,fun ho V5 l5=>?_,fun ho=>⟨by omega,hg.le,hg.cap,rfl,one8r,fun sp c' h1 h2=>⟨(z1 + 1,c',_,((j + 1:Nat):Int)),by dsimp only; omega,by and_intros <;> rfl,j + 1,rfl,hi,?_,fun s hm=>?_⟩⟩⟩
  ·rw [all_no hi (by simpa using ho)]
   exact ⟨_,_,_,rfl,(fun h=>nomatch h)⟩
  ·dsimp only
   rw [List.take_add_one,List.getElem?_eq_getElem hi,List.map_append]
   exact (hg.mono (V':=V3) fun _ _ g=>RSs.le g (l2.trans l3)).snoc rfl (g (by simpa using ho)) (by decide) h1 h2
  ·rw [List.take_add_one,List.getElem?_eq_getElem hi] at hm
   rcases List.mem_append.1 hm with hm | hm
   ·exact hok s hm
   ·rw [List.mem_singleton.1 hm]; simpa using ho
 ·have hlt:¬ (j:Int) < ls.length:=of_decide_eq_false hlt
  obtain rfl:j=ls.length:=by omega
  rw [List.take_length] at hg hok
  obtain rfl:=hg.len
  rw [all_ok hok,decide_eq_true (by omega)]
  exact ⟨_,_,_,rfl,fun _=>Lst.of_mrow hb (hg.row.le fun _ _ g=>RSs.le g l5) (by decide) hg.le⟩
theorem c_ref06_ReadSet {V:View} {p:OA} {n c:Nat} {ls:List SW} (h:Lst 8 RSW V p n ls) (hn:ls.length<=20) (hs:∀s ∈ ls,s.short) :
  Acts prog 43 #[.slice p n c] V fun r V'=>∃q m e,r=.tuple #[.slice q m e,.bool (setB ls)]/\(setB ls=true->Lst 8 RSs V' q m (ls.map SW.sp)):=by
 have sz:∀s ∈ ls,s.sp.sz 10000:=fun s hm=>by
  obtain ⟨i,hi,rfl⟩:=List.mem_iff_getElem.1 hm
  obtain ⟨ad,ha,xs,-,hf,hat⟩:=h.at_ i hi
  exact hf.sz (hs _ hm)
 refine vc_ref06_ReadSet p n c V _ fun V1 l1=>(c_ref06_ReadAll (h.le l1 fun _ _ g=>RSW.le g l1) hn hs).mono ?_
 rintro r V2 l2 ⟨q,k,e,rfl,g⟩
 by_cases ho:ls.all SW.ok=true
 rotate_left
 ·have ho:ls.all SW.ok=false:=by simpa using ho
  have hz:setB ls=false:=by unfold setB; rw [ho]; rfl
  rw [ho,hz]
  refine ⟨_,_,_,_,rfl,fun z V'=>z=(false,1),fun z=>0,⟨(false,1),by and_intros <;> rfl,rfl⟩,?_⟩
  rintro z V3 l3 rfl
  exact ⟨rfl,(fun h=>nomatch h),fun _ V4 l4=>⟨_,_,_,rfl,(fun h=>nomatch h)⟩⟩
 have g:=g ho
 have hb:setB ls=chB (ls.map SW.sp):=by unfold setB; rw [ho]; rfl
 have hlen:(ls.map SW.sp).length<=20:=by rw [List.length_map]; exact hn
 have sz:∀s ∈ ls.map SW.sp,s.sz 10000:=fun s hm=>by
  obtain ⟨x,hx,rfl⟩:=List.mem_map.1 hm
  exact sz x hx
 rw [hb,ho]
 clear hb
 generalize ls.map SW.sp=A at *
 obtain rfl:=g.len
 refine ⟨_,_,_,_,rfl,fun z V'=>∃j:Nat,z.2=((j + 1:Nat):Int)/\j<=20/\(z.1=true->∀i (h:i + 1 < A.length),i < j->gapB (A[i]'(by omega)) A[i + 1]=true)/\(z.1=false->chB A=false),fun z=>21 - z.2.toNat,⟨(true,1),by and_intros <;> rfl,0,rfl,by omega,fun _ i _ h=>by omega,(fun h=>nomatch h)⟩,?_⟩
 rintro ⟨ok,z⟩ V4 l4 ⟨j,ez,jle,h1,h2⟩
 dsimp only at ez h1 h2
 subst ez
 dsimp only
 have fin:∀{b:Bool} {V':View},V2.Le V'->b=chB A->∃q' m e',Value.tuple #[.slice q A.length e,.bool b]=.tuple #[.slice q' m e',.bool (chB A)]/\(chB A=true->Lst 8 RSs V' q' m A):=fun l hb=>by
  rw [hb]; exact ⟨_,_,_,rfl,fun _=>g.le l fun _ _ g=>RSs.le g l⟩
 refine ⟨rfl,fun hok=>⟨fun hlt=>?_,fun hlt V6 l6=>fin (l4.trans l6) ?_⟩,fun hok V7 l7=>fin (l4.trans l7) (by rw [hok,h2 hok])⟩
 ·subst hok
  have hlt:((j + 1:Nat):Int) < A.length:=of_decide_eq_true hlt
  have hi:j + 1 < A.length:=by omega
  have w:i64.wrap (((j + 1:Nat):Int) + 1)=((j + 1 + 1:Nat):Int):=by rw [i64w (by omega)]; rfl
  have w2:i64.wrap (((j + 1:Nat):Int) - 1)=(j:Int):=by rw [i64w (by omega)]; omega
  rw [w,w2,Int.toNat_natCast,Int.toNat_natCast]
  have g4:=g.le l4 fun _ _ g=>RSs.le g l4
  obtain ⟨ad,ha,xs,-,⟨b,o,s,t,o',s',t',d,u,v,w,u',v',w',ex,r1,r2⟩,hat⟩:=g4.at_ j (by omega)
  have ex:=congrArg Array.toList (Value.agg.inj ex)
  dsimp only at ex
  subst ex
  obtain ⟨ad',ha',ys,-,⟨b',o1,s1,t1,o2,s2,t2,d',u1,v1,w1,u2,v2,w2',ey,r1',r2'⟩,hat'⟩:=g4.at_ (j + 1) hi
  have ey:=congrArg Array.toList (Value.agg.inj ey)
  dsimp only at ey
  subst ey
  have hat7:=hat 7 _ rfl
  have hat3:=hat 3 _ rfl
  have hat4:=hat 4 _ rfl
  have hat5:=hat 5 _ rfl
  have hat6':=hat' 6 _ rfl
  have hat0':=hat' 0 _ rfl
  have hat1':=hat' 1 _ rfl
  have hat2':=hat' 2 _ rfl
  have A7:addrAdd (addrAdd q (j * 8)) 7=some (ad.add 7):=by rw [ha]; rfl
  have A3:addrAdd (addrAdd q (j * 8)) 3=some (ad.add 3):=by rw [ha]; rfl
  have B6:addrAdd (addrAdd q ((j + 1) * 8)) 6=some (ad'.add 6):=by rw [ha']; rfl
  have B0:addrAdd (addrAdd q ((j + 1) * 8)) 0=some (ad'.add 0):=by rw [ha']; rfl
  refine ⟨isSome_addr ha,⟨by omega,by omega⟩,by rw [ha]; rfl,_,⟨_,A7,hat7⟩,fun hy=>⟨isSome_addr ha',⟨by omega,by omega⟩,by rw [ha']; rfl,_,⟨_,B6,hat6'⟩,fun hx=>⟨isSome_addr ha,⟨by omega,by omega⟩,by rw [ha]; rfl,_,_,_,_,_,_,_,_,A3,by rw [adr_add2]; exact hat3,by rw [adr_add2]; exact hat4,by rw [adr_add2]; exact hat5,isSome_addr ha',⟨by omega,by omega⟩,by rw [ha']; rfl,_,_,_,_,_,_,_,_,B0,by rw [adr_add2]; exact hat0',by rw [adr_add2]; exact hat1',by rw [adr_add2]; exact hat2',
   fun V5 l5=>(c_num_C (r2.le l5) (r1'.le l5) (sz _ (List.getElem_mem (show j < A.length by omega))).2 (sz _ (List.getElem_mem hi)).1 (by decide)).mono ?_⟩,fun hx=>⟨(false,((j + 1 + 1:Nat):Int)),by dsimp only; omega,by and_intros <;> rfl,j + 1,rfl,by omega,(fun h=>nomatch h),fun _=>chB_no hi ?_⟩⟩,fun hy=>⟨(false,((j + 1 + 1:Nat):Int)),by dsimp only; omega,by and_intros <;> rfl,j + 1,rfl,by omega,(fun h=>nomatch h),fun _=>chB_no hi ?_⟩⟩
  ·rintro r V6 l6 rfl
   refine ⟨_,rfl,(_,((j + 1 + 1:Nat):Int)),by dsimp only; omega,by and_intros <;> rfl,j + 1,rfl,by omega,fun hc i hi' hij=>?_,fun hc=>chB_no hi ?_⟩
   ·by_cases e:i=j
    ·subst e
     have hc:=of_decide_eq_true hc
     have:A[i].hi < A[i + 1].lo:=by rcases cmpQ_or A[i].hi A[i + 1].lo with ⟨h1,e⟩ | ⟨h1,e⟩ | ⟨h1,e⟩ <;> rw [e] at hc <;> grind
     unfold gapB
     rw [decide_eq_true this,hx,hy]; rfl
    ·exact h1 rfl i hi' (by omega)
   ·have hc:=of_decide_eq_false hc
    have:¬ A[j].hi < A[j + 1].lo:=by rcases cmpQ_or A[j].hi A[j + 1].lo with ⟨h1,e⟩ | ⟨h1,e⟩ | ⟨h1,e⟩ <;> rw [e] at hc <;> grind
    unfold gapB
    rw [decide_eq_false this,Bool.and_false]
  ·unfold gapB; rw [hx,Bool.and_false,Bool.false_and]
  ·unfold gapB; rw [hy,Bool.false_and,Bool.false_and]
 ·subst hok
  have hlt:¬ ((j + 1:Nat):Int) < A.length:=of_decide_eq_false hlt
  exact (chB_iff.2 fun i h=>h1 rfl i h (by omega)).symm
end Go.Proofs.Tryz
/- errors.Is at a sentinel: the same, or nil. -/
namespace Go.Proofs.Tryz
open Go.Eng
section
open Go.RowKit Go.Extern.Stop Go.Stop Go.Extern
theorem er_typeOf (v:Value) (w:World):(Extern.ReflectliteType.typeOf #[.iface 336 v]).run prog w=.ok (.iface 225 (.agg #[.pointer (some ⟨4,336,none⟩)])) w:=by kernel_rfl
theorem er_comparable (w : World) : ((Extern.ReflectliteType.method fun t => do Extern.Rtype.noPackHeld "Comparable" t; (fun a => Value.bool a.comparable) <$> typeInfo t) #[.agg #[.pointer (some ⟨4, 336, none⟩)]]).run prog w = .ok (.bool true) w := by kernel_rfl
theorem er_comp:(prog.info? 336).map (·.comparable)=some true:=by kernel_rfl
theorem er_size:(prog.info? 360).map (·.size)=some 1:=by kernel_rfl
theorem er_methodComparable (v : Value) (w : World) : (Go.method 472 225 v "Comparable").run prog w = .ok (284, v) w := by kernel_rfl
/-- errors.Is(x, x), x a pointer to an errors.errorString. -/
theorem er_same (a:Addr) (w:World) :
  Calls prog 38 #[.iface 336 (.pointer (some a)),.iface 336 (.pointer (some a))] w fun e w'=>e=.returned (.bool true)/\w'=w:=by
 obtain ⟨i,hi,hcmp⟩:=Option.map_eq_some_iff.1 er_comp
 obtain ⟨j,hj,hjs⟩:=Option.map_eq_some_iff.1 er_size
 have h8:=@run_callFunc_extern prog 99 _ Extern.ReflectliteType.typeOf func99 (by kernel_rfl) (by kernel_rfl) (by kernel_rfl) (by kernel_rfl)
 have h32 := @run_callFunc_extern prog 284 _ (Extern.ReflectliteType.method fun t => do Extern.Rtype.noPackHeld "Comparable" t; pure (.bool (← typeInfo t).comparable)) func284 (by kernel_rfl) (by kernel_rfl) (by kernel_rfl) (by kernel_rfl)
 have tT:=er_typeOf
 have cT:=er_comparable
 have mR:=er_methodComparable
 have heq:=run_eql_iface_ptr_same (P:=prog) w a underlying30 underlying336 hi hcmp hj
 go_enter func38,ntmps38
 go_wp2
 refine wp_loop_rounds 1 ?_
 rw [rounds_succ]
 go_wp2
 go_ret
 exact ⟨rfl,rfl⟩
end
theorem acts_quiet {f:FuncId} {args:Array Value} {V:View} {v:Value} (hc:Callable prog f) (h:Calls prog f args V.w fun e w'=>e=.returned v/\w'=V.w):Acts prog f args V fun r _=>r=v:=
 ⟨hc,h.mono fun e w' ⟨h1,h2⟩=>by subst h2; exact ⟨v,h1,ExtX.refl _ _,rfl⟩⟩
theorem c_errors_Is_same {V:View} {y:Value} (h:SErr y):Acts prog 38 #[y,y] V fun r _=>r=.bool true:=by
 obtain ⟨a,rfl⟩:=h
 exact acts_quiet ⟨f38,func38,rfl,by kernel_rfl⟩ (er_same a V.w)
end Go.Proofs.Tryz
/- Law 06: SpanValid. -/
namespace Go.Proofs.Tryz
open Go.Eng Go.Big
theorem rrw_len {V:View} {b:Bool} {p n c p' n' c'} {xs ys:List Nat} (h:RRw V (.agg #[.bool b,.slice p n c,.slice p' n' c']) b xs ys):n=xs.length/\n'=ys.length:=by
 obtain ⟨_,_,_,_,_,_,el,a1,a2⟩:=h
 have el:=congrArg Array.toList (Value.agg.inj el)
 simp only [List.cons.injEq,Value.slice.injEq,true_and,and_true] at el
 obtain ⟨⟨-,rfl,-⟩,-,rfl,-⟩:=el
 exact ⟨a1.len,a2.len⟩
theorem lnsQ1 {V:View} {bk:Nat} {b1 p1 n1 c1 p2 n2 c2} {ty:TypeId} (h:V.blk bk (.cells #[.bool b1,.slice p1 n1 c1,.slice p2 n2 c2] ty (0,0))):LnsQ V (some ⟨bk,0,none⟩) 1 [(n1,n2)]:=by
 refine ⟨rfl,fun i hi=>?_⟩
 have hv:=fun i x hx=>blk_at (i:=i) (v:=x) (xs:=[Value.bool b1,.slice p1 n1 c1,.slice p2 n2 c2]) h hx
 obtain rfl:i=0:=by have:i < 1:=hi; omega
 have hj:∀j,(⟨bk,0,none⟩:Addr).add j=⟨bk,j,none⟩:=fun j=>by rw [add_zero']
 exact ⟨⟨bk,0,none⟩,_,_,_,_,_,by rfl,by rw [hj]; exact hv 0 _ rfl,by rw [hj]; exact hv 1 _ rfl,by rw [hj]; exact hv 2 _ rfl⟩
set_option maxHeartbeats 1000000 in
theorem c_SpanValid {V:View} {p:OA} {n c:Nat} {v:Value} {ls:List SW} {b:Bool} {xs ys:List Nat} (h:Lst 8 RSW V p n ls) (ht:RRw V v b xs ys) {y:Value} (hy:Sent V 1 y) (he:SErr y) :
  Acts prog 8 #[.slice p n c,v] V fun r V'=>r=.bool true:=by
 obtain rfl:=h.len
 have ht0:=ht
 obtain ⟨o,m,e,o',m',e',rfl,k1,k2⟩:=ht
 have hm:m=xs.length/\m'=ys.length:=⟨k1.len,k2.len⟩
 have dx:=k1.dig
 have dy:=k2.dig
 clear k1 k2
 have kn:∀V':View,Acts prog 17 #[] V' fun r V''=>∃b:Bool,r=.bool b/\∀V5:View,V''.Le V5->(fun (r:Value) (_:View)=>r=.bool true) (.bool b) V5:=fun V'=>c_known6.mono fun r V'' _ h=>⟨true,h,fun _ _=>rfl⟩
 refine vc_law06_SpanValid p _ c b o m e o' m' e' V _ ⟨fun h0 V1 l1=>kn V1,fun h0 V4 l4 bk hb=>(c_SmallQ 4 (lnsQ1 hb) (by simp)).mono ?_⟩
 have h0:¬ ((ls.length:Nat):Int) > 20:=of_decide_eq_false h0
 rintro r V5 l5 ⟨s1,rfl,hs1⟩
 refine ⟨_,rfl,fun J=>⟨fun _ V6 l6=>kn V6,fun hz=>?_⟩⟩
 rw [Bool.not_eq_false'] at hz
 have hs1:=hs1 hz (m,m') (by simp)
 dsimp only at hs1
 have L5:V.Le V5:=l4.trans l5
 replace h:=h.le L5 fun _ _ g=>RSW.le g L5
 replace ht0:=ht0.le L5
 replace hy:=hy.le L5
 clear L5 l4 l5 hb J
 refine ⟨fun z V'=>∃j:Nat,z=(j:Int)/\j<=ls.length/\∀s ∈ ls.take j,s.short,fun z=>ls.length - z.toNat,⟨0,by and_intros <;> rfl,0,rfl,Nat.zero_le _,fun s h=>by cases h⟩,?_⟩
 rintro z V9 l9 ⟨j,rfl,jle,hsh⟩
 refine ⟨rfl,fun hlt=>?_,fun hlt=>?_⟩
 ·have hlt:(j:Int) < ls.length:=of_decide_eq_true hlt
  have hi:j < ls.length:=by omega
  obtain ⟨ad,ha,zs,-,hf,hat⟩:=(h.le l9 fun _ _ g=>RSW.le g l9).at_ j hi
  have hf0:=hf
  obtain ⟨_,_,_,_,_,_,_,_,_,_,_,_,ex,g1,g2⟩:=hf
  have ex:=congrArg Array.toList (Value.agg.inj ex)
  dsimp only at ex
  subst ex
  have w:i64.wrap ((j:Int) + 1)=((j + 1:Nat):Int):=by rw [i64w (by omega)]; rfl
  rw [Int.toNat_natCast,w]
  refine ⟨isSome_addr ha,⟨by omega,by omega⟩,_,_,_,_,_,_,_,_,_,_,_,_,_,_,_,_,ad,ha,hat 0 _ rfl,hat 1 _ rfl,hat 2 _ rfl,hat 3 _ rfl,hat 4 _ rfl,hat 5 _ rfl,hat 6 _ rfl,hat 7 _ rfl,fun V10 l10 bk hb=>(c_SmallQ 4 (lnsQ2 hb) (by simp)).mono ?_⟩
  rintro r V11 l11 ⟨s2,rfl,hs2⟩
  refine ⟨_,rfl,fun J=>⟨fun _ V12 l12=>kn V12,fun hz2 V15 l15=>?_⟩⟩
  rw [Bool.not_eq_false'] at hz2
  have q1:=hs2 hz2 _ (List.mem_cons_self ..)
  have q2:=hs2 hz2 _ (List.mem_cons_of_mem _ (List.mem_cons_self ..))
  dsimp only at q1 q2
  have e1:=rrw_len g1
  have e2:=rrw_len g2
  have sj:ls[j].short:=⟨by omega,by omega,by omega,by omega⟩
  have L:=l10.trans (l11.trans l15)
  refine (c_ref06_Read_sw (hf0.le L) sj).mono ?_
  rintro r V16 l16 ⟨w,rfl,⟨_,_,_,_,_,_,_,_,_,_,_,_,_,_,_,_,rfl⟩,-⟩
  refine ⟨_,_,_,_,_,_,_,_,_,_,_,_,_,_,_,_,_,rfl,fun V17 l17=>(c_ValidSpan (hf0.le (L.trans (l16.trans l17))) sj).mono ?_⟩
  rintro r V18 l18 rfl
  refine ⟨_,rfl,fun hne=>by simp at hne,fun _=>⟨((j + 1:Nat):Int),by dsimp only; omega,by and_intros <;> rfl,j + 1,rfl,hi,fun s hm=>?_⟩⟩
  rw [List.take_add_one,List.getElem?_eq_getElem hi] at hm
  rcases List.mem_append.1 hm with hm | hm
  ·exact hsh s hm
  ·rw [List.mem_singleton.1 hm]; exact sj
 have hlt:¬ (j:Int) < ls.length:=of_decide_eq_false hlt
 obtain rfl:j=ls.length:=by omega
 rw [List.take_length] at hsh
 replace h:=h.le l9 fun _ _ g=>RSW.le g l9
 replace ht0:=ht0.le l9
 replace hy:=hy.le l9
 clear l9 jle hlt
 have hn:ls.length<=20:=by omega
 have sz:∀s ∈ ls.map SW.sp,s.sz 10000:=fun s hm=>by
  obtain ⟨x,hx,rfl⟩:=List.mem_map.1 hm
  obtain ⟨i,hi,rfl⟩:=List.mem_iff_getElem.1 hx
  obtain ⟨ad,ha,xs,-,hf,hat⟩:=h.at_ i hi
  exact hf.sz (hsh _ hx)
 have st:Sz 10000 (rawQ b xs ys):=(sz_of_len (k:=4) dx dy (by omega) (by omega)).mono (by decide)
 intro V20 l20
 refine (c_ref06_ReadSet (h.le l20 fun _ _ g=>RSW.le g l20) hn hsh).mono ?_
 rintro r V21 l21 ⟨pr,nr,cr,rfl,gr⟩
 refine ⟨_,_,_,_,rfl,fun V22 l22=>?_⟩
 have L22:=l20.trans (l21.trans l22)
 cases hb:setB ls with
 | false=>
  refine (c_span_Class_bad (h.le L22 fun _ _ g=>RSW.le g L22) hn hsh hb (hy.le L22) ⟨_,_,_,_,_,_,_,rfl⟩).mono ?_
  rintro r V23 l23 rfl
  refine ⟨_,_,rfl,fun _ V24 l24=>?_,(fun h=>nomatch h)⟩
  have L24:=L22.trans (l23.trans l24)
  refine (c_span_Union_bad (h.le L24 fun _ _ g=>RSW.le g L24) hn hsh hb (hy.le L24)).mono ?_
  rintro r V25 l25 rfl
  refine ⟨_,_,_,_,rfl,fun V26 l26=>?_⟩
  have L26:=L24.trans (l25.trans l26)
  refine (c_span_Complement_bad (h.le L26 fun _ _ g=>RSW.le g L26) hn hsh hb (hy.le L26)).mono ?_
  rintro r V27 l27 rfl
  refine ⟨_,_,_,_,rfl,fun V28 l28=>c_known6.mono ?_⟩
  rintro r V29 l29 rfl
  refine ⟨_,rfl,fun _ V30 l30=>?_,(fun h=>nomatch h)⟩
  have L30:=L26.trans (l27.trans (l28.trans (l29.trans l30)))
  refine (c_span_Valid (h.le L30 fun _ _ g=>RSW.le g L30) hn hsh).mono ?_
  rintro r V31 l31 rfl
  have L31:=L30.trans l31
  refine ⟨_,rfl,fun _=>⟨y,⟨_,rfl,hy.le L31⟩,fun V32 l32=>(c_errors_Is_same he).mono ?_⟩,fun h=>by rw [hb] at h; cases h⟩
  rintro r V33 l33 rfl
  have L33:=L31.trans (l32.trans l33)
  refine ⟨_,rfl,fun _=>⟨y,⟨_,rfl,hy.le L33⟩,fun V34 l34=>(c_errors_Is_same he).mono ?_⟩,(fun h=>nomatch h)⟩
  rintro r V35 l35 rfl
  have L35:=L33.trans (l34.trans l35)
  refine ⟨_,rfl,fun _=>⟨y,⟨_,rfl,hy.le L35⟩,fun V36 l36=>(c_errors_Is_same he).mono ?_⟩,(fun h=>nomatch h)⟩
  rintro r V37 l37 rfl
  exact ⟨_,rfl,fun _ V38 l38=>rfl,(fun h=>nomatch h)⟩
 | true=>
  have gr:=gr hb
  have ok:Ok6 (ls.map SW.sp) 40:=⟨setB_reg hb,sz,by have:=fe_le (ls.map SW.sp); rw [List.length_map] at this; omega,by rw [List.length_map]; omega⟩
  refine (c_span_Class_of (A:=ls.map SW.sp) (t:=rawQ b xs ys) (fun V1 l1=>(c_SetOf_raw (h.le (L22.trans l1) fun _ _ g=>RSW.le g (L22.trans l1)) hn hsh).mono ?_) ok (by decide) ⟨_,_,_,_,_,_,_,rfl⟩ (fun V1 l1=>?_) st).mono ?_
  ·rintro r V2 l2 ⟨q,k,d,rfl,g⟩
   rw [hb] at g ⊢
   exact ⟨_,_,_,rfl,g rfl⟩
  ·obtain ⟨_,_,_,_,_,_,ev,k1,k2⟩:=ht0.le (L22.trans l1)
   rw [ev]
   exact c_frac_Of' b k1 k2 (by omega) (by omega)
  rintro r V23 l23 rfl
  refine ⟨_,_,rfl,(fun h=>nomatch h),fun _ V44 l44=>c_known6.mono ?_⟩
  rintro r V45 l45 rfl
  refine ⟨_,rfl,fun _ V46 l46=>?_,(fun h=>nomatch h)⟩
  have M46:=l22.trans (l23.trans (l44.trans (l45.trans l46)))
  have L46:=l20.trans (l21.trans M46)
  refine (c_span_Valid (h.le L46 fun _ _ g=>RSW.le g L46) hn hsh).mono ?_
  rintro r V47 l47 rfl
  refine ⟨_,rfl,fun _=>⟨.inl rfl,fun _ V48 l48=>(c_ref01_Q (ht0.le (L46.trans (l47.trans l48))) (by omega) (by omega)).mono ?_,(fun h=>by simp [isNilI] at h)⟩,fun h=>by rw [hb] at h; cases h⟩
  rintro r V49 l49 f
  have f0:=f
  obtain ⟨_,_,_,_,_,_,rfl⟩:=f.shape
  have M50:=M46.trans (l47.trans (l48.trans l49))
  refine ⟨_,_,_,_,_,_,_,rfl,fun V50 l50=>(c_ref06_Class (lst_rsl (gr.le (M50.trans l50) fun _ _ g=>RSs.le g (M50.trans l50))) (f0.le l50) sz st (by decide) (by rw [List.length_map]; omega)).mono ?_⟩
  rintro r V51 l51 rfl
  exact ⟨_,rfl,fun V52 l52=>by simp⟩
end Go.Proofs.Tryz
