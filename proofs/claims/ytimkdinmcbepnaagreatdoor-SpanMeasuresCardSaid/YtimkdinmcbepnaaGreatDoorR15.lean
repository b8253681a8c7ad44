/- A part of the proof (joined by program from: CombF, SetQ, CombG, VSpanA, SpanA, SortP, SortQ, RowS, SweepP). -/
import Derived.Test.YtimkdinmcbepnaaGreatDoorR14
import Derived.Test.YtimkdinmcbepnaaGreatDoorR13
import Derived.Test.YtimkdinmcbepnaaGreatDoorR5
import Derived.Test.YtimkdinmcbepnaaGreatDoorR12
import Derived.Test.YtimkdinmcbepnaaGreatDoorR6
set_option linter.unusedVariables false
open Go.IntKind (i64 u64 u32)
/- Contract: the reference's From. By program (tools/mkcf.py). -/
namespace Go.Proofs.Tryz
open Go.Eng Go.Big
theorem rq_zero (V:View):RQ V (.agg #[.bool false,.slice none 0 0,.slice none 0 0]) 0:=by have:=RQ.zero (V:=V); simpa using this
set_option maxHeartbeats 1000000 in
theorem c_ref06_From {V:View} {p q:OA} {n c m e:Nat} {cuts:List Rat} {marks:List Bool} (hc:Lst 3 RQ V p n cuts) (hm:Lst 1 RBl V q m marks) (hlen:marks.length=cuts.length + 1) (hn:cuts.length < 100000000) :
  Acts prog 73 #[.slice p n c,.slice q m e] V fun r V'=>∃p' n' c',r=.slice p' n' c'/\Lst 8 RSs V' p' n' (fromL cuts marks):=by
 obtain rfl:=hc.len
 obtain rfl:=hm.len
 refine vc_ref06_From p _ c q _ e V _ ⟨fun z V'=>∃i:Nat,z.2.2.2=(i:Int)/\i<=marks.length/\z.1=(fromI cuts marks i).length/\z.1<=z.2.1/\z.2.1 * 8<=z.2.2.1.length/\Row 8 RSs V' z.2.2.1 (fromI cuts marks i),fun z=>marks.length - z.2.2.2.toNat,
  ⟨(0,0,[],0),by and_intros <;> rfl,0,rfl,Nat.zero_le _,rfl,Nat.le_refl _,Nat.le_refl _,Row.nil⟩,?_⟩
 rintro ⟨z1,z2,vs,z4⟩ V1 l1 ⟨i,e4,ile,e1,ic,hv,hx⟩
 dsimp only at e4 e1 ic hv hx
 subst e4
 refine ⟨rfl,fun hlt=>?_,fun hlt V5 l5 bk hb=>?_⟩
 ·have hlt:(i:Int) < marks.length:=of_decide_eq_true hlt
  have hi:i < marks.length:=by omega
  have w:i64.wrap ((i:Int) + 1)=(i:Int) + 1:=i64w (by omega)
  have hol:=fromI_len cuts marks i
  have hgd:marks.getD i false=marks[i]:=by rw [List.getD_eq_getElem?_getD,List.getElem?_eq_getElem hi]; rfl
  have hs1:marks[i]=false->fromI cuts marks (i + 1)=fromI cuts marks i:=fun h=>by
   show (if marks.getD i false=true then _ else _)=_
   rw [hgd,h]; rfl
  have hs2:marks[i]=true->fromI cuts marks (i + 1)=if 0 < i/\marks.getD (i - 1) false=true/\0 < (fromI cuts marks i).length then lastHi (fromI cuts marks i) (gapS cuts i) else fromI cuts marks i++[gapS cuts i]:=fun h=>by
   show (if marks.getD i false=true then _ else _)=_
   rw [hgd,h]; rfl
  dsimp only
  rw [Int.toNat_natCast,w]
  obtain ⟨ad,ha,hat⟩:=rb_at (hm.le l1 fun _ _ g=>g) hi
  refine ⟨isSome_addr ha,⟨by omega,by omega⟩,marks[i],⟨ad,ha,hat⟩,fun hb=>?_,fun hb=>?_⟩
  ·rw [Bool.not_eq_true'] at hb
   exact ⟨(z1,z2,vs,(i:Int) + 1),by dsimp only; omega,by and_intros <;> rfl,i + 1,rfl,hi,by dsimp only; rw [hs1 hb]; exact e1,ic,hv,by dsimp only; rw [hs1 hb]; exact hx⟩
  ·rw [Bool.not_eq_false'] at hb
   have hs2:=hs2 hb
   generalize fromI cuts marks i=out at *
   generalize hO:fromI cuts marks (i + 1)=out' at *
   refine ⟨fun z V'=>RQ V' (.agg #[.bool z.1,.slice z.2.1 z.2.2.1 z.2.2.2.1,.slice z.2.2.2.2.1 z.2.2.2.2.2.1 z.2.2.2.2.2.2.1]) ((gapS cuts i).lo)/\RQ V' (.agg #[.bool z.2.2.2.2.2.2.2.1,.slice z.2.2.2.2.2.2.2.2.1 z.2.2.2.2.2.2.2.2.2.1 z.2.2.2.2.2.2.2.2.2.2.1,.slice z.2.2.2.2.2.2.2.2.2.2.2.1 z.2.2.2.2.2.2.2.2.2.2.2.2.1 z.2.2.2.2.2.2.2.2.2.2.2.2.2.1]) (0)/\z.2.2.2.2.2.2.2.2.2.2.2.2.2.2.1=decide (i=0)/\z.2.2.2.2.2.2.2.2.2.2.2.2.2.2.2=decide (i=cuts.length),⟨fun hp=>?_,fun hp=>⟨(false,none,0,0,none,0,0,false,none,0,0,none,0,0,(i:Int) == 0,(i:Int) == (cuts.length:Int)),by and_intros <;> rfl,?_⟩⟩,?_⟩
   ·have hp:(i:Int) > 0:=of_decide_eq_true hp
    have hi1:i - 1 < cuts.length:=by omega
    have w1:i64.wrap ((i:Int) - 1)=((i - 1:Nat):Int):=by rw [i64w (by omega)]; omega
    rw [w1,Int.toNat_natCast]
    obtain ⟨ad1,b1,p3,n3,c3,p4,n4,c4,ha1,hq1,b0,b1',b2⟩:=rq_at (hc.le l1 fun _ _ g=>g.le l1) hi1
    refine ⟨isSome_addr ha1,⟨by omega,by omega⟩,_,_,_,_,_,_,_,ad1,ha1,b0,b1',b2,(b1,p3,n3,c3,p4,n4,c4,false,none,0,0,none,0,0,(i:Int) == 0,(i:Int) == (cuts.length:Int)),by and_intros <;> rfl,?_,rq_zero _,?_,?_⟩
    ·show RQ V1 _ (if 0 < i then cuts.getD (i - 1) 0 else 0)
     rw [if_pos (by omega),getD_at hi1]; exact hq1
    ·show ((i:Int) == 0)=decide (i=0)
     rw [Bool.eq_iff_iff,beq_iff_eq,decide_eq_true_eq]; omega
    ·show ((i:Int) == (cuts.length:Int))=decide (i=cuts.length)
     rw [Bool.eq_iff_iff,beq_iff_eq,decide_eq_true_eq]; omega
   ·have hp:¬ (i:Int) > 0:=of_decide_eq_false hp
    refine ⟨?_,rq_zero _,?_,?_⟩
    ·show RQ V1 _ (if 0 < i then cuts.getD (i - 1) 0 else 0)
     rw [if_neg (by omega)]; exact rq_zero _
    ·show ((i:Int) == 0)=decide (i=0)
     rw [Bool.eq_iff_iff,beq_iff_eq,decide_eq_true_eq]; omega
    ·show ((i:Int) == (cuts.length:Int))=decide (i=cuts.length)
     rw [Bool.eq_iff_iff,beq_iff_eq,decide_eq_true_eq]; omega
   ·rintro ⟨x1,x2,x3,x4,x5,x6,x7,x8,x9,x10,x11,x12,x13,x14,x15,x16⟩ V2 l2 ⟨hA,hB,hC,hD⟩
    dsimp only at hA hB hC hD
    subst hC hD
    refine ⟨rfl,fun z V'=>RQ V' (.agg #[.bool z.1,.slice z.2.1 z.2.2.1 z.2.2.2.1,.slice z.2.2.2.2.1 z.2.2.2.2.2.1 z.2.2.2.2.2.2.1]) ((gapS cuts i).lo)/\RQ V' (.agg #[.bool z.2.2.2.2.2.2.2.1,.slice z.2.2.2.2.2.2.2.2.1 z.2.2.2.2.2.2.2.2.2.1 z.2.2.2.2.2.2.2.2.2.2.1,.slice z.2.2.2.2.2.2.2.2.2.2.2.1 z.2.2.2.2.2.2.2.2.2.2.2.2.1 z.2.2.2.2.2.2.2.2.2.2.2.2.2.1]) ((gapS cuts i).hi)/\z.2.2.2.2.2.2.2.2.2.2.2.2.2.2.1=decide (i=0)/\z.2.2.2.2.2.2.2.2.2.2.2.2.2.2.2=decide (i=cuts.length),⟨fun hp=>?_,fun hp=>⟨(x1,x2,x3,x4,x5,x6,x7,x8,x9,x10,x11,x12,x13,x14,decide (i=0),decide (i=cuts.length)),by and_intros <;> rfl,hA,?_,rfl,rfl⟩⟩,?_⟩
    ·have hp:(i:Int) < cuts.length:=of_decide_eq_true hp
     have hi1:i < cuts.length:=by omega
     obtain ⟨ad1,b1,p3,n3,c3,p4,n4,c4,ha1,hq1,b0,b1',b2⟩:=rq_at (hc.le (l1.trans l2) fun _ _ g=>g.le (l1.trans l2)) hi1
     refine ⟨isSome_addr ha1,⟨by omega,by omega⟩,_,_,_,_,_,_,_,ad1,ha1,b0,b1',b2,(x1,x2,x3,x4,x5,x6,x7,b1,p3,n3,c3,p4,n4,c4,decide (i=0),decide (i=cuts.length)),by and_intros <;> rfl,hA,?_,rfl,rfl⟩
     show RQ V2 _ (if i < cuts.length then cuts.getD i 0 else 0)
     rw [if_pos hi1,getD_at hi1]; exact hq1
    ·have hp:¬ (i:Int) < cuts.length:=of_decide_eq_false hp
     show RQ V2 _ (if i < cuts.length then cuts.getD i 0 else 0)
     rw [if_neg (by omega)]; exact hB
    ·rintro ⟨y1,y2,y3,y4,y5,y6,y7,y8,y9,y10,y11,y12,y13,y14,y15,y16⟩ V3 l3 ⟨kA,kB,kC,kD⟩
     dsimp only at kA kB kC kD
     subst kC kD
     refine ⟨rfl,fun z _=>z=decide (0 < i/\marks.getD (i - 1) false=true/\0 < out.length),⟨fun hp=>?_,fun hp=>⟨false,by and_intros <;> rfl,?_⟩⟩,?_⟩
     ·have hp:(i:Int) > 0:=of_decide_eq_true hp
      have hi1:i - 1 < marks.length:=by omega
      have w1:i64.wrap ((i:Int) - 1)=((i - 1:Nat):Int):=by rw [i64w (by omega)]; omega
      have hg1:marks.getD (i - 1) false=marks[i - 1]:=by rw [List.getD_eq_getElem?_getD,List.getElem?_eq_getElem hi1]; rfl
      rw [w1,Int.toNat_natCast,hg1]
      obtain ⟨ad1,ha1,hat1⟩:=rb_at (hm.le (l1.trans (l2.trans l3)) fun _ _ g=>g) hi1
      refine ⟨isSome_addr ha1,⟨by omega,by omega⟩,marks[i - 1],⟨ad1,ha1,hat1⟩,fun hb1=>⟨_,by and_intros <;> rfl,?_⟩,fun hb1=>⟨false,by and_intros <;> rfl,?_⟩⟩
      ·dsimp only
       rw [hb1,decide_eq_decide]
       constructor
       ·intro h; exact ⟨by omega,rfl,by omega⟩
       ·rintro ⟨_,_,h⟩; omega
      ·dsimp only
       rw [hb1]; simp
     ·have hp:¬ (i:Int) > 0:=of_decide_eq_false hp
      dsimp only
      rw [decide_eq_false]
      rintro ⟨h,_⟩; omega
     ·rintro z V4 l4 rfl
      have gA:RSs V4 (.agg #[.bool y1,.slice y2 y3 y4,.slice y5 y6 y7,.bool y8,.slice y9 y10 y11,.slice y12 y13 y14,.bool (decide (i=0)),.bool (decide (i=cuts.length))]) (gapS cuts i):=⟨_,_,_,_,_,_,_,_,_,_,_,_,_,_,rfl,kA.le l4,kB.le l4⟩
      have hx4:=hx.le (V':=V4) fun _ _ g=>RSs.le g (l2.trans (l3.trans l4))
      refine ⟨rfl,fun hz=>?_,fun hz=>?_⟩
      ·have hz:=of_decide_eq_true hz
       rw [if_pos hz] at hs2
       have w1:i64.wrap ((z1:Int) - 1)=((z1 - 1:Nat):Int):=by rw [i64w (by omega)]; omega
       rw [w1,Int.toNat_natCast]
       have hz1:0 < out.length:=hz.2.2
       have hxl:=hx4.len_le (by decide)
       have hi9:out.length - 1 < out.length:=by omega
       have hgl:out.getLastD Sp.zero=out[out.length - 1]:=by
        rw [List.getLastD_eq_getLast?,List.getLast?_eq_getElem?,List.getElem?_eq_getElem hi9]; rfl
       obtain ⟨xs0,-,hl0,hc0⟩:=hx4.at_ (out.length - 1) hi9
       obtain ⟨b,s1,s2,s3,s4,s5,s6,d,t1,t2,t3,t4,t5,t6,ex,hq1,hq2⟩:=rs_cells hl0
       subst ex
       have sv:=setVals_eq (vs:=vs) (xs:=[.bool y8,.slice y9 y10 y11,.slice y12 y13 y14]) (o:=(z1 - 1) * 8 + 3) (by simp only [List.length_cons,List.length_nil]; omega)
       have svl:(setVals vs ((z1 - 1) * 8 + 3) [.bool y8,.slice y9 y10 y11,.slice y12 y13 y14]).length=vs.length:=by
        rw [sv]; simp only [List.length_append,List.length_take,List.length_drop,List.length_cons,List.length_nil]; omega
       have sg:∀r,r < (z1 - 1) * 8 + 3 \/ (z1 - 1) * 8 + 6<=r->(setVals vs ((z1 - 1) * 8 + 3) [.bool y8,.slice y9 y10 y11,.slice y12 y13 y14])[r]?=vs[r]?:=by
        intro r hr
        rw [sv,List.append_assoc]
        have ht:(vs.take ((z1 - 1) * 8 + 3)).length=(z1 - 1) * 8 + 3:=by rw [List.length_take]; omega
        rcases hr with hr | hr
        ·rw [List.getElem?_append_left (by omega),List.getElem?_take,if_pos hr]
        ·rw [List.getElem?_append_right (by omega),List.getElem?_append_right (by rw [ht]; simp only [List.length_cons,List.length_nil]; omega),List.getElem?_drop,ht]
         congr 1
         simp only [List.length_cons,List.length_nil]; omega
       have sm:∀j x,([.bool y8,.slice y9 y10 y11,.slice y12 y13 y14]:List Value)[j]?=some x->(setVals vs ((z1 - 1) * 8 + 3) [.bool y8,.slice y9 y10 y11,.slice y12 y13 y14])[(z1 - 1) * 8 + 3 + j]?=some x:=by
        intro j x hj
        have hj':=(List.getElem?_eq_some_iff.1 hj).1
        have ht:(vs.take ((z1 - 1) * 8 + 3)).length=(z1 - 1) * 8 + 3:=by rw [List.length_take]; omega
        rw [sv,List.append_assoc,List.getElem?_append_right (by omega),ht,Nat.add_sub_cancel_left,List.getElem?_append_left hj']
        exact hj
       generalize setVals vs ((z1 - 1) * 8 + 3) [.bool y8,.slice y9 y10 y11,.slice y12 y13 y14]=us at *
       refine ⟨⟨by omega,by omega⟩,ic,by omega,⟨by omega,by omega⟩,ic,by omega,(z1,z2,us.set ((z1 - 1) * 8 + 7) (.bool (decide (i=cuts.length))),(i:Int) + 1),by dsimp only; omega,by and_intros <;> rfl,i + 1,rfl,hi,?_,ic,?_,?_⟩
       ·dsimp only
        rw [hO,hs2,lastHi_len hz1]; exact e1
       ·dsimp only
        rw [List.length_set,svl]; exact hv
       ·dsimp only
        rw [hO,hs2]
        unfold lastHi
        rw [hgl]
        refine row_last hx4 hz1 (xs:=[.bool b,.slice s1 s2 s3,.slice s4 s5 s6,.bool y8,.slice y9 y10 y11,.slice y12 y13 y14,.bool out[out.length - 1].a,.bool (gapS cuts i).b]) rfl ⟨_,_,_,_,_,_,_,_,_,_,_,_,_,_,rfl,hq1,kB.le l4⟩ ?_ ?_
        ·intro r hr
         rw [List.getElem?_set_ne (by omega),sg r (by omega)]
        ·intro j x hj
         have hj':=(List.getElem?_eq_some_iff.1 hj).1
         have hj8:j < 8:=hj'
         by_cases h7:j=7
         ·subst h7
          rw [show (out.length - 1) * 8 + 7=(z1 - 1) * 8 + 7 by omega,List.getElem?_set_self (by omega)]
          exact hj
         ·rw [List.getElem?_set_ne (by omega)]
          by_cases h3:j < 3 \/ j=6
          ·rw [sg _ (by omega)]
           have hc:=hc0 j x
           have:j=0 \/ j=1 \/ j=2 \/ j=6:=by omega
           rcases this with rfl | rfl | rfl | rfl <;> exact hc hj
          ·have:j=3 \/ j=4 \/ j=5:=by omega
           rcases this with rfl | rfl | rfl
           ·have:=sm 0 x hj
            rw [show (out.length - 1) * 8 + 3=(z1 - 1) * 8 + 3 + 0 by omega]; exact this
           ·have:=sm 1 x hj
            rw [show (out.length - 1) * 8 + 4=(z1 - 1) * 8 + 3 + 1 by omega]; exact this
           ·have:=sm 2 x hj
            rw [show (out.length - 1) * 8 + 5=(z1 - 1) * 8 + 3 + 2 by omega]; exact this
      ·have hz:=of_decide_eq_false hz
       rw [if_neg hz] at hs2
       refine ⟨by omega,ic,hv,rfl,?_,fun sp c' h1 h2=>⟨(z1 + 1,c',_,(i:Int) + 1),by dsimp only; omega,by and_intros <;> rfl,i + 1,rfl,hi,?_,h1,?_,?_⟩⟩
       ·intro v hv'
        simp only [List.mem_cons,List.not_mem_nil,or_false] at hv'
        rcases hv' with rfl | rfl | rfl | rfl | rfl | rfl | rfl | rfl <;> rfl
       ·dsimp only
        rw [hO,hs2,List.length_append,e1]; rfl
       ·dsimp only
        have ht:(vs.take (z1 * 8)).length=z1 * 8:=by rw [List.length_take]; omega
        rw [List.length_append,List.length_append,ht]
        simp only [List.length_cons,List.length_nil]
        omega
       ·dsimp only
        rw [hO,hs2]
        have:=hx4.snoc (sp:=sp) rfl gA (by decide)
        rw [← e1] at this
        exact this
 ·have hlt:¬ (i:Int) < marks.length:=of_decide_eq_false hlt
  obtain rfl:i=marks.length:=by omega
  subst e1
  exact ⟨_,_,_,rfl,Lst.of_mrow hb (hx.le fun _ _ g=>RSs.le g l5) (by decide) ic⟩
end Go.Proofs.Tryz
/- Plain: the reference's Combine on sets of spans: its list is in order, and its points are told by those of the operands. -/
namespace Go.Proofs.Tryz
open Go.Eng Go.Big
set_option linter.unusedSectionVars false
theorem getD_r {a b:List Rat} {i:Nat} (h:a.length<=i):(a++b).getD i 0=b.getD (i - a.length) 0:=by
 rw [List.getD_eq_getElem?_getD,List.getElem?_append_right h,List.getD_eq_getElem?_getD]
theorem getD_l {a b:List Rat} {i:Nat} (h:i < a.length):(a++b).getD i 0=a.getD i 0:=by
 rw [List.getD_eq_getElem?_getD,List.getElem?_append_left h,List.getD_eq_getElem?_getD]
def asc (c:List Rat):Prop:=c.Pairwise (· < ·)
theorem insQ_iff {x q : Rat} : ∀ {o : List Rat}, q ∈ insQ x o ↔ q = x ∨ q ∈ o := by
  intro o
  induction o with
  | nil => simp [insQ]
  | cons y r ih =>
    unfold insQ
    split
    · rw [List.mem_cons, ih, List.mem_cons]
      constructor
      · rintro (h | h | h)
        · exact .inr (.inl h)
        · exact .inl h
        · exact .inr (.inr h)
      · rintro (h | h | h)
        · exact .inr (.inl h)
        · exact .inl h
        · exact .inr (.inr h)
    · split
      · rename_i e
        subst e
        exact ⟨.inr, fun h => by rcases h with rfl | h; · simp
                                 · exact h⟩
      · rw [List.mem_cons]
theorem insQ_asc {x:Rat}:∀{o:List Rat},asc o->asc (insQ x o):=by
 intro o
 induction o with
 | nil=>intro _; simp [insQ,asc]
 | cons y r ih=>
  intro h
  obtain ⟨h1,h2⟩:=List.pairwise_cons.1 h
  unfold insQ
  split
  ·rename_i c
   refine List.pairwise_cons.2 ⟨fun q hq=>?_,ih h2⟩
   rcases insQ_iff.1 hq with rfl | hq
   ·exact c
   ·exact h1 q hq
  ·split
   ·exact h
   ·rename_i c1 c2
    refine List.pairwise_cons.2 ⟨fun q hq=>?_,h⟩
    rcases List.mem_cons.1 hq with rfl | hq
    ·grind
    ·have:=h1 q hq; grind
def Sp.isEnd (s:Sp) (q:Rat):Prop:=(s.a=false/\q=s.lo) \/ (s.b=false/\q=s.hi)
theorem step_iff {s:Sp} {o:List Rat} {q:Rat}:q ∈ stepE s o 2↔s.isEnd q \/ q ∈ o:=by
 show q ∈ (if s.b=true then (if s.a=true then o else insQ s.lo o) else insQ s.hi (if s.a=true then o else insQ s.lo o))↔_
 unfold Sp.isEnd
 cases s.a <;> cases s.b <;> simp [insQ_iff]
 ·constructor
  ·rintro (h | h | h)
   ·exact .inl (.inr h)
   ·exact .inl (.inl h)
   ·exact .inr h
  ·rintro ((h | h) | h)
   ·exact .inr (.inl h)
   ·exact .inl h
   ·exact .inr (.inr h)
theorem step_asc {s:Sp} {o:List Rat} (h:asc o):asc (stepE s o 2):=by
 show asc (if s.b=true then (if s.a=true then o else insQ s.lo o) else insQ s.hi (if s.a=true then o else insQ s.lo o))
 cases s.a <;> cases s.b <;> simp [insQ_asc,h]
theorem ends_fold:∀(ss:List Sp) (o:List Rat),(asc o->asc (ss.foldl (fun o s=>stepE s o 2) o))/\∀q,q ∈ (ss.foldl (fun o s=>stepE s o 2) o)↔q ∈ o \/ ∃s ∈ ss,s.isEnd q:=by
 intro ss
 induction ss with
 | nil=>exact fun o=>⟨id,fun q=>by simp⟩
 | cons s r ih=>
  intro o
  refine ⟨fun h=>(ih _).1 (step_asc h),fun q=>?_⟩
  rw [List.foldl_cons,(ih _).2,step_iff]
  constructor
  ·rintro ((h | h) | ⟨t,h1,h2⟩)
   ·exact .inr ⟨s,by simp,h⟩
   ·exact .inl h
   ·exact .inr ⟨t,by simp [h1],h2⟩
  ·rintro (h | ⟨t,h1,h2⟩)
   ·exact .inl (.inr h)
   ·rcases List.mem_cons.1 h1 with rfl | h1
    ·exact .inl (.inl h2)
    ·exact .inr ⟨t,h1,h2⟩
theorem ends_asc (ss:List Sp):asc (endsL ss):=(ends_fold ss []).1 List.Pairwise.nil
theorem ends_iff {ss:List Sp} {q:Rat}:q ∈ endsL ss↔∃s ∈ ss,s.isEnd q:=by
 have:=(ends_fold ss []).2 q
 simpa [endsL] using this
section
variable {c:List Rat} (h:asc c)
include h
theorem asc_lt {i j:Nat} (hij:i < j) (hj:j < c.length):c.getD i 0 < c.getD j 0:=by
 rw [getD_at (by omega),getD_at hj]
 exact List.pairwise_iff_getElem.1 h i j (by omega) hj hij
theorem asc_le {i j:Nat} (hij:i<=j) (hj:j < c.length):c.getD i 0<=c.getD j 0:=by
 rcases Nat.lt_or_ge i j with h1 | h1
 ·have:=asc_lt h h1 hj; grind
 ·obtain rfl:i=j:=by omega
  grind
omit h
theorem gap_inn {i:Nat} {t:Rat}:(gapS c i).inn t↔(0 < i->c.getD (i - 1) 0 < t)/\(i≠c.length->i < c.length->t < c.getD i 0)/\(i≠c.length->c.length < i->t < 0):=by
 unfold gapS Sp.inn
 simp only [decide_eq_true_eq]
 constructor
 ·rintro ⟨h1,h2⟩
  refine ⟨fun h0=>?_,fun h3 h4=>?_,fun h3 h4=>?_⟩
  ·rcases h1 with h1 | h1
   ·omega
   ·rwa [if_pos h0] at h1
  ·rcases h2 with h2 | h2
   ·exact absurd h2 h3
   ·rwa [if_pos h4] at h2
  ·rcases h2 with h2 | h2
   ·exact absurd h2 h3
   ·rwa [if_neg (by omega)] at h2
 ·rintro ⟨h1,h2,h3⟩
  refine ⟨?_,?_⟩
  ·by_cases h0:i=0
   ·exact .inl h0
   ·rw [if_pos (by omega)]; exact .inr (h1 (by omega))
  ·by_cases h0:i=c.length
   ·exact .inl h0
   ·refine .inr ?_
    by_cases h4:i < c.length
    ·rw [if_pos h4]; exact h2 h0 h4
    ·rw [if_neg h4]; exact h3 h0 (by omega)
theorem gap_inn' {i:Nat} (hi:i<=c.length) {t:Rat}:(gapS c i).inn t↔(0 < i->c.getD (i - 1) 0 < t)/\(i < c.length->t < c.getD i 0):=by
 rw [gap_inn]
 exact ⟨fun ⟨h1,h2,_⟩=>⟨h1,fun h=>h2 (by omega) h⟩,fun ⟨h1,h2⟩=>⟨h1,fun _ h=>h2 h,fun _ h=>by omega⟩⟩
include h
theorem gap_good {i:Nat} (hi:i<=c.length):(gapS c i).good:=by
 refine ⟨⟨fun e=>?_,fun e=>?_⟩,Sp.emp_iff.2 ?_⟩
 ·have e:i=0:=of_decide_eq_true e
  subst e; rfl
 ·have e:i=c.length:=of_decide_eq_true e
  subst e
  exact if_neg (Nat.lt_irrefl _)
 ·by_cases h0:i=0
  ·exact .inl (decide_eq_true h0)
  ·by_cases h1:i=c.length
   ·exact .inr (.inl (decide_eq_true h1))
   ·refine .inr (.inr ?_)
    show (if 0 < i then c.getD (i - 1) 0 else 0) < (if i < c.length then c.getD i 0 else 0)
    rw [if_pos (by omega),if_pos (by omega)]
    exact asc_lt h (by omega) (by omega)
theorem gap_ex {t:Rat} (ht:t ∉ c):∃i,i<=c.length/\(gapS c i).inn t:=by
 have key:∀k,k<=c.length->(∀j,j < k->c.getD j 0 < t) \/ ∃i,i<=c.length/\(gapS c i).inn t:=by
  intro k
  induction k with
  | zero=>exact fun _=>.inl fun j hj=>absurd hj (Nat.not_lt_zero j)
  | succ k ih=>
   intro hk
   rcases ih (by omega) with g | g
   ·by_cases hlt:c.getD k 0 < t
    ·refine .inl fun j hj=>?_
     rcases Nat.lt_or_ge j k with h1 | h1
     ·exact g j h1
     ·obtain rfl:j=k:=by omega
      exact hlt
    ·refine .inr ⟨k,by omega,(gap_inn' (by omega)).2 ⟨fun h0=>g _ (by omega),fun _=>?_⟩⟩
     have hne:c.getD k 0≠t:=by
      rintro rfl
      rw [getD_at (by omega)] at ht
      exact ht (List.getElem_mem _)
     grind
   ·exact .inr g
 rcases key c.length (Nat.le_refl _) with g | g
 ·exact ⟨c.length,Nat.le_refl _,(gap_inn' (Nat.le_refl _)).2 ⟨fun h0=>g _ (by omega),fun h0=>by omega⟩⟩
 ·exact g
theorem gap_side {i:Nat} (hi:i<=c.length) {t u x:Rat} (ht:(gapS c i).inn t) (hu:(gapS c i).inn u) (hx:x ∈ c):(x < t↔x < u)/\(t < x↔u < x)/\x≠t:=by
 obtain ⟨t1,t2⟩:=(gap_inn' hi).1 ht
 obtain ⟨u1,u2⟩:=(gap_inn' hi).1 hu
 obtain ⟨j,hj,rfl⟩:=List.getElem_of_mem hx
 rw [← getD_at hj]
 rcases Nat.lt_or_ge j i with hji | hji
 ·have:=asc_le h (show j<=i - 1 by omega) (by omega)
  have:=t1 (by omega)
  have:=u1 (by omega)
  grind
 ·have:=asc_le h hji hj
  have:=t2 (by omega)
  have:=u2 (by omega)
  grind
theorem probe_in {i:Nat} (hi:i<=c.length):(gapS c i).inn ((probesL c).getD i 0):=by
 rw [gap_inn' hi]
 unfold probesL
 by_cases h0:c.length=0
 ·exact ⟨fun _=>by omega,fun _=>by omega⟩
 ·rw [if_neg h0]
  have hl:=outL_len c (show 1<=c.length by omega)
  by_cases h1:i=c.length
  ·subst h1
   rw [getD_r (by omega),hl,Nat.sub_self]
   refine ⟨fun _=>?_,fun _=>by omega⟩
   show _ < c.getD (c.length - 1) 0 + ((1:Int):Rat)
   grind
  ·rw [getD_l (by omega)]
   unfold outL
   by_cases h2:i=0
   ·subst h2
    refine ⟨fun _=>by omega,fun _=>?_⟩
    show c.getD 0 0 - ((1:Int):Rat) < _
    grind
   ·obtain ⟨m,rfl⟩:∃m,i=m + 1:=⟨i - 1,by omega⟩
    have:=asc_lt h (show m < m + 1 by omega) (by omega)
    have e2:((List.range (c.length - 1)).map fun k=>(c.getD k 0 + c.getD (k + 1) 0) * ((2:Int):Rat)⁻¹).getD m 0=(c.getD m 0 + c.getD (m + 1) 0) * ((2:Int):Rat)⁻¹:=by
     rw [List.getD_eq_getElem?_getD,List.getElem?_map,List.getElem?_range (by omega)]; rfl
    rw [List.getD_cons_succ,e2,Nat.add_sub_cancel]
    generalize c.getD m 0=x at *
    generalize c.getD (m + 1) 0=y at *
    exact ⟨fun _=>by grind,fun _=>by grind⟩
omit h
theorem probes_len:(probesL c).length=c.length + 1:=by
 unfold probesL
 by_cases h0:c.length=0
 ·rw [if_pos h0,h0]; rfl
 ·rw [if_neg h0,List.length_append,outL_len c (by omega)]; rfl
end
section
variable {c:List Rat} {ms:List Bool}
/-- What is known of the list behind the i-th gap. -/
structure FI (c:List Rat) (ms:List Bool) (i:Nat):Prop where
 r:reg (fromI c ms i)
 mem:∀t,t ∉ c->(memS (fromI c ms i) t↔∃j,j < i/\ms.getD j false=true/\(gapS c j).inn t)
 top:0 < i->i<=c.length->∀s ∈ fromI c ms i,s.b=false/\s.hi<=c.getD (i - 1) 0
 str:0 < i->i<=c.length->ms.getD (i - 1) false=false->∀s ∈ fromI c ms i,s.hi < c.getD (i - 1) 0
 last:0 < i->i<=c.length->ms.getD (i - 1) false=true->∃l0 l,fromI c ms i=l0++[l]/\l.hi=c.getD (i - 1) 0
theorem memS_snoc {ss:List Sp} {s:Sp} {t:Rat}:memS (ss++[s]) t↔memS ss t \/ s.inn t:=by
 unfold memS
 constructor
 ·rintro ⟨x,hx,hi⟩
  rcases List.mem_append.1 hx with hx | hx
  ·exact .inl ⟨x,hx,hi⟩
  ·obtain rfl:x=s:=by simpa using hx
   exact .inr hi
 ·rintro (⟨x,hx,hi⟩ | hi)
  ·exact ⟨x,by simp [hx],hi⟩
  ·exact ⟨s,by simp,hi⟩
theorem reg_snoc {ss:List Sp} {s:Sp} (h:reg ss) (hs:s.good) (hb:∀x ∈ ss,x.bef s):reg (ss++[s]):=by
 refine ⟨fun x hx=>?_,List.pairwise_append.2 ⟨h.2,by simp,fun x hx y hy=>?_⟩⟩
 ·rcases List.mem_append.1 hx with hx | hx
  ·exact h.1 x hx
  ·obtain rfl:x=s:=by simpa using hx
   exact hs
 ·obtain rfl:y=s:=by simpa using hy
  exact hb x hx
theorem reg_init {ss:List Sp} {s:Sp} (h:reg (ss++[s])):reg ss/\s.good/\∀x ∈ ss,x.bef s:=by
 obtain ⟨h1,-,h3⟩:=List.pairwise_append.1 h.2
 exact ⟨⟨fun x hx=>h.1 x (by simp [hx]),h1⟩,h.1 s (by simp),fun x hx=>h3 x hx s (by simp)⟩
theorem ex_succ {P:Nat->Prop} {i:Nat}:(∃j,j < i + 1/\P j)↔(∃j,j < i/\P j) \/ P i:=by
 constructor
 ·rintro ⟨j,hj,hp⟩
  rcases Nat.lt_or_ge j i with h | h
  ·exact .inl ⟨j,h,hp⟩
  ·obtain rfl:j=i:=by omega
   exact .inr hp
 ·rintro (⟨j,hj,hp⟩ | hp)
  ·exact ⟨j,by omega,hp⟩
  ·exact ⟨i,by omega,hp⟩
theorem fi_step (h:asc c) {i:Nat} (hi:i<=c.length) (F:FI c ms i):FI c ms (i + 1):=by
 have hg:=gap_good h hi
 have ghi:i < c.length->(gapS c i).hi=c.getD i 0:=fun h0=>if_pos h0
 have glo:0 < i->(gapS c i).lo=c.getD (i - 1) 0:=fun h0=>if_pos h0
 have ga:0 < i->(gapS c i).a=false:=fun h0=>decide_eq_false (by omega)
 have gb:i < c.length->(gapS c i).b=false:=fun h0=>decide_eq_false (by omega)
 by_cases hm:ms.getD i false=true
 ·have hne:¬ ms.getD i false=false:=by rw [hm]; decide
  by_cases h0:0 < i/\ms.getD (i - 1) false=true
  ·obtain ⟨l0,l,el,hl⟩:=F.last h0.1 hi h0.2
   have e:fromI c ms (i + 1)=l0++[⟨l.lo,(gapS c i).hi,l.a,(gapS c i).b⟩]:=by
    rw [fromI,if_pos hm,if_pos ⟨h0.1,h0.2,by rw [el]; simp⟩,el]
    simp [lastHi]
   have F1:=F.r
   rw [el] at F1
   obtain ⟨f1,f2,f3⟩:=reg_init F1
   have hlb:l.b=false:=(F.top h0.1 hi l (by rw [el]; simp)).1
   have hgood:(⟨l.lo,(gapS c i).hi,l.a,(gapS c i).b⟩:Sp).good:=by
    refine ⟨⟨f2.1.1,hg.1.2⟩,Sp.emp_iff.2 ?_⟩
    dsimp only
    cases ha:l.a with
    | true=>exact .inl rfl
    | false=>
     cases hb:(gapS c i).b with
     | true=>exact .inr (.inl rfl)
     | false=>
      have h1:=lo_hi f2.2 ha hlb
      have h2:=lo_hi hg.2 (ga h0.1) hb
      rw [glo h0.1] at h2
      exact .inr (.inr (by grind))
   refine ⟨?_,fun t ht=>?_,fun _ hi1 s hs=>?_,fun _ hi1 hx=>?_,fun _ hi1 _=>?_⟩
   ·rw [e]
    exact reg_snoc f1 hgood fun x hx=>⟨(f3 x hx).1,(f3 x hx).2.1,(f3 x hx).2.2⟩
   ·rw [e,ex_succ,← F.mem t ht,memS_snoc,el,memS_snoc,or_assoc]
    refine or_congr Iff.rfl ?_
    have hk:(gapS c i).inn t↔c.getD (i - 1) 0 < t/\((gapS c i).b=true \/ t < (gapS c i).hi):=by
     unfold Sp.inn; rw [ga h0.1,glo h0.1]; simp
    have hne':t≠c.getD (i - 1) 0:=by
     rintro rfl
     rw [getD_at (by omega)] at ht
     exact ht (List.getElem_mem _)
    rw [hk]
    show (l.a=true \/ l.lo < t)/\((gapS c i).b=true \/ t < (gapS c i).hi)↔((l.a=true \/ l.lo < t)/\(l.b=true \/ t < l.hi)) \/ _
    rw [hl,hlb]
    have h1:l.a=true \/ l.lo < c.getD (i - 1) 0:=by
     cases ha:l.a with
     | true=>exact .inl rfl
     | false=>have:=lo_hi f2.2 ha hlb; rw [hl] at this; exact .inr this
    have h2:(gapS c i).b=true \/ c.getD (i - 1) 0 < (gapS c i).hi:=by
     cases hb:(gapS c i).b with
     | true=>exact .inl rfl
     | false=>have:=lo_hi hg.2 (ga h0.1) hb; rw [glo h0.1] at this; exact .inr this
    constructor
    ·rintro ⟨g1,g2⟩
     by_cases g:t < c.getD (i - 1) 0
     ·exact .inl ⟨g1,.inr g⟩
     ·exact .inr ⟨hm,by grind,g2⟩
    ·rintro (⟨g1,g2⟩ | ⟨-,g1,g2⟩)
     ·have g3:t < c.getD (i - 1) 0:=by
       rcases g2 with g2 | g2
       ·cases g2
       ·exact g2
      exact ⟨g1,h2.imp_right fun h2=>by grind⟩
     ·exact ⟨h1.imp_right fun h1=>by grind,g2⟩
   ·rw [e] at hs
    rw [Nat.add_sub_cancel]
    rcases List.mem_append.1 hs with hs | hs
    ·have b:=f3 s hs
     refine ⟨b.1,?_⟩
     have h1:l.lo < c.getD (i - 1) 0:=by have:=lo_hi f2.2 b.2.1 hlb; rwa [hl] at this
     have h2:=asc_lt h (show i - 1 < i by omega) hi1
     have:=b.2.2
     grind
    ·obtain rfl:s=_:=by simpa using hs
     refine ⟨gb hi1,?_⟩
     show (gapS c i).hi<=_
     rw [ghi hi1]; grind
   ·rw [Nat.add_sub_cancel] at hx; exact absurd hx hne
   ·rw [Nat.add_sub_cancel]
    exact ⟨l0,_,e,ghi hi1⟩
  ·have e:fromI c ms (i + 1)=fromI c ms i++[gapS c i]:=by
    rw [fromI,if_pos hm,if_neg (fun g=>h0 ⟨g.1,g.2.1⟩)]
   have hb:∀x ∈ fromI c ms i,x.bef (gapS c i):=fun x hx=>by
    by_cases hz:0 < i
    ·have hmf:ms.getD (i - 1) false=false:=by
      cases hq:ms.getD (i - 1) false with
      | false=>rfl
      | true=>exact absurd ⟨hz,hq⟩ h0
     exact ⟨(F.top hz hi x hx).1,ga hz,by rw [glo hz]; exact F.str hz hi hmf x hx⟩
    ·obtain rfl:i=0:=by omega
     cases hx
   refine ⟨?_,fun t ht=>?_,fun _ hi1 s hs=>?_,fun _ hi1 hx=>?_,fun _ hi1 _=>?_⟩
   ·rw [e]; exact reg_snoc F.r hg hb
   ·rw [e,ex_succ,← F.mem t ht,memS_snoc]
    exact or_congr Iff.rfl ⟨fun g=>⟨hm,g⟩,fun g=>g.2⟩
   ·rw [e] at hs
    rw [Nat.add_sub_cancel]
    rcases List.mem_append.1 hs with hs | hs
    ·refine ⟨(hb s hs).1,?_⟩
     by_cases hz:0 < i
     ·have h1:=(F.top hz hi s hs).2
      have h2:=asc_lt h (show i - 1 < i by omega) hi1
      grind
     ·obtain rfl:i=0:=by omega
      cases hs
    ·obtain rfl:s=_:=by simpa using hs
     refine ⟨gb hi1,?_⟩
     rw [ghi hi1]; grind
   ·rw [Nat.add_sub_cancel] at hx; exact absurd hx hne
   ·rw [Nat.add_sub_cancel]
    exact ⟨_,_,e,ghi hi1⟩
 ·have e:fromI c ms (i + 1)=fromI c ms i:=by rw [fromI,if_neg hm]
  have hlt:i < c.length->∀s ∈ fromI c ms i,s.b=false/\s.hi < c.getD i 0:=fun hi1 s hs=>by
   by_cases hz:0 < i
   ·obtain ⟨h1,h2⟩:=F.top hz hi s hs
    have h3:=asc_lt h (show i - 1 < i by omega) hi1
    exact ⟨h1,by grind⟩
   ·obtain rfl:i=0:=by omega
    cases hs
  refine ⟨by rw [e]; exact F.r,fun t ht=>?_,fun _ hi1 s hs=>?_,fun _ hi1 hx s hs=>?_,fun _ hi1 hx=>?_⟩
  ·rw [e,ex_succ,F.mem t ht]
   exact ⟨.inl,fun g=>g.elim id fun g=>absurd g.1 hm⟩
  ·rw [e] at hs
   rw [Nat.add_sub_cancel]
   obtain ⟨h1,h2⟩:=hlt hi1 s hs
   exact ⟨h1,by grind⟩
  ·rw [e] at hs
   rw [Nat.add_sub_cancel]
   exact (hlt hi1 s hs).2
  ·rw [Nat.add_sub_cancel] at hx; exact absurd hx hm
theorem fi (h:asc c):∀{i:Nat},i<=c.length + 1->FI c ms i:=by
 intro i
 induction i with
 | zero=>exact fun _=>⟨⟨(fun _ h=>by cases h),List.Pairwise.nil⟩,(fun t _=>⟨(fun ⟨_,h,_⟩=>by cases h),(fun ⟨_,h,_⟩=>absurd h (Nat.not_lt_zero _))⟩),(fun h=>absurd h (Nat.lt_irrefl _)),(fun h=>absurd h (Nat.lt_irrefl _)),(fun h=>absurd h (Nat.lt_irrefl _))⟩
 | succ i ih=>exact fun hi=>fi_step h (by omega) (ih (by omega))
end
/-- Whether a number is inside. -/
def Sp.innB (s:Sp) (t:Rat):Bool:=(s.a || decide (s.lo < t)) && (s.b || decide (t < s.hi))
def inB (ss:List Sp) (t:Rat):Bool:=ss.any fun s=>s.innB t
theorem innB_iff {s:Sp} {t:Rat}:s.innB t=true↔s.inn t:=by unfold Sp.innB Sp.inn; simp
theorem inB_iff {ss:List Sp} {t:Rat}:inB ss t=true↔memS ss t:=by
 unfold inB memS; rw [List.any_eq_true]; exact ⟨fun ⟨s,h1,h2⟩=>⟨s,h1,innB_iff.1 h2⟩,fun ⟨s,h1,h2⟩=>⟨s,h1,innB_iff.2 h2⟩⟩
theorem bool_eq {a b:Bool} (h:a=true↔b=true):a=b:=by cases a <;> cases b <;> simp at h <;> rfl
theorem cls_two {ss:List Sp} {t:Rat} (h:∀s ∈ ss,¬ s.isEnd t):(clsL ss t == 2)=inB ss t:=by
 induction ss with
 | nil=>rfl
 | cons s r ih=>
  have ih:=ih fun x hx=>h x (by simp [hx])
  have hs:=h s (by simp)
  have hb:s.innB t=decide (clsV (s.la t) (s.lb t)=2)/\(clsV (s.la t) (s.lb t)≠0->clsV (s.la t) (s.lb t)=2):=by
   unfold Sp.isEnd at hs
   unfold Sp.innB Sp.la Sp.lb clsV
   rcases cmpQ_or t s.lo with ⟨h1,e1⟩ | ⟨h1,e1⟩ | ⟨h1,e1⟩ <;> rcases cmpQ_or t s.hi with ⟨h2,e2⟩ | ⟨h2,e2⟩ | ⟨h2,e2⟩ <;> rw [e1,e2] <;> cases ha:s.a <;> cases hb:s.b <;> simp [ha,hb] at hs ⊢ <;> grind
  have e:inB (s :: r) t=(s.innB t || inB r t):=rfl
  rw [e,← ih,hb.1]
  by_cases h0:clsV (s.la t) (s.lb t)=0
  ·simp [clsL,h0]
  ·have:=hb.2 h0
   simp [clsL,this]
def opB (op:Int) (x y:Bool):Bool:=if op=2 then x && y else if op=3 then x && !y else if op=4 then x != y else x || y
def marksL (op:Int) (a b:List Sp) (c:List Rat):List Bool:=(probesL c).map fun t=>opB op (clsL a t == 2) (clsL b t == 2)
def combL (op:Int) (a b:List Sp):List Sp:=fromL (endsL (a++b)) (marksL op a b (endsL (a++b)))
theorem marks_len (op:Int) (a b:List Sp) (c:List Rat):(marksL op a b c).length=c.length + 1:=by unfold marksL; rw [List.length_map,probes_len]
theorem comb_reg (op:Int) (a b:List Sp):reg (combL op a b):=by
 unfold combL fromL
 rw [marks_len]
 exact (fi (ends_asc _) (Nat.le_refl _)).r
/-- A gap lies in a span as a whole or not at all. -/
theorem gap_inB {ss:List Sp} {c:List Rat} (h:asc c) (hc:∀s ∈ ss,∀q,s.isEnd q->q ∈ c) {i:Nat} (hi:i<=c.length) {t u:Rat} (ht:(gapS c i).inn t) (hu:(gapS c i).inn u):inB ss t=inB ss u:=by
 induction ss with
 | nil=>rfl
 | cons s r ih=>
  have ih:=ih fun x hx=>hc x (by simp [hx])
  have e:∀t,inB (s :: r) t=(s.innB t || inB r t):=fun _=>rfl
  rw [e,e,ih]
  congr 1
  have hs:=hc s (by simp)
  unfold Sp.innB
  cases ha:s.a <;> cases hb:s.b <;> simp
  ·have h1:=gap_side h hi ht hu (hs s.lo (.inl ⟨ha,rfl⟩))
   have h2:=gap_side h hi ht hu (hs s.hi (.inr ⟨hb,rfl⟩))
   rw [decide_eq_decide.2 h1.1,decide_eq_decide.2 h2.2.1]
  ·exact (gap_side h hi ht hu (hs s.lo (.inl ⟨ha,rfl⟩))).1
  ·exact (gap_side h hi ht hu (hs s.hi (.inr ⟨hb,rfl⟩))).2.1
theorem comb_inB (op:Int) (a b:List Sp) {t:Rat} (ht:t ∉ endsL (a++b)):inB (combL op a b) t=opB op (inB a t) (inB b t):=by
 have hA:=ends_asc (a++b)
 have hE:∀s ∈ a++b,∀q,s.isEnd q->q ∈ endsL (a++b):=fun s hs q hq=>ends_iff.2 ⟨s,hs,hq⟩
 unfold combL fromL
 generalize endsL (a++b)=c at ht hA hE
 rw [marks_len]
 have ha:∀s ∈ a,∀q,s.isEnd q->q ∈ c:=fun s hs=>hE s (by simp [hs])
 have hb:∀s ∈ b,∀q,s.isEnd q->q ∈ c:=fun s hs=>hE s (by simp [hs])
 have mk:∀j,j<=c.length->(gapS c j).inn t->(marksL op a b c).getD j false=opB op (inB a t) (inB b t):=fun j hj hg=>by
  have hp:=probe_in hA hj
  have hnot:(probesL c).getD j 0 ∉ c:=fun hm=>(gap_side hA hj hp hp hm).2.2 rfl
  unfold marksL
  rw [List.getD_eq_getElem?_getD,List.getElem?_map,List.getElem?_eq_getElem (by rw [probes_len]; omega)]
  have e:(probesL c)[j]'(by rw [probes_len]; omega)=(probesL c).getD j 0:=by rw [List.getD_eq_getElem?_getD,List.getElem?_eq_getElem (by rw [probes_len]; omega)]; rfl
  simp only [Option.map_some,Option.getD_some,e]
  rw [cls_two (fun s hs he=>hnot (ha s hs _ he)),cls_two (fun s hs he=>hnot (hb s hs _ he)),gap_inB hA ha hj hp hg,gap_inB hA hb hj hp hg]
 refine bool_eq ?_
 rw [inB_iff,(fi hA (Nat.le_refl _)).mem t ht]
 constructor
 ·rintro ⟨j,hj,h1,h2⟩
  rw [← mk j (by omega) h2]; exact h1
 ·intro h1
  obtain ⟨i,hi,hg⟩:=gap_ex hA ht
  exact ⟨i,by omega,by rw [mk i hi hg]; exact h1,hg⟩
/-- Two lists in order with the same points, but for a few, are the same. -/
theorem reg_eq {xs ys:List Sp} (E:List Rat) (hx:reg xs) (hy:reg ys) (h:∀t,t ∉ E->inB xs t=inB ys t):xs=ys:=
 reg_unique (E:=E) hx hy fun t ht=>by rw [← inB_iff,← inB_iff,h t ht]
end Go.Proofs.Tryz
/- Contract: the reference's Combine. -/
namespace Go.Proofs.Tryz
open Go.Eng Go.Big
/-- The cells of a list in memory, as one row. -/
theorem lst_cells {α:Type} {sz:Nat} {R:View->Value->α->Prop} {V:View} {p:OA} {n:Nat} {ls:List α} (h:Lst sz R V p n ls) (hs:0 < sz):∃xs:List Value,V.sl p xs/\xs.length=ls.length * sz/\Row sz R V xs ls:=by
 have step:∀k,k<=ls.length->∃xs:List Value,V.sl p xs/\xs.length=k * sz/\Row sz R V xs (ls.take k):=by
  intro k
  induction k with
  | zero=>exact fun _=>⟨[],fun i v hv=>by simp at hv,by simp,by rw [List.take_zero]; exact Row.nil⟩
  | succ k ih=>
   intro hk
   obtain ⟨xs,x1,x2,x3⟩:=ih (by omega)
   obtain ⟨ad,ha,ys,y1,y2,y3⟩:=h.at_ k (by omega)
   have hl:(ls.take k).length=k:=by rw [List.length_take]; omega
   refine ⟨xs++ys,fun i v hv=>?_,by rw [List.length_append,x2,y1,Nat.succ_mul],?_⟩
   ·by_cases c:i < xs.length
    ·rw [List.getElem?_append_left c] at hv; exact x1 i v hv
    ·rw [List.getElem?_append_right (by omega)] at hv
     cases p with
     | none=>cases ha
     | some a=>
      obtain rfl:=Option.some.inj (show some (a.add (k * sz))=some ad from ha)
      have:=y3 _ v hv
      rw [adr_add2,x2] at this
      rw [show k * sz + (i - k * sz)=i by omega] at this
      exact ⟨a,rfl,this⟩
   ·have:=x3.snoc (sp:=[]) y1 y2 hs
    rw [hl,List.append_nil,List.take_of_length_le (by omega)] at this
    rw [List.take_add_one,List.getElem?_eq_getElem (by omega)]
    exact this
 obtain ⟨xs,x1,x2,x3⟩:=step ls.length (Nat.le_refl _)
 rw [List.take_length] at x3
 exact ⟨xs,x1,x2,x3⟩
theorem row_append {α:Type} {sz:Nat} {R:View->Value->α->Prop} {V:View} {vs xs sp:List Value} {ls ms:List α} (h:Row sz R V vs ls) (h':Row sz R V xs ms) (hs:0 < sz):Row sz R V (vs.take (ls.length * sz)++xs++sp) (ls++ms):=by
 have hl:=h.len_le hs
 have hl':=h'.len_le hs
 have ht:(vs.take (ls.length * sz)).length=ls.length * sz:=by rw [List.length_take]; omega
 refine ⟨fun i hi=>?_⟩
 by_cases c:i < ls.length
 ·obtain ⟨ys,y1,y2,y3⟩:=h.at_ i c
  refine ⟨ys,y1,by rw [List.getElem_append_left c]; exact y2,fun j x hj=>?_⟩
  have hj':=(List.getElem?_eq_some_iff.1 hj).1
  have hlt:i * sz + j < ls.length * sz:=by
   have:(i + 1) * sz<=ls.length * sz:=Nat.mul_le_mul_right _ c
   rw [Nat.succ_mul] at this
   omega
  rw [List.append_assoc,List.getElem?_append_left (by omega),List.getElem?_take,if_pos hlt]
  exact y3 j x hj
 ·rw [List.length_append] at hi
  obtain ⟨m,rfl⟩:∃m,i=ls.length + m:=⟨i - ls.length,by omega⟩
  have hm:m < ms.length:=by omega
  obtain ⟨ys,y1,y2,y3⟩:=h'.at_ m hm
  refine ⟨ys,y1,?_,fun j x hj=>?_⟩
  ·have e:(ls++ms)[ls.length + m]=ms[m]:=by rw [List.getElem_append_right (by omega)]; simp
   rw [e]; exact y2
  ·have hj':=(List.getElem?_eq_some_iff.1 hj).1
   have hlt:m * sz + j < xs.length:=by
    have:(m + 1) * sz<=ms.length * sz:=Nat.mul_le_mul_right _ hm
    rw [Nat.succ_mul] at this
    omega
   rw [List.append_assoc,List.getElem?_append_right (by rw [ht,Nat.add_mul]; omega),ht,Nat.add_mul,List.getElem?_append_left (by omega)]
   rw [show ls.length * sz + m * sz + j - ls.length * sz=m * sz + j by omega]
   exact y3 j x hj
theorem RSl.lst {V:View} {p:OA} {n:Nat} {ss:List Sp} (h:RSl V p n ss):Lst 8 RSs V p n ss:=by
 refine ⟨h.len,fun i hi=>?_⟩
 obtain ⟨ad,ha,xs,hx,hc⟩:=h.at_ i hi
 have hx0:=hx
 obtain ⟨_,_,_,_,_,_,_,_,_,_,_,_,_,_,e,-,-⟩:=rs_cells hx
 exact ⟨ad,ha,xs,by rw [e]; rfl,hx0,hc⟩
theorem lst_rsl {V:View} {p:OA} {n:Nat} {ss:List Sp} (h:Lst 8 RSs V p n ss):RSl V p n ss:=
 ⟨h.len,fun i hi=>by obtain ⟨ad,ha,xs,-,hx,hc⟩:=h.at_ i hi; exact ⟨ad,ha,xs,hx,hc⟩⟩
theorem row_span {V:View} {vs:List Value} {ss:List Sp} (h:Row 8 RSs V vs ss) {m:Nat} (hm:m < ss.length * 8) {v:Value} (hv:vs[m]?=some v):v.oneCell'=true:=by
 have hi:m / 8 < ss.length:=by omega
 obtain ⟨xs,hl,hx,hc⟩:=h.at_ (m / 8) hi
 obtain ⟨_,_,_,_,_,_,_,_,_,_,_,_,_,_,e,-,-⟩:=rs_cells hx
 have hlt:m % 8 < xs.length:=by rw [hl]; exact Nat.mod_lt _ (by decide)
 have e3:m=m / 8 * 8 + m % 8:=by omega
 have:=hc (m % 8) _ (List.getElem?_eq_getElem hlt)
 rw [← e3,hv] at this
 obtain rfl:=Option.some.inj this
 have hmem:=List.getElem_mem hlt
 generalize xs[m % 8]=v at hmem
 subst e
 simp only [List.mem_cons,List.not_mem_nil,or_false] at hmem
 rcases hmem with rfl | rfl | rfl | rfl | rfl | rfl | rfl | rfl <;> rfl
theorem sz_hlf {x:Rat} {k:Nat} (h:Sz k x):Sz (k + 3) (x * ((2:Int):Rat)⁻¹):=by
 have h2:Sz 2 (((2:Int):Rat))⁻¹:=by unfold Sz; decide +kernel
 exact (h.mul h2).mono (by omega)
theorem probes_sz {c:List Rat} {k:Nat} (h:∀q ∈ c,Sz k q) {q:Rat} (hq:q ∈ probesL c):Sz (2 * k + 4) q:=by
 have g:∀i,i < c.length->Sz k (c.getD i 0):=fun i hi=>by rw [getD_at hi]; exact h _ (List.getElem_mem hi)
 have z:Sz (2 * k + 4) 0:=by
  have h1:(1:Nat) < 2 ^ (2 * k + 4):=Nat.one_lt_two_pow (by omega)
  exact ⟨Nat.lt_of_le_of_lt (Nat.zero_le _) h1,h1⟩
 unfold probesL at hq
 by_cases h0:c.length=0
 ·rw [if_pos h0] at hq
  obtain rfl:q=0:=by simpa using hq
  exact z
 ·rw [if_neg h0] at hq
  rcases List.mem_append.1 hq with hq | hq
  ·unfold outL at hq
   rcases List.mem_cons.1 hq with rfl | hq
   ·exact ((g 0 (by omega)).sub szi_one).mono (by omega)
   ·obtain ⟨i,hi,rfl⟩:=List.mem_map.1 hq
    rw [List.mem_range] at hi
    exact (sz_hlf ((g i (by omega)).add (g (i + 1) (by omega)))).mono (by omega)
  ·obtain rfl:q=_:=by simpa using hq
   exact ((g _ (by omega)).add szi_one).mono (by omega)
theorem c_ref06_Combine {V:View} {op:Int} {ap bp:OA} {an ac bn bc:Nat} {la' lb':List Sp} (ha:RSl V ap an la') (hb:RSl V bp bn lb') (hl:la'.length + lb'.length < 10000000) {k:Nat} (sa:∀s ∈ la',s.sz k) (sb:∀s ∈ lb',s.sz k) (hk:4 * k + 8 < 274877906944) :
  Acts prog 20 #[.int .i64 op,.slice ap an ac,.slice bp bn bc] V fun r V'=>∃p n c,r=.slice p n c/\RSl V' p n (combL op la' lb'):=by
 have la:=ha.len
 have lb:=hb.len
 obtain ⟨xs,x1,x2,x3⟩:=lst_cells ha.lst (by decide)
 obtain ⟨ys,y1,y2,y3⟩:=lst_cells hb.lst (by decide)
 refine vc_ref06_Combine op ap an ac bp bn bc V _ ⟨xs,x1,by omega,by omega,Nat.le_refl _,Nat.zero_le _,by omega,?_,fun bk4 J5 sp2 c3 h1 h2=>⟨ys,y1,by omega,by omega,by omega,?_,by omega,?_,fun bk9 J10 sp7 c8 h3 h4 V1 l1 bk11 hbk=>?_⟩⟩
 ·intro v hv
  obtain ⟨m,hm,rfl⟩:=List.getElem_of_mem hv
  exact row_span x3 (by omega) (List.getElem?_eq_getElem hm)
 ·rw [List.take_nil,List.nil_append,List.length_append]; omega
 ·intro v hv
  obtain ⟨m,hm,rfl⟩:=List.getElem_of_mem hv
  exact row_span y3 (by omega) (List.getElem?_eq_getElem hm)
 have hrow:Row 8 RSs V1 ((([]:List Value).take (0 * 8)++xs++sp2).take ((0 + an) * 8)++ys++sp7) (la'++lb'):=by
  have e:(([]:List Value).take (0 * 8)++xs++sp2).take ((0 + an) * 8)=xs.take (la'.length * 8):=by
   rw [List.take_nil,List.nil_append,la,Nat.zero_add,List.take_append_of_le_length (by omega)]
  rw [e]
  exact (row_append x3 y3 (by decide)).le fun _ _ h=>h.le l1
 have hL:RSl V1 (some ⟨bk11,0,none⟩) (0 + an + bn) (la'++lb'):=by
  have:=lst_rsl (Lst.of_row hbk hrow)
  rwa [show (la'++lb').length=0 + an + bn by rw [List.length_append]; omega] at this
 have hs:∀s ∈ la'++lb',s.sz k:=fun s hs=>by
  rcases List.mem_append.1 hs with hs | hs
  ·exact sa s hs
  ·exact sb s hs
 refine (c_ref06_ends hL (by rw [List.length_append]; omega) hs (by omega)).mono ?_
 rintro r V2 l2 ⟨p12,n12,c12,rfl,hc⟩
 have cl:=endsL_len (la'++lb')
 rw [List.length_append] at cl
 have cs:∀q ∈ endsL (la'++lb'),Sz k q:=fun q hq=>by
  obtain ⟨s,hs',e⟩:=endsL_mem hq
  rcases e with rfl | rfl
  ·exact (hs s hs').1
  ·exact (hs s hs').2
 have ecomb:combL op la' lb'=fromL (endsL (la'++lb')) (marksL op la' lb' (endsL (la'++lb'))):=rfl
 rw [ecomb]
 generalize endsL (la'++lb')=cuts at hc cl cs
 refine ⟨p12,n12,c12,rfl,fun J13 V3 l3=>(c_ref06_Probes (hc.le l3 fun _ _ h=>h.le l3) (by omega) cs (by omega)).mono ?_⟩
 rintro r V4 l4 ⟨p14,n14,c14,rfl,hp⟩
 have hpl:=hp.len
 rw [probes_len] at hpl
 have ml:=marks_len op la' lb' cuts
 have mat:∀i (hi:i < (probesL cuts).length),(marksL op la' lb' cuts).take (i + 1)=(marksL op la' lb' cuts).take i++[opB op (clsL la' (probesL cuts)[i] == 2) (clsL lb' (probesL cuts)[i] == 2)]:=fun i hi=>by
  rw [probes_len] at hi
  rw [List.take_add_one,List.getElem?_eq_getElem (by omega)]
  unfold marksL
  rw [List.getElem_map]; rfl
 refine ⟨p14,n14,c14,rfl,fun z V'=>∃i:Nat,z.2.2.2=(i:Int)/\i<=cuts.length + 1/\z.1=i/\z.1<=z.2.1/\z.2.1 * 1<=z.2.2.1.length/\Row 1 RBl V' z.2.2.1 ((marksL op la' lb' cuts).take i),fun z=>cuts.length + 1 - z.2.2.2.toNat,
  ⟨(0,0,[],0),by and_intros <;> rfl,0,rfl,Nat.zero_le _,rfl,Nat.le_refl _,Nat.le_refl _,Row.nil⟩,?_⟩
 rintro ⟨z1,z2,vs,z4⟩ V5 l5 ⟨i,e4,ile,e1,ic,hv,hx⟩
 dsimp only at e4 e1 ic hv hx
 subst e4 e1
 refine ⟨rfl,fun hlt=>?_,fun hlt V12 l12 bk40 hb40=>?_⟩
 ·have hlt:(z1:Int) < n14:=of_decide_eq_true hlt
  have hi:z1 < (probesL cuts).length:=by rw [probes_len]; omega
  dsimp only
  rw [Int.toNat_natCast]
  obtain ⟨ad,b,p1,n1,c1,p2,n2,c2,had,hq,a0,a1,a2⟩:=rq_at (hp.le l5 fun _ _ h=>h.le l5) hi
  have sq:=probes_sz cs (List.getElem_mem hi)
  have L5:V.Le V5:=l1.trans (l2.trans (l3.trans (l4.trans l5)))
  have sa':∀s ∈ la',s.sz (2 * k + 4):=fun s hs=>⟨(sa s hs).1.mono (by omega),(sa s hs).2.mono (by omega)⟩
  have sb':∀s ∈ lb',s.sz (2 * k + 4):=fun s hs=>⟨(sb s hs).1.mono (by omega),(sb s hs).2.mono (by omega)⟩
  refine ⟨isSome_addr had,⟨by omega,by omega⟩,b,p1,n1,c1,p2,n2,c2,ad,had,a0,a1,a2,fun V6 l6=>(c_ref06_in (ha.le (L5.trans l6)) (hq.le l6) sa' sq (by omega) (by omega)).mono ?_⟩
  rintro r V7 l7 rfl
  refine ⟨_,rfl,fun V8 l8=>(c_ref06_in (hb.le (L5.trans (l6.trans (l7.trans l8)))) (hq.le (l6.trans (l7.trans l8))) sb' sq (by omega) (by omega)).mono ?_⟩
  rintro r V9 l9 rfl
  have L9:=l6.trans (l7.trans (l8.trans l9))
  have hm:=mat z1 hi
  generalize (clsL la' (probesL cuts)[z1] == 2)=x at hm
  generalize (clsL lb' (probesL cuts)[z1] == 2)=y at hm
  refine ⟨_,rfl,fun z V'=>V9.Le V'/\z=(x || y),⟨fun hx=>⟨true,by and_intros <;> rfl,View.Le.refl _,by rw [hx]; rfl⟩,fun hx=>⟨y,by and_intros <;> rfl,View.Le.refl _,by rw [hx]; rfl⟩⟩,?_⟩
  rintro z28 V10 l10 ⟨g10,rfl⟩
  refine ⟨rfl,fun z V'=>V10.Le V'/\z=opB op x y,⟨fun h2=>?_,fun h2=>⟨fun h3=>?_,fun h3=>⟨fun h4=>?_,fun h4=>?_⟩⟩⟩,?_⟩
  ·obtain rfl:=eq_of_beq h2
   exact ⟨fun hx=>⟨y,by and_intros <;> rfl,View.Le.refl _,by rw [hx]; rfl⟩,fun hx=>⟨false,by and_intros <;> rfl,View.Le.refl _,by rw [hx]; rfl⟩⟩
  ·obtain rfl:=eq_of_beq h3
   exact ⟨fun hx=>⟨!y,by and_intros <;> rfl,View.Le.refl _,by rw [hx]; rfl⟩,fun hx=>⟨false,by and_intros <;> rfl,View.Le.refl _,by rw [hx]; rfl⟩⟩
  ·obtain rfl:=eq_of_beq h4
   exact ⟨_,by and_intros <;> rfl,View.Le.refl _,rfl⟩
  ·refine ⟨_,by and_intros <;> rfl,View.Le.refl _,?_⟩
   have h2:¬ op=2:=fun e=>by subst e; cases h2
   have h3:¬ op=3:=fun e=>by subst e; cases h3
   have h4:¬ op=4:=fun e=>by subst e; cases h4
   unfold opB
   rw [if_neg h2,if_neg h3,if_neg h4]
  ·rintro z36 V11 l11 ⟨g11,rfl⟩
   refine ⟨rfl,by omega,ic,hv,rfl,?_,fun sp c' h5 h6=>⟨(z1 + 1,c',_,(z1:Int) + 1),by dsimp only; omega,by and_intros <;> first | rfl | exact i64w (by omega),z1 + 1,rfl,by omega,rfl,h5,?_,?_⟩⟩
   ·intro v hm
    obtain rfl:v=_:=by simpa using hm
    rfl
   ·dsimp only
    have ht:(vs.take (z1 * 1)).length=z1 * 1:=by rw [List.length_take]; omega
    rw [List.length_append,List.length_append,ht]
    simp only [List.length_cons,List.length_nil]
    omega
   ·dsimp only
    have hlen:((marksL op la' lb' cuts).take z1).length=z1:=by rw [List.length_take]; omega
    rw [hm]
    have:=(hx.le (V':=V11) fun _ _ h=>h).snoc (sp:=sp) (xs:=[.bool (opB op x y)]) (a:=opB op x y) rfl rfl (by decide)
    rw [hlen] at this
    exact this
 ·have hlt:¬ (z1:Int) < n14:=of_decide_eq_false hlt
  obtain rfl:z1=cuts.length + 1:=by omega
  dsimp only at hb40 ⊢
  rw [List.take_of_length_le (by omega)] at hx
  have hM:=Lst.of_mrow (c:=z2) hb40 (hx.le (V':=V12) fun _ _ h=>h) (by decide) (by omega)
  rw [ml] at hM
  refine (c_ref06_From (hc.le (l3.trans (l4.trans (l5.trans l12))) fun _ _ h=>h.le (l3.trans (l4.trans (l5.trans l12)))) hM ml (by omega)).mono ?_
  rintro r V13 l13 ⟨p41,n41,c41,rfl,hr⟩
  exact ⟨p41,n41,c41,rfl,fun J42 V14 l14=>⟨_,_,_,rfl,lst_rsl (hr.le l14 fun _ _ h=>h.le l14)⟩⟩
end Go.Proofs.Tryz
/- By program: the conditions of the functions, from their loaded code. -/
namespace Go.Proofs.Tryz
open Go.Eng
open Go.Value renaming int→I,pointer→P,slice→S,agg→A,bool→B,tuple→T
open Go.IntKind renaming i64→J,u64→U,u32→W
set_option maxRecDepth 100000
theorem vc_ref06_WriteAll (g:OA) (e a2:Nat) (V:View) (R:VR) (h:(∃(a3:(Nat × Nat × (List Value) × Int)->VP) (a6:(Nat × Nat × (List Value) × Int)->Nat),(∃i,(s5 g e a2 (e:Int) (none:OA) (((0:Nat)=i.1)/\((0:Nat)=i.2.1)/\sm 0/\((0:Int)=i.2.2.2)/\(i.2.2.1=[])))/\a3 i V)/\∀(a:Nat × Nat × (List Value) × Int) (b:View),V.Le b->a3 a b->(true=true/\(((decide (a.2.2.2 < (e:Int)))=true->(g.isSome=true)/\(0<=a.2.2.2/\a.2.2.2 < (e:Int))/\(∃a7,∃a8 a9 b0,∃b1 b2 b3,∃b4,∃b5 b6 b7,∃b8 b9 c0,∃c1,∃c2,∃d,addrAdd g (a.2.2.2.toNat * 8)=some d/\b.at (d.add 0) (B a7)/\b.at (d.add 1) (S a8 a9 b0)/\b.at (d.add 2) (S b1 b2 b3)/\b.at (d.add 3) (B b4)/\b.at (d.add 4) (S b5 b6 b7)/\b.at (d.add 5) (S b8 b9 c0)/\b.at (d.add 6) (B c1)/\b.at (d.add 7) (B c2)/\(Ca b 59 #[A #[B a7,S a8 a9 b0,S b1 b2 b3,B b4,S b5 b6 b7,S b8 b9 c0,B c1,B c2]] fun c5 c6=>∃l,∃m n o,∃p q r,∃s,∃t u w,∃x y z,∃a0,∃a1,c5=A #[B l,S m n o,S p q r,B s,S t u w,S x y z,B a0,B a1]/\((a.1 + 1) * 120<=140737488355328/\a.1<=a.2.1/\a.2.1 * 8<=a.2.2.1.length/\([B l,S m n o,S p q r,B s,S t u w,S x y z,B a0,B a1]:List Value).length=1 * 8/\(∀c7 ∈ ([B l,S m n o,S p q r,B s,S t u w,S x y z,B a0,B a1]:List Value),c7.oneCell'=true)/\∀(c3:List Value) (a4:Nat),a.1 + 1<=a4->a4 * 8<=(a.1 + 1) * 8 + c3.length->(∃f:Nat × Nat × (List Value) × Int,a6 f < a6 a/\(s4 g e a2 (e:Int) (((a.1 + 1:Nat)=f.1)/\((a4:Nat)=f.2.1)/\((J.wrap (a.2.2.2 + (1:Int)))=f.2.2.2)/\((a.2.2.1.take (a.1 * 8)++([B l,S m n o,S p q r,B s,S t u w,S x y z,B a0,B a1]:List Value)++c3)=f.2.2.1)))/\a3 f c6)))))/\((decide (a.2.2.2 < (e:Int)))=false->(∀a5,b.Le a5->∀c4:Nat,(a.2.2.1≠[]->a5.blk c4 (.cells a.2.2.1.toArray 77 (0,0)))->R (S (mA c4 a.2.1) a.1 a.2.1) a5)))))):
 Acts prog 11 #[S g e a2] V R:=
 fd (LF:=LF0) (RF:=[1000010]) [(3,⟨Nat × Nat × (List Value) × Int,false,[6,7],[],fun k=>[(3,.c (.msl 3 k.1 k.2.1)),(8,.c (.v (I J k.2.2.2)))],fun k=>[(3,⟨.mrow k.2.2.1,77⟩)]⟩)] [] func11 h
theorem vc_geo_Set_API (g:OA) (e a2:Nat) (V:View) (R:VR) (h:(∃(a3:(Nat × Nat × (List Value) × Int)->VP) (a6:(Nat × Nat × (List Value) × Int)->Nat),(∃i,(s5 g e a2 (e:Int) (none:OA) (((0:Nat)=i.1)/\((0:Nat)=i.2.1)/\sm 0/\((0:Int)=i.2.2.2)/\(i.2.2.1=[])))/\a3 i V)/\∀(a:Nat × Nat × (List Value) × Int) (b:View),V.Le b->a3 a b->(true=true/\(((decide (a.2.2.2 < (e:Int)))=true->(g.isSome=true)/\(0<=a.2.2.2/\a.2.2.2 < (e:Int))/\(∃a7,∃a8,∃a9,∃b0,∃b1,∃b2,∃b3,∃b4,∃d,addrAdd g (a.2.2.2.toNat * 8)=some d/\b.at (d.add 0) (I J a7)/\b.at (d.add 1) (I J a8)/\b.at (d.add 2) (P a9)/\b.at (d.add 3) (I J b0)/\b.at (d.add 4) (I J b1)/\b.at (d.add 5) (P b2)/\b.at (d.add 6) (B b3)/\b.at (d.add 7) (B b4)/\(Ca b 131 #[A #[I J a7,I J a8,P a9,I J b0,I J b1,P b2,B b3,B b4]] fun b7 b8=>∃l,∃m n o,∃p q r,∃s,∃t u w,∃x y z,∃a0,∃a1,b7=A #[B l,S m n o,S p q r,B s,S t u w,S x y z,B a0,B a1]/\((a.1 + 1) * 120<=140737488355328/\a.1<=a.2.1/\a.2.1 * 8<=a.2.2.1.length/\([B l,S m n o,S p q r,B s,S t u w,S x y z,B a0,B a1]:List Value).length=1 * 8/\(∀b9 ∈ ([B l,S m n o,S p q r,B s,S t u w,S x y z,B a0,B a1]:List Value),b9.oneCell'=true)/\∀(b5:List Value) (a4:Nat),a.1 + 1<=a4->a4 * 8<=(a.1 + 1) * 8 + b5.length->(∃f:Nat × Nat × (List Value) × Int,a6 f < a6 a/\(s4 g e a2 (e:Int) (((a.1 + 1:Nat)=f.1)/\((a4:Nat)=f.2.1)/\((J.wrap (a.2.2.2 + (1:Int)))=f.2.2.2)/\((a.2.2.1.take (a.1 * 8)++([B l,S m n o,S p q r,B s,S t u w,S x y z,B a0,B a1]:List Value)++b5)=f.2.2.1)))/\a3 f b8)))))/\((decide (a.2.2.2 < (e:Int)))=false->(∀a5,b.Le a5->∀b6:Nat,(a.2.2.1≠[]->a5.blk b6 (.cells a.2.2.1.toArray 77 (0,0)))->R (S (mA b6 a.2.1) a.1 a.2.1) a5)))))):
 Acts prog 65 #[S g e a2] V R:=
 fd (LF:=LF0) (RF:=[1000010]) [(3,⟨Nat × Nat × (List Value) × Int,false,[6,7],[],fun k=>[(3,.c (.msl 3 k.1 k.2.1)),(8,.c (.v (I J k.2.2.2)))],fun k=>[(3,⟨.mrow k.2.2.1,77⟩)]⟩)] [] func65 h
end Go.Proofs.Tryz
/- Contracts: lists of spans are written (printed by mkspan.py). -/
namespace Go.Proofs.Tryz
open Go.Eng Go.Big
theorem sp_shape {V:View} {v:Value} {s:Sp} (h:RSp V v s):∃b p n c p' n' c' d q m e q' m' e',v=.agg #[.bool b,.slice p n c,.slice p' n' c',.bool d,.slice q m e,.slice q' m' e',.bool s.a,.bool s.b]:=by
 obtain ⟨_,_,_,_,_,_,_,_,_,_,_,_,_,_,e,-⟩:=h; exact ⟨_,_,_,_,_,_,_,_,_,_,_,_,_,_,e⟩
theorem iv_shape {V:View} {v:Value} {s:Sp} (h:RIv V v s):∃(x1 x2:Int) (p:OA) (y1 y2:Int) (q:OA),v=.agg #[.int .i64 x1,.int .i64 x2,.pointer p,.int .i64 y1,.int .i64 y2,.pointer q,.bool s.a,.bool s.b]:=by
 obtain ⟨_,_,_,_,_,_,e,-⟩:=h; exact ⟨_,_,_,_,_,_,e⟩
theorem c_ref06_WriteAll {V:View} {p:OA} {n c:Nat} {ls:List Sp} (h:Lst 8 RSs V p n ls) (hn:ls.length<=1000) {k:Nat} (hs:∀s ∈ ls,s.sz k) (hk:k<=1099511627776) :
  Acts prog 11 #[.slice p n c] V fun r V'=>∃q m e,r=.slice q m e/\Lst 8 RSp V' q m ls:=by
 obtain rfl:=h.len
 refine vc_ref06_WriteAll p _ c V _ ⟨fun z V'=>∃j:Nat,z.2.2.2=(j:Int)/\j<=ls.length/\z.1=j/\j<=z.2.1/\z.2.1 * 8<=z.2.2.1.length/\Row 8 RSp V' z.2.2.1 (ls.take j),
  fun z=>ls.length - z.2.2.2.toNat,⟨(0,0,[],0),by and_intros <;> rfl,0,rfl,Nat.zero_le _,rfl,Nat.le_refl _,Nat.le_refl _,Row.nil⟩,?_⟩
 rintro ⟨z1,z2,vs,z4⟩ V1 l1 ⟨j,e4,jle,e1,jc,hv,hx⟩
 dsimp only at e4 e1 jc hv hx
 subst e4 e1
 refine ⟨rfl,fun hlt=>?_,fun hlt V4 l4 bk hb=>?_⟩
 ·have hlt:(z1:Int) < ls.length:=of_decide_eq_true hlt
  have hi:z1 < ls.length:=by omega
  obtain ⟨ad,ha,xs,-,hf,hat⟩:=(h.le l1 fun _ _ g=>RSs.le g l1).at_ z1 hi
  have w:i64.wrap ((z1:Int) + 1)=(z1:Int) + 1:=i64w (by omega)
  dsimp only
  rw [Int.toNat_natCast,w]
  have hf0:=hf
  obtain ⟨_,_,_,_,_,_,_,_,_,_,_,_,_,_,ex,-⟩:=hf
  have ex:=congrArg Array.toList (Value.agg.inj ex)
  dsimp only at ex
  subst ex
  refine ⟨isSome_addr ha,⟨by omega,by omega⟩,_,_,_,_,_,_,_,_,_,_,_,_,_,_,_,_,ad,ha,hat 0 _ rfl,hat 1 _ rfl,hat 2 _ rfl,hat 3 _ rfl,hat 4 _ rfl,hat 5 _ rfl,hat 6 _ rfl,hat 7 _ rfl,fun V2 l2=>(c_ref06_Write (hf0.le l2) (hs _ (List.getElem_mem hi)) hk).mono ?_⟩
  rintro r V3 l3 g
  have g0:=g
  obtain ⟨_,_,_,_,_,_,_,_,_,_,_,_,_,_,rfl⟩:=sp_shape g
  have tl:(ls.take z1).length=z1:=by rw [List.length_take]; omega
  refine ⟨_,_,_,_,_,_,_,_,_,_,_,_,_,_,_,_,rfl,by omega,jc,hv,rfl,?_,fun sp c' h1 h2=>⟨(z1 + 1,c',_,(z1:Int) + 1),by dsimp only; omega,by and_intros <;> rfl,z1 + 1,rfl,hi,rfl,h1,?_,?_⟩⟩
  ·intro v hm
   simp only [List.mem_cons,List.not_mem_nil,or_false] at hm
   rcases hm with rfl | rfl | rfl | rfl | rfl | rfl | rfl | rfl <;> rfl
  ·dsimp only
   have ht:(vs.take (z1 * 8)).length=z1 * 8:=by rw [List.length_take]; omega
   rw [List.length_append,List.length_append,ht]
   simp only [List.length_cons,List.length_nil]
   omega
  ·dsimp only
   rw [List.take_add_one,List.getElem?_eq_getElem hi]
   have:=(hx.le (V':=V3) fun _ _ g=>RSp.le g (l2.trans l3)).snoc (sp:=sp) rfl g0 (by decide)
   rw [tl] at this
   exact this
 ·have hlt:¬ (z1:Int) < ls.length:=of_decide_eq_false hlt
  obtain rfl:z1=ls.length:=by omega
  rw [List.take_length] at hx
  exact ⟨_,_,_,rfl,Lst.of_mrow hb (hx.le fun _ _ g=>RSp.le g l4) (by decide) jc⟩
theorem c_Set_API {V:View} {p:OA} {n c:Nat} {ls:List Sp} (h:Lst 8 RIv V p n ls) (hn:ls.length<=1000) {k:Nat} (hs:∀s ∈ ls,s.sz k) (hk:k<=1099511627776) :
  Acts prog 65 #[.slice p n c] V fun r V'=>∃q m e,r=.slice q m e/\Lst 8 RSp V' q m ls:=by
 obtain rfl:=h.len
 refine vc_geo_Set_API p _ c V _ ⟨fun z V'=>∃j:Nat,z.2.2.2=(j:Int)/\j<=ls.length/\z.1=j/\j<=z.2.1/\z.2.1 * 8<=z.2.2.1.length/\Row 8 RSp V' z.2.2.1 (ls.take j),
  fun z=>ls.length - z.2.2.2.toNat,⟨(0,0,[],0),by and_intros <;> rfl,0,rfl,Nat.zero_le _,rfl,Nat.le_refl _,Nat.le_refl _,Row.nil⟩,?_⟩
 rintro ⟨z1,z2,vs,z4⟩ V1 l1 ⟨j,e4,jle,e1,jc,hv,hx⟩
 dsimp only at e4 e1 jc hv hx
 subst e4 e1
 refine ⟨rfl,fun hlt=>?_,fun hlt V4 l4 bk hb=>?_⟩
 ·have hlt:(z1:Int) < ls.length:=of_decide_eq_true hlt
  have hi:z1 < ls.length:=by omega
  obtain ⟨ad,ha,xs,-,hf,hat⟩:=(h.le l1 fun _ _ g=>RIv.le g l1).at_ z1 hi
  have w:i64.wrap ((z1:Int) + 1)=(z1:Int) + 1:=i64w (by omega)
  dsimp only
  rw [Int.toNat_natCast,w]
  have hf0:=hf
  obtain ⟨_,_,_,_,_,_,ex⟩:=iv_shape hf
  have ex:=congrArg Array.toList (Value.agg.inj ex)
  dsimp only at ex
  subst ex
  refine ⟨isSome_addr ha,⟨by omega,by omega⟩,_,_,_,_,_,_,_,_,ad,ha,hat 0 _ rfl,hat 1 _ rfl,hat 2 _ rfl,hat 3 _ rfl,hat 4 _ rfl,hat 5 _ rfl,hat 6 _ rfl,hat 7 _ rfl,fun V2 l2=>(c_Iv_API (hf0.le l2) (hs _ (List.getElem_mem hi)) hk).mono ?_⟩
  rintro r V3 l3 g
  have g0:=g
  obtain ⟨_,_,_,_,_,_,_,_,_,_,_,_,_,_,rfl⟩:=sp_shape g
  have tl:(ls.take z1).length=z1:=by rw [List.length_take]; omega
  refine ⟨_,_,_,_,_,_,_,_,_,_,_,_,_,_,_,_,rfl,by omega,jc,hv,rfl,?_,fun sp c' h1 h2=>⟨(z1 + 1,c',_,(z1:Int) + 1),by dsimp only; omega,by and_intros <;> rfl,z1 + 1,rfl,hi,rfl,h1,?_,?_⟩⟩
  ·intro v hm
   simp only [List.mem_cons,List.not_mem_nil,or_false] at hm
   rcases hm with rfl | rfl | rfl | rfl | rfl | rfl | rfl | rfl <;> rfl
  ·dsimp only
   have ht:(vs.take (z1 * 8)).length=z1 * 8:=by rw [List.length_take]; omega
   rw [List.length_append,List.length_append,ht]
   simp only [List.length_cons,List.length_nil]
   omega
  ·dsimp only
   rw [List.take_add_one,List.getElem?_eq_getElem hi]
   have:=(hx.le (V':=V3) fun _ _ g=>RSp.le g (l2.trans l3)).snoc (sp:=sp) rfl g0 (by decide)
   rw [tl] at this
   exact this
 ·have hlt:¬ (z1:Int) < ls.length:=of_decide_eq_false hlt
  obtain rfl:z1=ls.length:=by omega
  rw [List.take_length] at hx
  exact ⟨_,_,_,rfl,Lst.of_mrow hb (hx.le fun _ _ g=>RSp.le g l4) (by decide) jc⟩
end Go.Proofs.Tryz
/- Plain: what sorting in place does to a list: swaps, segments, the order of the elements. -/
namespace Go.Proofs.Tryz
open Go.Big
section
variable {α:Type}
/-- A comparison that orders. -/
structure Ord (c:α->α->Int):Prop where
 asy:∀a b,c a b < 0->¬ c b a < 0
 tr:∀a b d,¬ c a b < 0->¬ c b d < 0->¬ c a d < 0
variable {c:α->α->Int}
theorem Ord.le (h:Ord c) {a b:α} (l:c a b < 0):¬ c b a < 0:=h.asy a b l
theorem Ord.refl (h:Ord c) (a:α):¬ c a a < 0:=fun l=>h.asy a a l l
/-- Two elements change places. -/
def swp (d:α) (l:List α) (i j:Nat):List α:=(l.set i (l.getD j d)).set j (l.getD i d)
variable {d:α}
theorem swp_len {l:List α} {i j:Nat}:(swp d l i j).length=l.length:=by simp [swp]
theorem getD_set {l:List α} {i k:Nat} {x:α} (hi:i < l.length):(l.set i x).getD k d=if k=i then x else l.getD k d:=by
 simp only [List.getD_eq_getElem?_getD,List.getElem?_set]
 by_cases h:k=i
 ·subst h; simp [hi]
 ·have:¬ i=k:=fun e=>h e.symm
  simp [h,this]
theorem swp_at {l:List α} {i j k:Nat} (hi:i < l.length) (hj:j < l.length):(swp d l i j).getD k d=if k=j then l.getD i d else if k=i then l.getD j d else l.getD k d:=by
 unfold swp
 rw [getD_set (by simpa using hj),getD_set hi]
theorem swp_perm {l:List α} {i j:Nat} (hi:i < l.length) (hj:j < l.length):(swp d l i j).Perm l:=by
 have h:=Array.swap_perm (xs:=l.toArray) (i:=i) (j:=j) (by simpa using hi) (by simpa using hj)
 have e:(l.toArray.swap i j (by simpa using hi) (by simpa using hj)).toList=swp d l i j:=by
  simp [Array.swap,swp,List.getD_eq_getElem?_getD,hi,hj]
 have:=h.toList
 rw [e] at this
 simpa using this
/-- Only the part from a to b was changed, within itself. -/
structure Seg (d:α) (l m:List α) (a b:Nat):Prop where
 len:m.length=l.length
 out:∀k,¬ (a<=k/\k < b)->m.getD k d=l.getD k d
 mem:∀k,a<=k->k < b->∃k',a<=k'/\k' < b/\m.getD k d=l.getD k' d
 perm:m.Perm l
theorem Seg.refl (l:List α) (a b:Nat):Seg d l l a b:=⟨rfl,fun _ _=>rfl,fun k h h'=>⟨k,h,h',rfl⟩,.refl _⟩
theorem Seg.trans {l m n:List α} {a b:Nat} (h:Seg d l m a b) (g:Seg d m n a b):Seg d l n a b:=
 ⟨g.len.trans h.len,fun k hk=>(g.out k hk).trans (h.out k hk),fun k h1 h2=>by
  obtain ⟨k',h3,h4,e⟩:=g.mem k h1 h2
  obtain ⟨k'',h5,h6,e'⟩:=h.mem k' h3 h4
  exact ⟨k'',h5,h6,e.trans e'⟩,g.perm.trans h.perm⟩
theorem Seg.wide {l m:List α} {a b a' b':Nat} (h:Seg d l m a b) (ha:a'<=a) (hb:b<=b'):Seg d l m a' b':=
 ⟨h.len,fun k hk=>h.out k (by omega),fun k h1 h2=>by
  by_cases hk:a<=k/\k < b
  ·obtain ⟨k',h3,h4,e⟩:=h.mem k hk.1 hk.2
   exact ⟨k',by omega,by omega,e⟩
  ·exact ⟨k,h1,h2,h.out k hk⟩,h.perm⟩
theorem Seg.swp {l:List α} {a b i j:Nat} (hi:a<=i) (hi':i < b) (hj:a<=j) (hj':j < b) (hb:b<=l.length):Seg d l (swp d l i j) a b:=by
 refine ⟨swp_len,fun k hk=>?_,fun k h1 h2=>?_,swp_perm (by omega) (by omega)⟩
 ·rw [swp_at (by omega) (by omega),if_neg (by omega),if_neg (by omega)]
 ·rw [swp_at (by omega) (by omega)]
  split
  ·exact ⟨i,hi,hi',rfl⟩
  ·split
   ·exact ⟨j,hj,hj',rfl⟩
   ·exact ⟨k,h1,h2,rfl⟩
/-- Ascending from a to b. -/
def Asc (c:α->α->Int) (d:α) (l:List α) (a b:Nat):Prop:=∀p q,a<=p->p < q->q < b->¬ c (l.getD q d) (l.getD p d) < 0
theorem Asc.short {l:List α} {a b:Nat} (h:b<=a + 1):Asc c d l a b:=fun p q h1 h2 h3=>by omega
theorem Asc.step (ho:Ord c) {l:List α} {a b:Nat} (h:Asc c d l a b) (h0:a < b) (hb:¬ c (l.getD b d) (l.getD (b - 1) d) < 0):Asc c d l a (b + 1):=by
 intro p q h1 h2 h3
 by_cases e:q=b
 ·subst e
  by_cases e':p=q - 1
  ·subst e'; exact hb
  ·exact ho.tr _ _ _ hb (h p (q - 1) h1 (by omega) (by omega))
 ·exact h p q h1 h2 (by omega)
/-- Insertion: the part from a to i is in order but for the element at j. -/
def Ins (c:α->α->Int) (d:α) (l:List α) (a i j:Nat):Prop:=∀p q,a<=p->p < q->q<=i->q≠j->¬ c (l.getD q d) (l.getD p d) < 0
theorem Ins.start {l:List α} {a i:Nat} (h:Asc c d l a i):Ins c d l a i i:=fun p q h1 h2 h3 h4=>h p q h1 h2 (by omega)
theorem Ins.done (ho:Ord c) {l:List α} {a i j:Nat} (h:Ins c d l a i j) (hji:j<=i) (hs:j<=a \/ ¬ c (l.getD j d) (l.getD (j - 1) d) < 0):Asc c d l a (i + 1):=by
 intro p q h1 h2 h3
 by_cases e:q=j
 ·subst e
  rcases hs with hs | hs
  ·omega
  ·by_cases e':p=q - 1
   ·subst e'; exact hs
   ·exact ho.tr _ _ _ hs (h p (q - 1) h1 (by omega) (by omega) (by omega))
 ·exact h p q h1 h2 (by omega) e
theorem Ins.move (ho:Ord c) {l:List α} {a i j:Nat} (h:Ins c d l a i j) (hj:a < j) (hji:j<=i) (hi:i < l.length) (hl:c (l.getD j d) (l.getD (j - 1) d) < 0):Ins c d (swp d l j (j - 1)) a i (j - 1):=by
 intro p q h1 h2 h3 h4
 have ha:=fun k=>swp_at (d:=d) (l:=l) (i:=j) (j:=j - 1) (k:=k) (by omega) (by omega)
 rw [ha,ha]
 by_cases eq:q=j
 ·subst eq
  rw [if_neg (by omega),if_pos rfl]
  by_cases ep:p=q - 1
  ·rw [if_pos ep]; exact ho.asy _ _ hl
  ·rw [if_neg ep,if_neg (by omega)]; exact h p (q - 1) h1 (by omega) (by omega) (by omega)
 ·rw [if_neg h4,if_neg eq]
  by_cases ep:p=j - 1
  ·rw [if_pos ep]; exact h j q (by omega) (by omega) h3 eq
  ·rw [if_neg ep]
   by_cases ep':p=j
   ·rw [if_pos ep']; exact h (j - 1) q (by omega) (by omega) h3 eq
   ·rw [if_neg ep']; exact h p q h1 h2 h3 eq
/-! heaps -/
/-- From lo on, no child (below hi) is greater than its parent; the place r is left out; its children are not greater than its parent. -/
def Hp (c:α->α->Int) (d:α) (l:List α) (f lo hi:Nat) (r:Option Nat):Prop:=
 (∀i k,lo<=i->(k=2 * i + 1 \/ k=2 * i + 2)->k < hi->r≠some i->¬ c (l.getD (f + i) d) (l.getD (f + k) d) < 0) /\
 (∀i j k,r=some j->lo<=i->(j=2 * i + 1 \/ j=2 * i + 2)->(k=2 * j + 1 \/ k=2 * j + 2)->k < hi->¬ c (l.getD (f + i) d) (l.getD (f + k) d) < 0)
theorem Hp.top (ho:Ord c) {l:List α} {f hi:Nat} (h:Hp c d l f 0 hi none):∀k,k < hi->¬ c (l.getD f d) (l.getD (f + k) d) < 0:=by
 intro k
 induction k using Nat.strongRecOn with
 | ind k ih=>
  intro hk
  by_cases h0:k=0
  ·subst h0; exact ho.refl _
  ·exact ho.tr _ _ _ (ih ((k - 1) / 2) (by omega) (by omega)) (h.1 ((k - 1) / 2) k (by omega) (by omega) hk (by simp))
theorem Hp.leaf {l:List α} {f lo hi r:Nat} (h:Hp c d l f lo hi (some r)) (hr:hi<=2 * r + 1):Hp c d l f lo hi none:=
 ⟨fun i k h1 h2 h3 _=>by
  by_cases e:r=i
  ·omega
  ·exact h.1 i k h1 h2 h3 (by simpa using e),fun i j k e=>by cases e⟩
theorem Hp.stop (ho:Ord c) {l:List α} {f lo hi r k:Nat} (h:Hp c d l f lo hi (some r)) (hk:k=2 * r + 1 \/ k=2 * r + 2) (hm:∀k',(k'=2 * r + 1 \/ k'=2 * r + 2)->k' < hi->¬ c (l.getD (f + k) d) (l.getD (f + k') d) < 0)
  (hs:¬ c (l.getD (f + r) d) (l.getD (f + k) d) < 0):Hp c d l f lo hi none:=
 ⟨fun i k' h1 h2 h3 _=>by
  by_cases e:r=i
  ·subst e; exact ho.tr _ _ _ hs (hm k' h2 h3)
  ·exact h.1 i k' h1 h2 h3 (by simpa using e),fun i j k e=>by cases e⟩
theorem Hp.down (ho:Ord c) {l:List α} {f lo hi r k:Nat} (h:Hp c d l f lo hi (some r)) (hlo:lo<=r) (hl:f + hi<=l.length) (hk:k=2 * r + 1 \/ k=2 * r + 2) (hkh:k < hi) (hm:∀k',(k'=2 * r + 1 \/ k'=2 * r + 2)->k' < hi->¬ c (l.getD (f + k) d) (l.getD (f + k') d) < 0)
  (hs:c (l.getD (f + r) d) (l.getD (f + k) d) < 0):Hp c d (swp d l (f + r) (f + k)) f lo hi (some k):=by
 have ha:=fun x=>swp_at (d:=d) (l:=l) (i:=f + r) (j:=f + k) (k:=x) (by omega) (by omega)
 refine ⟨fun i k' h1 h2 h3 h4=>?_,fun i j k' e h1 h2 h3 h4=>?_⟩
 ·have h4:¬ i=k:=fun e=>h4 (by rw [e])
  rw [ha,ha,if_neg (show ¬ f + i=f + k by omega)]
  by_cases er:i=r
  ·subst er
   rw [if_pos rfl]
   by_cases ek:k'=k
   ·rw [if_pos (by omega)]; exact ho.asy _ _ hs
   ·rw [if_neg (by omega),if_neg (by omega)]; exact hm k' h2 h3
  ·rw [if_neg (by omega)]
   by_cases ek:k'=r
   ·subst ek
    rw [if_neg (by omega),if_pos rfl]
    exact h.2 i k' k rfl h1 h2 hk hkh
   ·rw [if_neg (by omega),if_neg (by omega)]
    exact h.1 i k' h1 h2 h3 (by simp; omega)
 ·cases e
  rw [ha,ha]
  have:i=r:=by omega
  subst this
  rw [if_neg (by omega),if_pos rfl,if_neg (by omega),if_neg (by omega)]
  exact h.1 k k' (by omega) h3 h4 (by simp; omega)
/-- One more place joins the heap from below. -/
theorem Hp.more {l:List α} {f lo hi:Nat} (h:Hp c d l f (lo + 1) hi none):Hp c d l f lo hi (some lo):=
 ⟨fun i k h1 h2 h3 h4=>h.1 i k (by have:¬ lo=i:=fun e=>h4 (by rw [e]); omega) h2 h3 (by simp),fun i j k e h1 h2 h3 h4=>by cases e; omega⟩
/-- The greatest element goes behind the heap. -/
theorem Hp.pop {l:List α} {f hi:Nat} (h:Hp c d l f 0 (hi + 1) none) (hl:f + hi < l.length):Hp c d (swp d l f (f + hi)) f 0 hi (some 0):=by
 have ha:=fun x=>swp_at (d:=d) (l:=l) (i:=f) (j:=f + hi) (k:=x) (by omega) (by omega)
 refine ⟨fun i k h1 h2 h3 h4=>?_,fun i j k e h1 h2 h3 h4=>by cases e; omega⟩
 have h4:¬ i=0:=fun e=>h4 (by rw [e])
 rw [ha,ha,if_neg (by omega),if_neg (by omega),if_neg (by omega),if_neg (by omega)]
 exact h.1 i k h1 h2 (by omega) (by simp)
/-- The two parts of a list: nothing in front is greater than anything behind. -/
def Sep (c:α->α->Int) (d:α) (l:List α) (a m b:Nat):Prop:=∀p q,a<=p->p < m->m<=q->q < b->¬ c (l.getD q d) (l.getD p d) < 0
theorem Seg.sep {l m:List α} {a b x y z:Nat} (h:Seg d l m a b) (hs:Sep c d l x y z) (hc:(x<=a/\b<=y) \/ (y<=a/\b<=z) \/ b<=x \/ z<=a):Sep c d m x y z:=by
 intro p q h1 h2 h3 h4
 have key:∀k,∃k',m.getD k d=l.getD k' d/\(k=k' \/ a<=k/\k < b/\a<=k'/\k' < b):=fun k=>by
  by_cases hk:a<=k/\k < b
  ·obtain ⟨k',e1,e2,e⟩:=h.mem k hk.1 hk.2
   exact ⟨k',e,.inr ⟨hk.1,hk.2,e1,e2⟩⟩
  ·exact ⟨k,h.out k hk,.inl rfl⟩
 obtain ⟨p',e1,e2⟩:=key p
 obtain ⟨q',f1,f2⟩:=key q
 rw [e1,f1]
 exact hs p' q' (by omega) (by omega) (by omega) (by omega)
theorem Seg.asc {l m:List α} {a b x y:Nat} (h:Seg d l m a b) (hs:Asc c d l x y) (hc:y<=a \/ b<=x):Asc c d m x y:=by
 intro p q h1 h2 h3
 rw [h.out p (by omega),h.out q (by omega)]
 exact hs p q h1 h2 h3
theorem Asc.join {l:List α} {a m b:Nat} (h1:Asc c d l a m) (h2:Asc c d l m b) (h3:Sep c d l a m b):Asc c d l a b:=by
 intro p q g1 g2 g3
 by_cases hq:q < m
 ·exact h1 p q g1 g2 hq
 ·by_cases hp:m<=p
  ·exact h2 p q hp g2 g3
  ·exact h3 p q g1 (by omega) (by omega) g3
end
end Go.Proofs.Tryz
/- Plain: quicksort's state between two partitions. -/
namespace Go.Proofs.Tryz
open Go.Big
section
variable {α:Type} {c:α->α->Int} {d:α}
structure PQ (c:α->α->Int) (d:α) (l0 l:List α) (a0 b0 a b:Nat):Prop where
 seg:Seg d l0 l a0 b0
 ha:a0<=a
 hab:a<=b
 hb:b<=b0
 lo:Asc c d l a0 a
 hi:Asc c d l b b0
 s1:Sep c d l a0 a b0
 s2:Sep c d l a0 b b0
 pre:0 < a->∀k,a<=k->k < b->¬ c (l.getD k d) (l.getD (a - 1) d) < 0
variable {l0 l m:List α} {a0 b0 a b mid:Nat}
theorem PQ.start {l:List α} (h:a<=b) (hp:0 < a->∀k,a<=k->k < b->¬ c (l.getD k d) (l.getD (a - 1) d) < 0):PQ c d l l a b a b:=
 ⟨.refl _ _ _,Nat.le_refl _,h,Nat.le_refl _,.short (by omega),.short (by omega),fun p q h1 h2=>by omega,fun p q h1 h2 h3 h4=>by omega,hp⟩
theorem PQ.change (h:PQ c d l0 l a0 b0 a b) (hs:Seg d l m a b):PQ c d l0 m a0 b0 a b:=
 ⟨h.seg.trans (hs.wide h.ha h.hb),h.ha,h.hab,h.hb,hs.asc h.lo (.inl (Nat.le_refl _)),hs.asc h.hi (.inr (Nat.le_refl _)),hs.sep h.s1 (.inr (.inl ⟨Nat.le_refl _,h.hb⟩)),hs.sep h.s2 (.inl ⟨h.ha,Nat.le_refl _⟩),fun h0 k h1 h2=>by
  obtain ⟨k',h3,h4,e⟩:=hs.mem k h1 h2
  rw [e,hs.out (a - 1) (by omega)]
  exact h.pre h0 k' h3 h4⟩
theorem PQ.fin (h:PQ c d l0 l a0 b0 a b) (hs:Seg d l m a b) (ha:Asc c d m a b):Seg d l0 m a0 b0/\Asc c d m a0 b0:=by
 have h':=h.change hs
 refine ⟨h'.seg,h'.lo.join (ha.join h'.hi fun p q h1 h2 h3 h4=>h'.s2 p q (by have:=h.ha; omega) h2 h3 h4) h'.s1⟩
theorem PQ.left (ho:Ord c) (h:PQ c d l0 l a0 b0 a b) (hm:a<=mid) (hm':mid < b) (h1:∀k,a<=k->k < mid->c (l.getD k d) (l.getD mid d) < 0) (h2:∀k,mid < k->k < b->¬ c (l.getD k d) (l.getD mid d) < 0)
  (hs:Seg d l m a mid) (ha:Asc c d m a mid):PQ c d l0 m a0 b0 (mid + 1) b:=by
 have e0:=h.ha
 have e1:=h.hb
 have em:m.getD mid d=l.getD mid d:=hs.out mid (by omega)
 have below:∀k,a<=k->k < mid->¬ c (m.getD mid d) (m.getD k d) < 0:=fun k g1 g2=>by
  obtain ⟨k',g3,g4,e⟩:=hs.mem k g1 g2
  rw [em,e]; exact ho.asy _ _ (h1 k' g3 g4)
 have t1:=hs.sep h.s1 (.inr (.inl ⟨Nat.le_refl _,by omega⟩))
 have t2:=hs.sep h.s2 (.inl ⟨e0,by omega⟩)
 have up:∀q,mid < q->q < b->¬ c (m.getD q d) (m.getD mid d) < 0:=fun q g1 g2=>by rw [em,hs.out q (by omega)]; exact h2 q g1 g2
 refine ⟨h.seg.trans (hs.wide e0 (by omega)),by omega,by omega,e1,(hs.asc h.lo (.inl (Nat.le_refl _))).join (m:=a) (fun p q g1 g2 g3=>?_) fun p q g1 g2 g3 g4=>t1 p q g1 g2 g3 (by omega),hs.asc h.hi (.inr (by omega)),fun p q g1 g2 g3 g4=>?_,t2,fun _ k g1 g2=>up k (by omega) g2⟩
 ·by_cases e:q=mid
  ·subst e; exact below p g1 g2
  ·exact ha p q g1 g2 (by omega)
 ·by_cases hq:b<=q
  ·exact t2 p q g1 (by omega) hq g4
  ·by_cases hp:p < a
   ·exact t1 p q g1 hp (by omega) g4
   ·have u:=up q (by omega) (by omega)
    by_cases e:p=mid
    ·subst e; exact u
    ·exact ho.tr _ _ _ u (below p (by omega) (by omega))
theorem PQ.right (ho:Ord c) (h:PQ c d l0 l a0 b0 a b) (hm:a<=mid) (hm':mid < b) (h1:∀k,a<=k->k < mid->c (l.getD k d) (l.getD mid d) < 0) (h2:∀k,mid < k->k < b->¬ c (l.getD k d) (l.getD mid d) < 0)
  (hs:Seg d l m (mid + 1) b) (ha:Asc c d m (mid + 1) b):PQ c d l0 m a0 b0 a mid:=by
 have e0:=h.ha
 have e1:=h.hb
 have em:m.getD mid d=l.getD mid d:=hs.out mid (by omega)
 have up:∀q,mid < q->q < b->¬ c (m.getD q d) (m.getD mid d) < 0:=fun q g1 g2=>by
  obtain ⟨k',g3,g4,e⟩:=hs.mem q (by omega) g2
  rw [em,e]; exact h2 k' (by omega) g4
 have below:∀k,a<=k->k < mid->¬ c (m.getD mid d) (m.getD k d) < 0:=fun k g1 g2=>by
  rw [em,hs.out k (by omega)]; exact ho.asy _ _ (h1 k g1 g2)
 have t1:=hs.sep h.s1 (.inr (.inl ⟨by omega,e1⟩))
 have t2:=hs.sep h.s2 (.inl ⟨by omega,Nat.le_refl _⟩)
 have t3:=hs.asc h.hi (.inr (Nat.le_refl _))
 refine ⟨h.seg.trans (hs.wide (by omega) e1),e0,hm,by omega,hs.asc h.lo (.inl (by omega)),fun p q g1 g2 g3=>?_,t1,fun p q g1 g2 g3 g4=>?_,fun h0 k g1 g2=>?_⟩
 ·by_cases hq:q < b
  ·by_cases e:p=mid
   ·subst e; exact up q g2 hq
   ·exact ha p q (by omega) g2 hq
  ·by_cases hp:p < b
   ·exact t2 p q (by omega) hp (by omega) g3
   ·exact t3 p q (by omega) g2 g3
 ·by_cases hq:b<=q
  ·exact t2 p q g1 (by omega) hq g4
  ·by_cases hp:p < a
   ·exact t1 p q g1 hp (by omega) g4
   ·have u:=below p (by omega) g2
    by_cases e:q=mid
    ·subst e; exact u
    ·exact ho.tr _ _ _ (up q (by omega) (by omega)) u
 ·rw [hs.out k (by omega),hs.out (a - 1) (by omega)]; exact h.pre h0 k g1 (by omega)
/-- Where the pivot is no greater than what lies ahead, the elements equal to it go to the front. -/
theorem PQ.equ (ho:Ord c) (h:PQ c d l0 l a0 b0 a b) (h0:0 < a) (hm:a < mid) (hm':mid<=b) {x:α} (hx:¬ c (l.getD (a - 1) d) x < 0) (hs:Seg d l m a b)
  (h1:∀k,a<=k->k < mid->¬ c x (m.getD k d) < 0) (h2:∀k,mid<=k->k < b->c x (m.getD k d) < 0):PQ c d l0 m a0 b0 mid b:=by
 have h':=h.change hs
 have e0:=h.ha
 have e1:=h.hb
 have ex:¬ c (m.getD (a - 1) d) x < 0:=by rw [hs.out (a - 1) (by omega)]; exact hx
 have pr:=h'.pre h0
 refine ⟨h'.seg,by omega,hm',e1,h'.lo.join (m:=a) (fun p q g1 g2 g3=>?_) fun p q g1 g2 g3 g4=>h'.s1 p q g1 g2 g3 (by omega),h'.hi,fun p q g1 g2 g3 g4=>?_,h'.s2,fun _ k g1 g2=>?_⟩
 ·exact ho.tr _ _ _ (pr q (by omega) (by omega)) (ho.tr _ _ _ ex (h1 p g1 (by omega)))
 ·by_cases hq:b<=q
  ·exact h'.s2 p q g1 (by omega) hq g4
  ·by_cases hp:p < a
   ·exact h'.s1 p q g1 hp (by omega) g4
   ·exact ho.tr _ _ _ (ho.asy _ _ (h2 q g3 (by omega))) (h1 p (by omega) g2)
 ·exact ho.tr _ _ _ (ho.asy _ _ (h2 k g1 g2)) (h1 (mid - 1) (by omega) (by omega))
/-- The second half of a heap sort: a heap in front, the greatest behind, in order. -/
structure HQ (c:α->α->Int) (d:α) (l:List α) (f i n:Nat):Prop where
 hp:Hp c d l f 0 i none
 asc:Asc c d l (f + i) (f + n)
 sep:Sep c d l f (f + i) (f + n)
theorem HQ.start {f n:Nat} (h:Hp c d l f 0 n none):HQ c d l f n n:=⟨h,.short (by omega),fun p q h1 h2 h3 h4=>by omega⟩
theorem HQ.step (ho:Ord c) {f k n:Nat} (h:HQ c d l f (k + 1) n) (hk:k + 1<=n) (hl:f + n<=l.length) (hs:Seg d (swp d l f (f + k)) m f (f + k)) (hm:Hp c d m f 0 k none):HQ c d m f k n:=by
 have ha:=fun x=>swp_at (d:=d) (l:=l) (i:=f) (j:=f + k) (k:=x) (by omega) (by omega)
 have out:∀q,f + k < q->m.getD q d=l.getD q d:=fun q hq=>by rw [hs.out q (by omega),ha,if_neg (by omega),if_neg (by omega)]
 have top:m.getD (f + k) d=l.getD f d:=by rw [hs.out (f + k) (by omega),ha,if_pos rfl]
 refine ⟨hm,fun p q g1 g2 g3=>?_,fun p q g1 g2 g3 g4=>?_⟩
 ·rw [out q (by omega)]
  by_cases e:p=f + k
  ·rw [e,top]; exact h.sep f q (Nat.le_refl _) (by omega) (by omega) g3
  ·rw [out p (by omega)]; exact h.asc p q (by omega) g2 g3
 ·have hp:∃j,j < k + 1/\m.getD p d=l.getD (f + j) d:=by
   obtain ⟨p',e1,e2,e⟩:=hs.mem p g1 g2
   rw [e,ha,if_neg (by omega)]
   split
   ·exact ⟨k,by omega,rfl⟩
   ·exact ⟨p' - f,by omega,by rw [show f + (p' - f)=p' by omega]⟩
  obtain ⟨j,hj,e⟩:=hp
  rw [e]
  by_cases eq:q=f + k
  ·rw [eq,top]; exact h.hp.top ho j hj
  ·rw [out q (by omega)]; exact h.sep (f + j) q (by omega) (by omega) (by omega) g4
theorem HQ.fin {f n:Nat} (h:HQ c d l f 0 n):Asc c d l f (f + n):=by have:=h.asc; simpa using this
/-- A partition in progress: the pivot at a, the elements with P ahead of i, the others behind j. -/
structure PT (P:α->Prop) (d:α) (l:List α) (a b i j:Nat):Prop where
 hi:a < i
 hij:i<=j + 1
 hj:j < b
 lo:∀k,a < k->k < i->P (l.getD k d)
 up:∀k,j < k->k < b->¬ P (l.getD k d)
variable {P:α->Prop} {i j:Nat}
theorem PT.start (h:a + 1 < b):PT P d l a b (a + 1) (b - 1):=⟨by omega,by omega,by omega,fun k h1 h2=>by omega,fun k h1 h2=>by omega⟩
theorem PT.incr (h:PT P d l a b i j) (hij:i<=j) (hp:P (l.getD i d)):PT P d l a b (i + 1) j:=⟨by have:=h.hi; omega,by omega,h.hj,fun k h1 h2=>by
 by_cases e:k=i
 ·subst e; exact hp
 ·exact h.lo k h1 (by omega),h.up⟩
theorem PT.decr (h:PT P d l a b i j) (hij:i<=j) (hp:¬ P (l.getD j d)):PT P d l a b i (j - 1):=⟨h.hi,by omega,by have:=h.hj; omega,h.lo,fun k h1 h2=>by
 by_cases e:k=j
 ·subst e; exact hp
 ·exact h.up k (by have:=h.hi; omega) h2⟩
theorem PT.swap (h:PT P d l a b i j) (hij:i<=j) (hl:b<=l.length) (h1:¬ P (l.getD i d)) (h2:P (l.getD j d)):PT P d (swp d l i j) a b (i + 1) (j - 1)/\(swp d l i j).getD a d=l.getD a d/\Seg d l (swp d l i j) a b:=by
 have e0:=h.hi
 have e1:=h.hj
 have ne:i≠j:=fun e=>h1 (e ▸ h2)
 have ha:=fun x=>swp_at (d:=d) (l:=l) (i:=i) (j:=j) (k:=x) (by omega) (by omega)
 refine ⟨⟨by omega,by omega,by omega,fun k g1 g2=>?_,fun k g1 g2=>?_⟩,by rw [ha,if_neg (by omega),if_neg (by omega)],Seg.swp (by omega) (by omega) (by omega) e1 hl⟩
 ·rw [ha,if_neg (by omega)]
  by_cases e:k=i
  ·rw [if_pos e]; exact h2
  ·rw [if_neg e]; exact h.lo k g1 (by omega)
 ·rw [ha]
  by_cases e:k=j
  ·rw [if_pos e]; exact h1
  ·rw [if_neg e,if_neg (by omega)]; exact h.up k (by omega) g2
/-- The end: the pivot goes between the parts. -/
theorem PT.fin (ho:Ord c) (h:PT (fun x=>c x (l.getD a d) < 0) d l a b i j) (hij:¬ i<=j) (hl:b<=l.length):Seg d l (swp d l j a) a b/\a<=j/\j < b /\
  (∀k,a<=k->k < j->c ((swp d l j a).getD k d) ((swp d l j a).getD j d) < 0)/\(∀k,j < k->k < b->¬ c ((swp d l j a).getD k d) ((swp d l j a).getD j d) < 0):=by
 have e0:=h.hi
 have e1:=h.hij
 have e2:=h.hj
 have ha:=fun x=>swp_at (d:=d) (l:=l) (i:=j) (j:=a) (k:=x) (by omega) (by omega)
 have ej:(swp d l j a).getD j d=l.getD a d:=by
  rw [ha]
  by_cases e:j=a
  ·rw [if_pos e,e]
  ·rw [if_neg e,if_pos rfl]
 refine ⟨Seg.swp (by omega) e2 (Nat.le_refl _) (by omega) hl,by omega,e2,fun k g1 g2=>?_,fun k g1 g2=>?_⟩
 ·rw [ej,ha]
  by_cases e:k=a
  ·rw [if_pos e]; exact h.lo j (by omega) (by omega)
  ·rw [if_neg e,if_neg (by omega)]; exact h.lo k (by omega) (by omega)
 ·rw [ej,ha,if_neg (by omega),if_neg (by omega)]; exact h.up k g1 g2
end
end Go.Proofs.Tryz
/- Rows whose elements change places. -/
namespace Go.Eng
open Go.Proofs.Tryz
variable {α:Type} {sz:Nat} {R:View->Value->α->Prop} {V V':View} {d:α}
theorem Row.get {vs:List Value} {al:List α} (h:Row sz R V vs al) {i:Nat} (hi:i < al.length) (hs:0 < sz) :
  ∃xs:List Value,xs.length=sz/\R V (.agg xs.toArray) (al.getD i d)/\i * sz + sz<=vs.length/\(vs.drop (i * sz)).take sz=xs:=by
 obtain ⟨xs,h1,h2,h3⟩:=h.at_ i hi
 have hl:=h.len_le hs
 have:(i + 1) * sz<=al.length * sz:=Nat.mul_le_mul_right _ hi
 rw [Nat.succ_mul] at this
 refine ⟨xs,h1,by simpa [List.getD_eq_getElem?_getD,hi] using h2,by omega,?_⟩
 apply List.ext_getElem?
 intro j
 rw [List.getElem?_take]
 split
 ·rename_i hj
  rw [List.getElem?_drop]
  have hx:j < xs.length:=by omega
  rw [h3 j _ (List.getElem?_eq_getElem hx),List.getElem?_eq_getElem hx]
 ·rename_i hj
  rw [List.getElem?_eq_none (by omega)]
theorem Row.put {vs:List Value} {al:List α} (h:Row sz R V vs al) {i:Nat} (hi:i < al.length) (hs:0 < sz) {xs:List Value} {a:α} (hx:xs.length=sz) (ha:R V (.agg xs.toArray) a) :
  Row sz R V (setVals vs (i * sz) xs) (al.set i a):=by
 have hl:=h.len_le hs
 have h9:∀k,k < al.length->k * sz + sz<=vs.length:=fun k hk=>by
  have:(k + 1) * sz<=al.length * sz:=Nat.mul_le_mul_right _ hk
  rw [Nat.succ_mul] at this
  omega
 have hi9:=h9 i hi
 rw [setVals_eq (by omega)]
 have ht:(vs.take (i * sz)).length=i * sz:=by rw [List.length_take]; omega
 refine ⟨fun k hk=>?_⟩
 rw [List.length_set] at hk
 by_cases e:k=i
 ·subst e
  refine ⟨xs,hx,by simpa using ha,fun j x hj=>?_⟩
  have hj':=(List.getElem?_eq_some_iff.1 hj).1
  rw [List.append_assoc,List.getElem?_append_right (by omega),ht,Nat.add_sub_cancel_left,List.getElem?_append_left hj']
  exact hj
 ·obtain ⟨ys,y1,y2,y3⟩:=h.at_ k hk
  refine ⟨ys,y1,by rw [List.getElem_set_ne (fun e'=>e e'.symm)]; exact y2,fun j x hj=>?_⟩
  have hj':=(List.getElem?_eq_some_iff.1 hj).1
  by_cases lt:k < i
  ·have:(k + 1) * sz<=i * sz:=Nat.mul_le_mul_right _ lt
   rw [Nat.succ_mul] at this
   rw [List.append_assoc,List.getElem?_append_left (by omega),List.getElem?_take,if_pos (by omega)]
   exact y3 j x hj
  ·have:(i + 1) * sz<=k * sz:=Nat.mul_le_mul_right _ (by omega)
   rw [Nat.succ_mul] at this
   rw [List.getElem?_append_right (by rw [List.length_append]; omega),List.length_append,ht,hx,List.getElem?_drop]
   rw [show i * sz + sz + (k * sz + j - (i * sz + sz))=k * sz + j by omega]
   exact y3 j x hj
theorem setVals_len {vs xs:List Value} {o:Nat} (h:o + xs.length<=vs.length):(setVals vs o xs).length=vs.length:=by
 rw [setVals_eq h]; simp only [List.length_append,List.length_take,List.length_drop]; omega
/-- Two elements change places. -/
theorem Row.swap {vs:List Value} {al:List α} (h:Row sz R V vs al) {i j:Nat} (hi:i < al.length) (hj:j < al.length) (hs:0 < sz) {xs ys:List Value} (hx:xs.length=sz) (hy:ys.length=sz) (h1:R V (.agg xs.toArray) (al.getD i d)) (h2:R V (.agg ys.toArray) (al.getD j d)) :
  Row sz R V (setVals (setVals vs (i * sz) ys) (j * sz) xs) (swp d al i j):=by
 have:=h.put hi hs hy h2
 exact this.put (by simpa using hj) hs hx h1
end Go.Eng
/- Plain: sweeping over sorted changes makes the regular set of an operator. -/
namespace Go.Proofs.Tryz
open Go.Eng Go.Big
abbrev Chg:=Rat × Int × Int
def chg1 (k:Int) (s:Sp):List Chg:=(if s.a then [] else [(s.lo,k,1)])++(if s.b then [] else [(s.hi,k,-1)])
def chgL (A B:List Sp):List Chg:=A.flatMap (chg1 0)++B.flatMap (chg1 1)
def op0:List Sp->Int
 | []=>0
 | s :: r=>(if s.a then 1 else 0) + op0 r
/-- The sum of the changes of one list, of those below t. -/
def sumB (k:Int):List Chg->Rat->Int
 | [],_=>0
 | c :: r,t=>(if c.2.1=k/\c.1 < t then c.2.2 else 0) + sumB k r t
def sumA (k:Int):List Chg->Int
 | []=>0
 | c :: r=>(if c.2.1=k then c.2.2 else 0) + sumA k r
theorem sumB_perm {k:Int} {t:Rat} {l m:List Chg} (h:l.Perm m):sumB k l t=sumB k m t:=by
 induction h with
 | nil=>rfl
 | cons x _ ih=>simp only [sumB,ih]
 | swap x y l=>simp only [sumB]; omega
 | trans _ _ h1 h2=>exact h1.trans h2
theorem sumB_app {k:Int} {t:Rat}:∀{l m:List Chg},sumB k (l++m) t=sumB k l t + sumB k m t
 | [],m=>by simp [sumB]
 | c :: r,m=>by simp only [List.cons_append,sumB,sumB_app (l:=r)]; omega
theorem sumA_app {k:Int}:∀{l m:List Chg},sumA k (l++m)=sumA k l + sumA k m
 | [],m=>by simp [sumA]
 | c :: r,m=>by simp only [List.cons_append,sumA,sumA_app (l:=r)]; omega
theorem sumB_all {k:Int} {t:Rat}:∀{l:List Chg},(∀c ∈ l,c.1 < t)->sumB k l t=sumA k l
 | [],_=>rfl
 | c :: r,h=>by
  simp only [sumB,sumA,sumB_all (l:=r) fun x hx=>h x (by simp [hx]),h c (by simp),and_true]
theorem sumB_none {k:Int} {t:Rat}:∀{l:List Chg},(∀c ∈ l,¬ c.1 < t)->sumB k l t=0
 | [],_=>rfl
 | c :: r,h=>by
  simp only [sumB,sumB_none (l:=r) fun x hx=>h x (by simp [hx]),h c (by simp),and_false,if_false]; omega
theorem sumB_other {k k':Int} {t:Rat} (hk:k≠k'):∀{l:List Sp},sumB k (l.flatMap (chg1 k')) t=0
 | []=>rfl
 | s :: r=>by
  rw [List.flatMap_cons,sumB_app,sumB_other hk (l:=r)]
  have hk':¬ k'=k:=fun e=>hk e.symm
  unfold chg1
  cases s.a <;> cases s.b <;> simp [sumB,hk']
theorem sumB_own {k:Int} {t:Rat}:∀{l:List Sp},(∀s ∈ l,s.good)->(∀s ∈ l,¬ s.isEnd t)->op0 l + sumB k (l.flatMap (chg1 k)) t=(l.countP fun s=>s.innB t:Nat)
 | [],_,_=>rfl
 | s :: r,hg,he=>by
  have ih:=sumB_own (k:=k) (t:=t) (l:=r) (fun x hx=>hg x (by simp [hx])) fun x hx=>he x (by simp [hx])
  have hs:=(hg s (by simp)).2
  have hn:=he s (by simp)
  rw [List.flatMap_cons,sumB_app,List.countP_cons]
  simp only [op0]
  rw [Sp.emp_iff] at hs
  unfold Sp.isEnd at hn
  have key:(if s.a=true then (1:Int) else 0) + sumB k (chg1 k s) t=(if s.innB t=true then 1 else 0:Nat):=by
   unfold chg1 Sp.innB
   cases ha:s.a <;> cases hb:s.b <;> simp [ha,hb] at hs hn <;> simp [sumB] <;> (try (by_cases h1:s.lo < t)) <;> (try (by_cases h2:s.hi < t)) <;> (try (by_cases h3:t < s.hi)) <;> simp_all <;> grind
  omega
theorem count_in {l:List Sp} {t:Rat}:decide ((0:Int) < (l.countP fun s=>s.innB t:Nat))=inB l t:=by
 refine bool_eq ⟨fun h=>?_,fun h=>?_⟩
 ·have h:=of_decide_eq_true h
  have:0 < l.countP fun s=>s.innB t:=by omega
  obtain ⟨s,hs,h⟩:=List.countP_pos_iff.1 this
  exact List.any_eq_true.2 ⟨s,hs,h⟩
 ·obtain ⟨s,hs,h⟩:=List.any_eq_true.1 h
  have:0 < l.countP fun s=>s.innB t:=List.countP_pos_iff.2 ⟨s,hs,h⟩
  exact decide_eq_true (by omega)
theorem chg_mem {A B:List Sp} {c:Chg}:c ∈ chgL A B->∃s ∈ A++B,s.isEnd c.1:=by
 intro h
 have one:∀{k:Int} {s:Sp},c ∈ chg1 k s->s.isEnd c.1:=fun {k s} h=>by
  unfold chg1 at h
  unfold Sp.isEnd
  cases ha:s.a <;> cases hb:s.b <;> simp [ha,hb] at h ⊢
  ·rcases h with rfl | rfl <;> simp
  ·subst h; rfl
  ·subst h; rfl
 rcases List.mem_append.1 h with h | h
 ·obtain ⟨s,hs,h⟩:=List.mem_flatMap.1 h
  exact ⟨s,List.mem_append_left _ hs,one h⟩
 ·obtain ⟨s,hs,h⟩:=List.mem_flatMap.1 h
  exact ⟨s,List.mem_append_right _ hs,one h⟩
def endOf (s:Sp):Sp:=⟨s.lo,0,s.a,true⟩
def swR (was:Bool) (last:Sp) (out:List Sp):List Sp:=out++if was then [endOf last] else []
def accT (acc:Bool->Bool->Bool) (A B:List Sp) (t:Rat):Bool:=acc (inB A t) (inB B t)
/-- Ahead of change i: what was made so far is right below it. -/
structure SwI (acc:Bool->Bool->Bool) (A B:List Sp) (cs:List Chg) (i:Nat) (was:Bool) (last:Sp) (out:List Sp):Prop where
 rg:reg (swR was last out)
 lo:∀s ∈ swR was last out,∀h:i < cs.length,s.a=false->s.lo < cs[i].1
 hi:∀s ∈ out,s.b=false/\∀h:i < cs.length,s.hi < cs[i].1
 inn:∀t,(∀s ∈ A++B,¬ s.isEnd t)->(∀h:i < cs.length,t < cs[i].1)->inB (swR was last out) t=accT acc A B t
 fr:was=true->last.hi=0/\last.b=false
section
variable {acc:Bool->Bool->Bool} {A B:List Sp} {cs:List Chg} {i:Nat} {was:Bool} {last:Sp} {out:List Sp}
/-- Between two changes the counts tell what is inside. -/
theorem sw_now (hp:cs.Perm (chgL A B)) (hA:∀s ∈ A,s.good) (hB:∀s ∈ B,s.good) (hs:cs.Pairwise fun x y=>x.1<=y.1) {t:Rat} (ht:∀s ∈ A++B,¬ s.isEnd t)
  (h1:∀c ∈ cs.take i,c.1 < t) (h2:∀h:i < cs.length,t < cs[i].1) :
  acc (decide ((0:Int) < op0 A + sumA 0 (cs.take i))) (decide ((0:Int) < op0 B + sumA 1 (cs.take i)))=accT acc A B t:=by
 have h3:∀c ∈ cs.drop i,¬ c.1 < t:=by
  intro c hc
  by_cases hi:i < cs.length
  ·obtain ⟨j,hj,rfl⟩:=List.getElem_of_mem hc
   rw [List.getElem_drop]
   have hl:=h2 hi
   rw [List.length_drop] at hj
   rcases Nat.eq_zero_or_pos j with rfl | h0
   ·simp only [Nat.add_zero]; grind
   ·have:=List.pairwise_iff_getElem.1 hs i (i + j) hi (by omega) (by omega)
    grind
  ·rw [List.drop_eq_nil_of_le (by omega)] at hc; cases hc
 have e:∀k,sumA k (cs.take i)=sumB k (chgL A B) t:=fun k=>by
  rw [← sumB_perm hp,← sumB_all h1]
  conv=>rhs; rw [← List.take_append_drop i cs]
  rw [sumB_app,sumB_none h3]; omega
 have a1:=sumB_own (k:=0) (t:=t) hA fun s hs=>ht s (List.mem_append_left _ hs)
 have b1:=sumB_own (k:=1) (t:=t) hB fun s hs=>ht s (List.mem_append_right _ hs)
 have a2:sumB 0 (B.flatMap (chg1 1)) t=0:=sumB_other (by decide)
 have b2:sumB 1 (A.flatMap (chg1 0)) t=0:=sumB_other (by decide)
 rw [e,e]
 unfold chgL accT
 rw [sumB_app,sumB_app,a2,b2,← count_in,← count_in,← a1,← b1,Int.add_zero,Int.zero_add]
theorem inB_app {x y:List Sp} {t:Rat}:inB (x++y) t=(inB x t || inB y t):=by unfold inB; rw [List.any_append]
theorem sw_start {was:Bool} (hw:was=acc (decide ((0:Int) < op0 A)) (decide ((0:Int) < op0 B))) (hp:cs.Perm (chgL A B)) (hA:∀s ∈ A,s.good) (hB:∀s ∈ B,s.good) (hs:cs.Pairwise fun x y=>x.1<=y.1) :
  SwI acc A B cs 0 was ⟨0,0,true,false⟩ []:=by
 refine ⟨?_,fun s h _ ha=>?_,fun s h=>(by cases h),fun t ht h2=>?_,fun _=>⟨rfl,rfl⟩⟩
 ·unfold swR
  cases was
  ·exact ⟨fun s h=>by simp at h,by simp⟩
  ·refine ⟨fun s h=>?_,by simp⟩
   obtain rfl:s=endOf ⟨0,0,true,false⟩:=by simpa using h
   exact ⟨⟨fun _=>rfl,fun _=>rfl⟩,rfl⟩
 ·unfold swR at h
  cases was <;> simp at h
  subst h
  cases ha
 ·have:=sw_now (acc:=acc) (i:=0) hp hA hB hs ht (fun c hc=>by simp at hc) h2
  simp only [List.take_zero,sumA,Int.add_zero] at this
  rw [← this,← hw]
  unfold swR endOf inB Sp.innB
  cases was <;> simp
/-- A change whose number comes again. -/
theorem sw_skip (h:SwI acc A B cs i was last out) (hi:i + 1 < cs.length) (he:cs[i].1=cs[i + 1].1):SwI acc A B cs (i + 1) was last out:=
 ⟨h.rg,fun s hs _ ha=>by rw [← he]; exact h.lo s hs (by omega) ha,fun s hs=>⟨(h.hi s hs).1,fun _=>by rw [← he]; exact (h.hi s hs).2 (by omega)⟩,
  fun t ht h2=>h.inn t ht fun _=>by rw [he]; exact h2 hi,h.fr⟩
theorem out_not (h:SwI acc A B cs i was last out) (hi:i < cs.length) {t:Rat} (ht:cs[i].1 < t):inB out t=false:=by
 refine Bool.eq_false_iff.2 fun he=>?_
 obtain ⟨s,hs,h'⟩:=List.any_eq_true.1 he
 obtain ⟨h1,h2⟩:=h.hi s hs
 have:=h2 hi
 rw [innB_iff] at h'
 obtain ⟨-,h3⟩:=h'
 rw [h1] at h3
 simp at h3
 grind
def swLast (was now:Bool) (last:Sp) (x:Rat):Sp:=if now && !was then ⟨x,0,false,false⟩ else if was && !now then ⟨last.lo,x,last.a,last.b⟩ else last
def swOut (was now:Bool) (last:Sp) (x:Rat) (out:List Sp):List Sp:=if was && !now then out++[⟨last.lo,x,last.a,last.b⟩] else out
/-- A change is done. -/
theorem sw_step (h:SwI acc A B cs i was last out) (hi:i < cs.length) (hn:∀h:i + 1 < cs.length,cs[i].1 < cs[i + 1].1) (hp:cs.Perm (chgL A B)) (hA:∀s ∈ A,s.good) (hB:∀s ∈ B,s.good) (hs:cs.Pairwise fun x y=>x.1<=y.1)
  {now:Bool} (hw:now=acc (decide ((0:Int) < op0 A + sumA 0 (cs.take (i + 1)))) (decide ((0:Int) < op0 B + sumA 1 (cs.take (i + 1))))) :
  SwI acc A B cs (i + 1) now (swLast was now last cs[i].1) (swOut was now last cs[i].1 out):=by
 have hE:∃s ∈ A++B,s.isEnd cs[i].1:=chg_mem (hp.mem_iff.1 (List.getElem_mem hi))
 have above:∀t,(∀s ∈ A++B,¬ s.isEnd t)->cs[i].1 < t->(∀h:i + 1 < cs.length,t < cs[i + 1].1)->accT acc A B t=now:=fun t ht h1 h2=>by
  rw [hw,sw_now (acc:=acc) hp hA hB hs ht (fun c hc=>?_) h2]
  obtain ⟨j,hj,rfl⟩:=List.getElem_of_mem hc
  rw [List.length_take] at hj
  rw [List.getElem_take]
  by_cases e:j=i
  ·subst e; exact h1
  ·have:=List.pairwise_iff_getElem.1 hs j i (by omega) hi (by omega)
   grind
 have apart:∀t,(∀s ∈ A++B,¬ s.isEnd t)->t < cs[i].1 \/ cs[i].1 < t:=fun t ht=>by
  obtain ⟨s,h1,h2⟩:=hE
  have:t≠cs[i].1:=fun e=>ht s h1 (e ▸ h2)
  grind
 have on:∀{t:Rat},cs[i].1 < t->inB out t=false:=fun {t}=>out_not (t:=t) h hi
 have hlo:∀s ∈ swR was last out,s.a=false->s.lo < cs[i].1:=fun s hs ha=>h.lo s hs hi ha
 have hhi:∀s ∈ out,s.hi < cs[i].1:=fun s hs=>(h.hi s hs).2 hi
 have hb:∀s ∈ out,s.b=false:=fun s hs=>(h.hi s hs).1
 have inn:∀t,(∀s ∈ A++B,¬ s.isEnd t)->t < cs[i].1->inB (swR was last out) t=accT acc A B t:=fun t ht h1=>h.inn t ht fun _=>h1
 have hrg:=h.rg
 have hfr:=h.fr
 generalize cs[i].1=x at *
 clear hE hw hp hs h
 unfold swLast swOut
 cases was <;> cases now <;> simp only [Bool.not_true,Bool.not_false,Bool.and_true,Bool.and_false,Bool.false_eq_true,if_true,if_false] <;> unfold swR at * <;> simp only [Bool.false_eq_true,if_true,if_false,List.append_nil] at *
 ·
  refine ⟨by simpa [swR] using hrg,fun s hs h1 ha=>?_,fun s hs=>⟨hb s hs,fun h1=>?_⟩,fun t ht h2=>?_,fun h=>nomatch h⟩
  ·have:=hlo s (by simpa [swR] using hs) ha; have:=hn h1; grind
  ·have:=hhi s hs; have:=hn h1; grind
  ·simp only [swR,Bool.false_eq_true,if_false,List.append_nil]
   rcases apart t ht with h3 | h3
   ·exact inn t ht h3
   ·rw [above t ht h3 h2,on h3]
 ·
  have e:inB (out++[endOf ⟨x,0,false,false⟩])=fun t=>inB out t || decide (x < t):=by
   funext t; rw [inB_app]; unfold inB endOf Sp.innB; simp
  refine ⟨?_,fun s hs h1 ha=>?_,fun s hs=>⟨hb s hs,fun h1=>?_⟩,fun t ht h2=>?_,fun _=>⟨rfl,rfl⟩⟩
  ·simp only [swR,if_true]
   exact reg_snoc hrg ⟨⟨(fun h=>nomatch h),fun _=>rfl⟩,rfl⟩ fun y hy=>⟨hb y hy,rfl,hhi y hy⟩
  ·simp only [swR,if_true] at hs
   rcases List.mem_append.1 hs with hs | hs
   ·have:=hlo s hs ha; have:=hn h1; grind
   ·obtain rfl:s=endOf ⟨x,0,false,false⟩:=by simpa using hs
    exact hn h1
  ·have:=hhi s hs; have:=hn h1; grind
  ·simp only [swR,if_true]
   rw [e]
   dsimp only
   rcases apart t ht with h3 | h3
   ·rw [inn t ht h3,decide_eq_false (by grind),Bool.or_false]
   ·rw [above t ht h3 h2,decide_eq_true h3,Bool.or_true]
 ·
  obtain ⟨f1,f2⟩:last.hi=0/\last.b=false:=by simpa using hfr
  obtain ⟨r1,r2,r3⟩:=reg_init hrg
  have l1:last.a=false->last.lo < x:=fun ha=>hlo (endOf last) (by simp) ha
  have e:inB (out++[(⟨last.lo,x,last.a,last.b⟩:Sp)])=fun t=>inB out t || ((last.a || decide (last.lo < t)) && decide (t < x)):=by
   funext t; rw [inB_app]; unfold inB Sp.innB; simp [f2]
  have e0:inB (out++[endOf last])=fun t=>inB out t || (last.a || decide (last.lo < t)):=by
   funext t; rw [inB_app]; unfold inB endOf Sp.innB; simp
  refine ⟨?_,fun s hs h1 ha=>?_,fun s hs=>?_,fun t ht h2=>?_,fun h=>nomatch h⟩
  ·simp only [swR,Bool.false_eq_true,if_false,List.append_nil]
   refine reg_snoc r1 ⟨⟨fun h=>r2.1.1 h,fun h=>by rw [f2] at h; cases h⟩,?_⟩ fun y hy=>⟨hb y hy,(r3 y hy).2.1,(r3 y hy).2.2⟩
   rw [Sp.emp_iff]
   cases ha:last.a
   ·exact .inr (.inr (l1 ha))
   ·exact .inl rfl
  ·simp only [swR,Bool.false_eq_true,if_false,List.append_nil] at hs
   have:=hn h1
   rcases List.mem_append.1 hs with hs | hs
   ·have:=hlo s (List.mem_append_left _ hs) ha; grind
   ·obtain rfl:s=⟨last.lo,x,last.a,last.b⟩:=by simpa using hs
    have:=l1 ha; dsimp only; grind
  ·rcases List.mem_append.1 hs with hs | hs
   ·exact ⟨hb s hs,fun h1=>by have:=hhi s hs; have:=hn h1; grind⟩
   ·obtain rfl:s=⟨last.lo,x,last.a,last.b⟩:=by simpa using hs
    exact ⟨f2,fun h1=>hn h1⟩
  ·simp only [swR,Bool.false_eq_true,if_false,List.append_nil]
   rw [e]
   dsimp only
   rcases apart t ht with h3 | h3
   ·rw [← inn t ht h3,e0,decide_eq_true h3,Bool.and_true]
   ·rw [above t ht h3 h2,on h3,decide_eq_false (show ¬ t < x by grind),Bool.and_false]; rfl
 ·
  have e0:inB (out++[endOf last])=fun t=>inB out t || (last.a || decide (last.lo < t)):=by
   funext t; rw [inB_app]; unfold inB endOf Sp.innB; simp
  have l1:last.a=false->last.lo < x:=fun ha=>hlo (endOf last) (by simp) ha
  refine ⟨by simpa [swR] using hrg,fun s hs h1 ha=>?_,fun s hs=>⟨hb s hs,fun h1=>?_⟩,fun t ht h2=>?_,fun _=>by simpa using hfr⟩
  ·have:=hlo s (by simpa [swR] using hs) ha; have:=hn h1; grind
  ·have:=hhi s hs; have:=hn h1; grind
  ·simp only [swR,if_true]
   rcases apart t ht with h3 | h3
   ·exact inn t ht h3
   ·rw [above t ht h3 h2,e0]
    dsimp only
    cases ha:last.a
    ·have:=l1 ha
     rw [decide_eq_true (show last.lo < t by grind)]; simp
    ·simp
end
end Go.Proofs.Tryz
