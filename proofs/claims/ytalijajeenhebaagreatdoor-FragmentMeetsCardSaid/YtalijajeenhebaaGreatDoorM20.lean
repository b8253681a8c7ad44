/- A part of the proof (joined by program from: CombF, SetQ, MeetP, CombG, MeetB). -/
import Derived.Test.YtalijajeenhebaaGreatDoorM19
import Derived.Test.YtalijajeenhebaaGreatDoorM18
set_option linter.unusedVariables false
open Go.IntKind (i64 u64 u32)
/- Contract: the reference's From. By program (tools/mkcf.py). -/
namespace Go.Proofs.Tryz
open Go.Eng Go.Big
theorem rq_zero (V:View):RQ V (.agg #[.bool false,.slice none 0 0,.slice none 0 0]) 0:=by have:=RQ.zero (V:=V); simpa using this
set_option maxHeartbeats 1000000 in
theorem c_ref06_From {V:View} {p q:OA} {n c m e:Nat} {cuts:List Rat} {marks:List Bool} (hc:Lst 3 RQ V p n cuts) (hm:Lst 1 RBl V q m marks) (hlen:marks.length=cuts.length + 1) (hn:cuts.length < 100000000) :
  Acts prog 150 #[.slice p n c,.slice q m e] V fun r V'=>∃p' n' c',r=.slice p' n' c'/\Lst 8 RSs V' p' n' (fromL cuts marks):=by
 obtain rfl:=hc.len
 obtain rfl:=hm.len
 refine vc_ref06_From p _ c q _ e V _ ⟨fun z V'=>∃i:Nat,z.2.2.2=(i:Int)/\i<=marks.length/\z.1=(fromI cuts marks i).length/\z.1<=z.2.1/\z.2.1 * 8<=z.2.2.1.length/\Row 8 RSs V' z.2.2.1 (fromI cuts marks i),fun z=>marks.length - z.2.2.2.toNat,
  ⟨(0,0,[],0),by and_intros <;> rfl,0,rfl,Nat.zero_le _,rfl,Nat.le_refl _,Nat.le_refl _,Row.nil⟩,?_⟩
 rintro ⟨z1,z2,vs,z4⟩ V1 l1 ⟨i,e4,ile,e1,ic,hv,hx⟩
 dsimp only at e4 e1 ic hv hx
 subst e4
 refine ⟨rfl,fun hlt=>?_,fun hlt V5 l5 bk hb=>?_⟩
 ·have hlt:(i:Int) < marks.length:=of_decide_eq_true hlt
  have hi:i < marks.length:=by omega
  have w:i64.wrap ((i:Int) + 1)=(i:Int) + 1:=i64w (by omega)
  have hol:=fromI_len cuts marks i
  have hgd:marks.getD i false=marks[i]:=by rw [List.getD_eq_getElem?_getD,List.getElem?_eq_getElem hi]; rfl
  have hs1:marks[i]=false->fromI cuts marks (i + 1)=fromI cuts marks i:=fun h=>by
   show (if marks.getD i false=true then _ else _)=_
   rw [hgd,h]; rfl
  have hs2:marks[i]=true->fromI cuts marks (i + 1)=if 0 < i/\marks.getD (i - 1) false=true/\0 < (fromI cuts marks i).length then lastHi (fromI cuts marks i) (gapS cuts i) else fromI cuts marks i++[gapS cuts i]:=fun h=>by
   show (if marks.getD i false=true then _ else _)=_
   rw [hgd,h]; rfl
  dsimp only
  rw [Int.toNat_natCast,w]
  obtain ⟨ad,ha,hat⟩:=rb_at (hm.le l1 fun _ _ g=>g) hi
  refine ⟨isSome_addr ha,⟨by omega,by omega⟩,marks[i],⟨ad,ha,hat⟩,fun hb=>?_,fun hb=>?_⟩
  ·rw [Bool.not_eq_true'] at hb
   exact ⟨(z1,z2,vs,(i:Int) + 1),by dsimp only; omega,by and_intros <;> rfl,i + 1,rfl,hi,by dsimp only; rw [hs1 hb]; exact e1,ic,hv,by dsimp only; rw [hs1 hb]; exact hx⟩
  ·rw [Bool.not_eq_false'] at hb
   have hs2:=hs2 hb
   generalize fromI cuts marks i=out at *
   generalize hO:fromI cuts marks (i + 1)=out' at *
   refine ⟨fun z V'=>RQ V' (.agg #[.bool z.1,.slice z.2.1 z.2.2.1 z.2.2.2.1,.slice z.2.2.2.2.1 z.2.2.2.2.2.1 z.2.2.2.2.2.2.1]) ((gapS cuts i).lo)/\RQ V' (.agg #[.bool z.2.2.2.2.2.2.2.1,.slice z.2.2.2.2.2.2.2.2.1 z.2.2.2.2.2.2.2.2.2.1 z.2.2.2.2.2.2.2.2.2.2.1,.slice z.2.2.2.2.2.2.2.2.2.2.2.1 z.2.2.2.2.2.2.2.2.2.2.2.2.1 z.2.2.2.2.2.2.2.2.2.2.2.2.2.1]) (0)/\z.2.2.2.2.2.2.2.2.2.2.2.2.2.2.1=decide (i=0)/\z.2.2.2.2.2.2.2.2.2.2.2.2.2.2.2=decide (i=cuts.length),⟨fun hp=>?_,fun hp=>⟨(false,none,0,0,none,0,0,false,none,0,0,none,0,0,(i:Int) == 0,(i:Int) == (cuts.length:Int)),by and_intros <;> rfl,?_⟩⟩,?_⟩
   ·have hp:(i:Int) > 0:=of_decide_eq_true hp
    have hi1:i - 1 < cuts.length:=by omega
    have w1:i64.wrap ((i:Int) - 1)=((i - 1:Nat):Int):=by rw [i64w (by omega)]; omega
    rw [w1,Int.toNat_natCast]
    obtain ⟨ad1,b1,p3,n3,c3,p4,n4,c4,ha1,hq1,b0,b1',b2⟩:=rq_at (hc.le l1 fun _ _ g=>g.le l1) hi1
    refine ⟨isSome_addr ha1,⟨by omega,by omega⟩,_,_,_,_,_,_,_,ad1,ha1,b0,b1',b2,(b1,p3,n3,c3,p4,n4,c4,false,none,0,0,none,0,0,(i:Int) == 0,(i:Int) == (cuts.length:Int)),by and_intros <;> rfl,?_,rq_zero _,?_,?_⟩
    ·show RQ V1 _ (if 0 < i then cuts.getD (i - 1) 0 else 0)
     rw [if_pos (by omega),getD_at hi1]; exact hq1
    ·show ((i:Int) == 0)=decide (i=0)
     rw [Bool.eq_iff_iff,beq_iff_eq,decide_eq_true_eq]; omega
    ·show ((i:Int) == (cuts.length:Int))=decide (i=cuts.length)
     rw [Bool.eq_iff_iff,beq_iff_eq,decide_eq_true_eq]; omega
   ·have hp:¬ (i:Int) > 0:=of_decide_eq_false hp
    refine ⟨?_,rq_zero _,?_,?_⟩
    ·show RQ V1 _ (if 0 < i then cuts.getD (i - 1) 0 else 0)
     rw [if_neg (by omega)]; exact rq_zero _
    ·show ((i:Int) == 0)=decide (i=0)
     rw [Bool.eq_iff_iff,beq_iff_eq,decide_eq_true_eq]; omega
    ·show ((i:Int) == (cuts.length:Int))=decide (i=cuts.length)
     rw [Bool.eq_iff_iff,beq_iff_eq,decide_eq_true_eq]; omega
   ·rintro ⟨x1,x2,x3,x4,x5,x6,x7,x8,x9,x10,x11,x12,x13,x14,x15,x16⟩ V2 l2 ⟨hA,hB,hC,hD⟩
    dsimp only at hA hB hC hD
    subst hC hD
    refine ⟨rfl,fun z V'=>RQ V' (.agg #[.bool z.1,.slice z.2.1 z.2.2.1 z.2.2.2.1,.slice z.2.2.2.2.1 z.2.2.2.2.2.1 z.2.2.2.2.2.2.1]) ((gapS cuts i).lo)/\RQ V' (.agg #[.bool z.2.2.2.2.2.2.2.1,.slice z.2.2.2.2.2.2.2.2.1 z.2.2.2.2.2.2.2.2.2.1 z.2.2.2.2.2.2.2.2.2.2.1,.slice z.2.2.2.2.2.2.2.2.2.2.2.1 z.2.2.2.2.2.2.2.2.2.2.2.2.1 z.2.2.2.2.2.2.2.2.2.2.2.2.2.1]) ((gapS cuts i).hi)/\z.2.2.2.2.2.2.2.2.2.2.2.2.2.2.1=decide (i=0)/\z.2.2.2.2.2.2.2.2.2.2.2.2.2.2.2=decide (i=cuts.length),⟨fun hp=>?_,fun hp=>⟨(x1,x2,x3,x4,x5,x6,x7,x8,x9,x10,x11,x12,x13,x14,decide (i=0),decide (i=cuts.length)),by and_intros <;> rfl,hA,?_,rfl,rfl⟩⟩,?_⟩
    ·have hp:(i:Int) < cuts.length:=of_decide_eq_true hp
     have hi1:i < cuts.length:=by omega
     obtain ⟨ad1,b1,p3,n3,c3,p4,n4,c4,ha1,hq1,b0,b1',b2⟩:=rq_at (hc.le (l1.trans l2) fun _ _ g=>g.le (l1.trans l2)) hi1
     refine ⟨isSome_addr ha1,⟨by omega,by omega⟩,_,_,_,_,_,_,_,ad1,ha1,b0,b1',b2,(x1,x2,x3,x4,x5,x6,x7,b1,p3,n3,c3,p4,n4,c4,decide (i=0),decide (i=cuts.length)),by and_intros <;> rfl,hA,?_,rfl,rfl⟩
     show RQ V2 _ (if i < cuts.length then cuts.getD i 0 else 0)
     rw [if_pos hi1,getD_at hi1]; exact hq1
    ·have hp:¬ (i:Int) < cuts.length:=of_decide_eq_false hp
     show RQ V2 _ (if i < cuts.length then cuts.getD i 0 else 0)
     rw [if_neg (by omega)]; exact hB
    ·rintro ⟨y1,y2,y3,y4,y5,y6,y7,y8,y9,y10,y11,y12,y13,y14,y15,y16⟩ V3 l3 ⟨kA,kB,kC,kD⟩
     dsimp only at kA kB kC kD
     subst kC kD
     refine ⟨rfl,fun z _=>z=decide (0 < i/\marks.getD (i - 1) false=true/\0 < out.length),⟨fun hp=>?_,fun hp=>⟨false,by and_intros <;> rfl,?_⟩⟩,?_⟩
     ·have hp:(i:Int) > 0:=of_decide_eq_true hp
      have hi1:i - 1 < marks.length:=by omega
      have w1:i64.wrap ((i:Int) - 1)=((i - 1:Nat):Int):=by rw [i64w (by omega)]; omega
      have hg1:marks.getD (i - 1) false=marks[i - 1]:=by rw [List.getD_eq_getElem?_getD,List.getElem?_eq_getElem hi1]; rfl
      rw [w1,Int.toNat_natCast,hg1]
      obtain ⟨ad1,ha1,hat1⟩:=rb_at (hm.le (l1.trans (l2.trans l3)) fun _ _ g=>g) hi1
      refine ⟨isSome_addr ha1,⟨by omega,by omega⟩,marks[i - 1],⟨ad1,ha1,hat1⟩,fun hb1=>⟨_,by and_intros <;> rfl,?_⟩,fun hb1=>⟨false,by and_intros <;> rfl,?_⟩⟩
      ·dsimp only
       rw [hb1,decide_eq_decide]
       constructor
       ·intro h; exact ⟨by omega,rfl,by omega⟩
       ·rintro ⟨_,_,h⟩; omega
      ·dsimp only
       rw [hb1]; simp
     ·have hp:¬ (i:Int) > 0:=of_decide_eq_false hp
      dsimp only
      rw [decide_eq_false]
      rintro ⟨h,_⟩; omega
     ·rintro z V4 l4 rfl
      have gA:RSs V4 (.agg #[.bool y1,.slice y2 y3 y4,.slice y5 y6 y7,.bool y8,.slice y9 y10 y11,.slice y12 y13 y14,.bool (decide (i=0)),.bool (decide (i=cuts.length))]) (gapS cuts i):=⟨_,_,_,_,_,_,_,_,_,_,_,_,_,_,rfl,kA.le l4,kB.le l4⟩
      have hx4:=hx.le (V':=V4) fun _ _ g=>RSs.le g (l2.trans (l3.trans l4))
      refine ⟨rfl,fun hz=>?_,fun hz=>?_⟩
      ·have hz:=of_decide_eq_true hz
       rw [if_pos hz] at hs2
       have w1:i64.wrap ((z1:Int) - 1)=((z1 - 1:Nat):Int):=by rw [i64w (by omega)]; omega
       rw [w1,Int.toNat_natCast]
       have hz1:0 < out.length:=hz.2.2
       have hxl:=hx4.len_le (by decide)
       have hi9:out.length - 1 < out.length:=by omega
       have hgl:out.getLastD Sp.zero=out[out.length - 1]:=by
        rw [List.getLastD_eq_getLast?,List.getLast?_eq_getElem?,List.getElem?_eq_getElem hi9]; rfl
       obtain ⟨xs0,-,hl0,hc0⟩:=hx4.at_ (out.length - 1) hi9
       obtain ⟨b,s1,s2,s3,s4,s5,s6,d,t1,t2,t3,t4,t5,t6,ex,hq1,hq2⟩:=rs_cells hl0
       subst ex
       have sv:=setVals_eq (vs:=vs) (xs:=[.bool y8,.slice y9 y10 y11,.slice y12 y13 y14]) (o:=(z1 - 1) * 8 + 3) (by simp only [List.length_cons,List.length_nil]; omega)
       have svl:(setVals vs ((z1 - 1) * 8 + 3) [.bool y8,.slice y9 y10 y11,.slice y12 y13 y14]).length=vs.length:=by
        rw [sv]; simp only [List.length_append,List.length_take,List.length_drop,List.length_cons,List.length_nil]; omega
       have sg:∀r,r < (z1 - 1) * 8 + 3 \/ (z1 - 1) * 8 + 6<=r->(setVals vs ((z1 - 1) * 8 + 3) [.bool y8,.slice y9 y10 y11,.slice y12 y13 y14])[r]?=vs[r]?:=by
        intro r hr
        rw [sv,List.append_assoc]
        have ht:(vs.take ((z1 - 1) * 8 + 3)).length=(z1 - 1) * 8 + 3:=by rw [List.length_take]; omega
        rcases hr with hr | hr
        ·rw [List.getElem?_append_left (by omega),List.getElem?_take,if_pos hr]
        ·rw [List.getElem?_append_right (by omega),List.getElem?_append_right (by rw [ht]; simp only [List.length_cons,List.length_nil]; omega),List.getElem?_drop,ht]
         congr 1
         simp only [List.length_cons,List.length_nil]; omega
       have sm:∀j x,([.bool y8,.slice y9 y10 y11,.slice y12 y13 y14]:List Value)[j]?=some x->(setVals vs ((z1 - 1) * 8 + 3) [.bool y8,.slice y9 y10 y11,.slice y12 y13 y14])[(z1 - 1) * 8 + 3 + j]?=some x:=by
        intro j x hj
        have hj':=(List.getElem?_eq_some_iff.1 hj).1
        have ht:(vs.take ((z1 - 1) * 8 + 3)).length=(z1 - 1) * 8 + 3:=by rw [List.length_take]; omega
        rw [sv,List.append_assoc,List.getElem?_append_right (by omega),ht,Nat.add_sub_cancel_left,List.getElem?_append_left hj']
        exact hj
       generalize setVals vs ((z1 - 1) * 8 + 3) [.bool y8,.slice y9 y10 y11,.slice y12 y13 y14]=us at *
       refine ⟨⟨by omega,by omega⟩,ic,by omega,⟨by omega,by omega⟩,ic,by omega,(z1,z2,us.set ((z1 - 1) * 8 + 7) (.bool (decide (i=cuts.length))),(i:Int) + 1),by dsimp only; omega,by and_intros <;> rfl,i + 1,rfl,hi,?_,ic,?_,?_⟩
       ·dsimp only
        rw [hO,hs2,lastHi_len hz1]; exact e1
       ·dsimp only
        rw [List.length_set,svl]; exact hv
       ·dsimp only
        rw [hO,hs2]
        unfold lastHi
        rw [hgl]
        refine row_last hx4 hz1 (xs:=[.bool b,.slice s1 s2 s3,.slice s4 s5 s6,.bool y8,.slice y9 y10 y11,.slice y12 y13 y14,.bool out[out.length - 1].a,.bool (gapS cuts i).b]) rfl ⟨_,_,_,_,_,_,_,_,_,_,_,_,_,_,rfl,hq1,kB.le l4⟩ ?_ ?_
        ·intro r hr
         rw [List.getElem?_set_ne (by omega),sg r (by omega)]
        ·intro j x hj
         have hj':=(List.getElem?_eq_some_iff.1 hj).1
         have hj8:j < 8:=hj'
         by_cases h7:j=7
         ·subst h7
          rw [show (out.length - 1) * 8 + 7=(z1 - 1) * 8 + 7 by omega,List.getElem?_set_self (by omega)]
          exact hj
         ·rw [List.getElem?_set_ne (by omega)]
          by_cases h3:j < 3 \/ j=6
          ·rw [sg _ (by omega)]
           have hc:=hc0 j x
           have:j=0 \/ j=1 \/ j=2 \/ j=6:=by omega
           rcases this with rfl | rfl | rfl | rfl <;> exact hc hj
          ·have:j=3 \/ j=4 \/ j=5:=by omega
           rcases this with rfl | rfl | rfl
           ·have:=sm 0 x hj
            rw [show (out.length - 1) * 8 + 3=(z1 - 1) * 8 + 3 + 0 by omega]; exact this
           ·have:=sm 1 x hj
            rw [show (out.length - 1) * 8 + 4=(z1 - 1) * 8 + 3 + 1 by omega]; exact this
           ·have:=sm 2 x hj
            rw [show (out.length - 1) * 8 + 5=(z1 - 1) * 8 + 3 + 2 by omega]; exact this
      ·have hz:=of_decide_eq_false hz
       rw [if_neg hz] at hs2
       refine ⟨by omega,ic,hv,rfl,?_,fun sp c' h1 h2=>⟨(z1 + 1,c',_,(i:Int) + 1),by dsimp only; omega,by and_intros <;> rfl,i + 1,rfl,hi,?_,h1,?_,?_⟩⟩
       ·intro v hv'
        simp only [List.mem_cons,List.not_mem_nil,or_false] at hv'
        rcases hv' with rfl | rfl | rfl | rfl | rfl | rfl | rfl | rfl <;> rfl
       ·dsimp only
        rw [hO,hs2,List.length_append,e1]; rfl
       ·dsimp only
        have ht:(vs.take (z1 * 8)).length=z1 * 8:=by rw [List.length_take]; omega
        rw [List.length_append,List.length_append,ht]
        simp only [List.length_cons,List.length_nil]
        omega
       ·dsimp only
        rw [hO,hs2]
        have:=hx4.snoc (sp:=sp) rfl gA (by decide)
        rw [← e1] at this
        exact this
 ·have hlt:¬ (i:Int) < marks.length:=of_decide_eq_false hlt
  obtain rfl:i=marks.length:=by omega
  subst e1
  exact ⟨_,_,_,rfl,Lst.of_mrow hb (hx.le fun _ _ g=>RSs.le g l5) (by decide) ic⟩
end Go.Proofs.Tryz
/- Plain: the reference's Combine on sets of spans: its list is in order, and its points are told by those of the operands. -/
namespace Go.Proofs.Tryz
open Go.Eng Go.Big
set_option linter.unusedSectionVars false
theorem getD_r {a b:List Rat} {i:Nat} (h:a.length<=i):(a++b).getD i 0=b.getD (i - a.length) 0:=by
 rw [List.getD_eq_getElem?_getD,List.getElem?_append_right h,List.getD_eq_getElem?_getD]
theorem getD_l {a b:List Rat} {i:Nat} (h:i < a.length):(a++b).getD i 0=a.getD i 0:=by
 rw [List.getD_eq_getElem?_getD,List.getElem?_append_left h,List.getD_eq_getElem?_getD]
def asc (c:List Rat):Prop:=c.Pairwise (· < ·)
theorem insQ_iff {x q : Rat} : ∀ {o : List Rat}, q ∈ insQ x o ↔ q = x ∨ q ∈ o := by
  intro o
  induction o with
  | nil => simp [insQ]
  | cons y r ih =>
    unfold insQ
    split
    · rw [List.mem_cons, ih, List.mem_cons]
      constructor
      · rintro (h | h | h)
        · exact .inr (.inl h)
        · exact .inl h
        · exact .inr (.inr h)
      · rintro (h | h | h)
        · exact .inr (.inl h)
        · exact .inl h
        · exact .inr (.inr h)
    · split
      · rename_i e
        subst e
        exact ⟨.inr, fun h => by rcases h with rfl | h; · simp
                                 · exact h⟩
      · rw [List.mem_cons]
theorem insQ_asc {x:Rat}:∀{o:List Rat},asc o->asc (insQ x o):=by
 intro o
 induction o with
 | nil=>intro _; simp [insQ,asc]
 | cons y r ih=>
  intro h
  obtain ⟨h1,h2⟩:=List.pairwise_cons.1 h
  unfold insQ
  split
  ·rename_i c
   refine List.pairwise_cons.2 ⟨fun q hq=>?_,ih h2⟩
   rcases insQ_iff.1 hq with rfl | hq
   ·exact c
   ·exact h1 q hq
  ·split
   ·exact h
   ·rename_i c1 c2
    refine List.pairwise_cons.2 ⟨fun q hq=>?_,h⟩
    rcases List.mem_cons.1 hq with rfl | hq
    ·grind
    ·have:=h1 q hq; grind
def Sp.isEnd (s:Sp) (q:Rat):Prop:=(s.a=false/\q=s.lo) \/ (s.b=false/\q=s.hi)
theorem step_iff {s:Sp} {o:List Rat} {q:Rat}:q ∈ stepE s o 2↔s.isEnd q \/ q ∈ o:=by
 show q ∈ (if s.b=true then (if s.a=true then o else insQ s.lo o) else insQ s.hi (if s.a=true then o else insQ s.lo o))↔_
 unfold Sp.isEnd
 cases s.a <;> cases s.b <;> simp [insQ_iff]
 ·constructor
  ·rintro (h | h | h)
   ·exact .inl (.inr h)
   ·exact .inl (.inl h)
   ·exact .inr h
  ·rintro ((h | h) | h)
   ·exact .inr (.inl h)
   ·exact .inl h
   ·exact .inr (.inr h)
theorem step_asc {s:Sp} {o:List Rat} (h:asc o):asc (stepE s o 2):=by
 show asc (if s.b=true then (if s.a=true then o else insQ s.lo o) else insQ s.hi (if s.a=true then o else insQ s.lo o))
 cases s.a <;> cases s.b <;> simp [insQ_asc,h]
theorem ends_fold:∀(ss:List Sp) (o:List Rat),(asc o->asc (ss.foldl (fun o s=>stepE s o 2) o))/\∀q,q ∈ (ss.foldl (fun o s=>stepE s o 2) o)↔q ∈ o \/ ∃s ∈ ss,s.isEnd q:=by
 intro ss
 induction ss with
 | nil=>exact fun o=>⟨id,fun q=>by simp⟩
 | cons s r ih=>
  intro o
  refine ⟨fun h=>(ih _).1 (step_asc h),fun q=>?_⟩
  rw [List.foldl_cons,(ih _).2,step_iff]
  constructor
  ·rintro ((h | h) | ⟨t,h1,h2⟩)
   ·exact .inr ⟨s,by simp,h⟩
   ·exact .inl h
   ·exact .inr ⟨t,by simp [h1],h2⟩
  ·rintro (h | ⟨t,h1,h2⟩)
   ·exact .inl (.inr h)
   ·rcases List.mem_cons.1 h1 with rfl | h1
    ·exact .inl (.inl h2)
    ·exact .inr ⟨t,h1,h2⟩
theorem ends_asc (ss:List Sp):asc (endsL ss):=(ends_fold ss []).1 List.Pairwise.nil
theorem ends_iff {ss:List Sp} {q:Rat}:q ∈ endsL ss↔∃s ∈ ss,s.isEnd q:=by
 have:=(ends_fold ss []).2 q
 simpa [endsL] using this
section
variable {c:List Rat} (h:asc c)
include h
theorem asc_lt {i j:Nat} (hij:i < j) (hj:j < c.length):c.getD i 0 < c.getD j 0:=by
 rw [getD_at (by omega),getD_at hj]
 exact List.pairwise_iff_getElem.1 h i j (by omega) hj hij
theorem asc_le {i j:Nat} (hij:i<=j) (hj:j < c.length):c.getD i 0<=c.getD j 0:=by
 rcases Nat.lt_or_ge i j with h1 | h1
 ·have:=asc_lt h h1 hj; grind
 ·obtain rfl:i=j:=by omega
  grind
omit h
theorem gap_inn {i:Nat} {t:Rat}:(gapS c i).inn t↔(0 < i->c.getD (i - 1) 0 < t)/\(i≠c.length->i < c.length->t < c.getD i 0)/\(i≠c.length->c.length < i->t < 0):=by
 unfold gapS Sp.inn
 simp only [decide_eq_true_eq]
 constructor
 ·rintro ⟨h1,h2⟩
  refine ⟨fun h0=>?_,fun h3 h4=>?_,fun h3 h4=>?_⟩
  ·rcases h1 with h1 | h1
   ·omega
   ·rwa [if_pos h0] at h1
  ·rcases h2 with h2 | h2
   ·exact absurd h2 h3
   ·rwa [if_pos h4] at h2
  ·rcases h2 with h2 | h2
   ·exact absurd h2 h3
   ·rwa [if_neg (by omega)] at h2
 ·rintro ⟨h1,h2,h3⟩
  refine ⟨?_,?_⟩
  ·by_cases h0:i=0
   ·exact .inl h0
   ·rw [if_pos (by omega)]; exact .inr (h1 (by omega))
  ·by_cases h0:i=c.length
   ·exact .inl h0
   ·refine .inr ?_
    by_cases h4:i < c.length
    ·rw [if_pos h4]; exact h2 h0 h4
    ·rw [if_neg h4]; exact h3 h0 (by omega)
theorem gap_inn' {i:Nat} (hi:i<=c.length) {t:Rat}:(gapS c i).inn t↔(0 < i->c.getD (i - 1) 0 < t)/\(i < c.length->t < c.getD i 0):=by
 rw [gap_inn]
 exact ⟨fun ⟨h1,h2,_⟩=>⟨h1,fun h=>h2 (by omega) h⟩,fun ⟨h1,h2⟩=>⟨h1,fun _ h=>h2 h,fun _ h=>by omega⟩⟩
include h
theorem gap_good {i:Nat} (hi:i<=c.length):(gapS c i).good:=by
 refine ⟨⟨fun e=>?_,fun e=>?_⟩,Sp.emp_iff.2 ?_⟩
 ·have e:i=0:=of_decide_eq_true e
  subst e; rfl
 ·have e:i=c.length:=of_decide_eq_true e
  subst e
  exact if_neg (Nat.lt_irrefl _)
 ·by_cases h0:i=0
  ·exact .inl (decide_eq_true h0)
  ·by_cases h1:i=c.length
   ·exact .inr (.inl (decide_eq_true h1))
   ·refine .inr (.inr ?_)
    show (if 0 < i then c.getD (i - 1) 0 else 0) < (if i < c.length then c.getD i 0 else 0)
    rw [if_pos (by omega),if_pos (by omega)]
    exact asc_lt h (by omega) (by omega)
theorem gap_ex {t:Rat} (ht:t ∉ c):∃i,i<=c.length/\(gapS c i).inn t:=by
 have key:∀k,k<=c.length->(∀j,j < k->c.getD j 0 < t) \/ ∃i,i<=c.length/\(gapS c i).inn t:=by
  intro k
  induction k with
  | zero=>exact fun _=>.inl fun j hj=>absurd hj (Nat.not_lt_zero j)
  | succ k ih=>
   intro hk
   rcases ih (by omega) with g | g
   ·by_cases hlt:c.getD k 0 < t
    ·refine .inl fun j hj=>?_
     rcases Nat.lt_or_ge j k with h1 | h1
     ·exact g j h1
     ·obtain rfl:j=k:=by omega
      exact hlt
    ·refine .inr ⟨k,by omega,(gap_inn' (by omega)).2 ⟨fun h0=>g _ (by omega),fun _=>?_⟩⟩
     have hne:c.getD k 0≠t:=by
      rintro rfl
      rw [getD_at (by omega)] at ht
      exact ht (List.getElem_mem _)
     grind
   ·exact .inr g
 rcases key c.length (Nat.le_refl _) with g | g
 ·exact ⟨c.length,Nat.le_refl _,(gap_inn' (Nat.le_refl _)).2 ⟨fun h0=>g _ (by omega),fun h0=>by omega⟩⟩
 ·exact g
theorem gap_side {i:Nat} (hi:i<=c.length) {t u x:Rat} (ht:(gapS c i).inn t) (hu:(gapS c i).inn u) (hx:x ∈ c):(x < t↔x < u)/\(t < x↔u < x)/\x≠t:=by
 obtain ⟨t1,t2⟩:=(gap_inn' hi).1 ht
 obtain ⟨u1,u2⟩:=(gap_inn' hi).1 hu
 obtain ⟨j,hj,rfl⟩:=List.getElem_of_mem hx
 rw [← getD_at hj]
 rcases Nat.lt_or_ge j i with hji | hji
 ·have:=asc_le h (show j<=i - 1 by omega) (by omega)
  have:=t1 (by omega)
  have:=u1 (by omega)
  grind
 ·have:=asc_le h hji hj
  have:=t2 (by omega)
  have:=u2 (by omega)
  grind
theorem probe_in {i:Nat} (hi:i<=c.length):(gapS c i).inn ((probesL c).getD i 0):=by
 rw [gap_inn' hi]
 unfold probesL
 by_cases h0:c.length=0
 ·exact ⟨fun _=>by omega,fun _=>by omega⟩
 ·rw [if_neg h0]
  have hl:=outL_len c (show 1<=c.length by omega)
  by_cases h1:i=c.length
  ·subst h1
   rw [getD_r (by omega),hl,Nat.sub_self]
   refine ⟨fun _=>?_,fun _=>by omega⟩
   show _ < c.getD (c.length - 1) 0 + ((1:Int):Rat)
   grind
  ·rw [getD_l (by omega)]
   unfold outL
   by_cases h2:i=0
   ·subst h2
    refine ⟨fun _=>by omega,fun _=>?_⟩
    show c.getD 0 0 - ((1:Int):Rat) < _
    grind
   ·obtain ⟨m,rfl⟩:∃m,i=m + 1:=⟨i - 1,by omega⟩
    have:=asc_lt h (show m < m + 1 by omega) (by omega)
    have e2:((List.range (c.length - 1)).map fun k=>(c.getD k 0 + c.getD (k + 1) 0) * ((2:Int):Rat)⁻¹).getD m 0=(c.getD m 0 + c.getD (m + 1) 0) * ((2:Int):Rat)⁻¹:=by
     rw [List.getD_eq_getElem?_getD,List.getElem?_map,List.getElem?_range (by omega)]; rfl
    rw [List.getD_cons_succ,e2,Nat.add_sub_cancel]
    generalize c.getD m 0=x at *
    generalize c.getD (m + 1) 0=y at *
    exact ⟨fun _=>by grind,fun _=>by grind⟩
omit h
theorem probes_len:(probesL c).length=c.length + 1:=by
 unfold probesL
 by_cases h0:c.length=0
 ·rw [if_pos h0,h0]; rfl
 ·rw [if_neg h0,List.length_append,outL_len c (by omega)]; rfl
end
section
variable {c:List Rat} {ms:List Bool}
/-- What is known of the list behind the i-th gap. -/
structure FI (c:List Rat) (ms:List Bool) (i:Nat):Prop where
 r:reg (fromI c ms i)
 mem:∀t,t ∉ c->(memS (fromI c ms i) t↔∃j,j < i/\ms.getD j false=true/\(gapS c j).inn t)
 top:0 < i->i<=c.length->∀s ∈ fromI c ms i,s.b=false/\s.hi<=c.getD (i - 1) 0
 str:0 < i->i<=c.length->ms.getD (i - 1) false=false->∀s ∈ fromI c ms i,s.hi < c.getD (i - 1) 0
 last:0 < i->i<=c.length->ms.getD (i - 1) false=true->∃l0 l,fromI c ms i=l0++[l]/\l.hi=c.getD (i - 1) 0
theorem memS_snoc {ss:List Sp} {s:Sp} {t:Rat}:memS (ss++[s]) t↔memS ss t \/ s.inn t:=by
 unfold memS
 constructor
 ·rintro ⟨x,hx,hi⟩
  rcases List.mem_append.1 hx with hx | hx
  ·exact .inl ⟨x,hx,hi⟩
  ·obtain rfl:x=s:=by simpa using hx
   exact .inr hi
 ·rintro (⟨x,hx,hi⟩ | hi)
  ·exact ⟨x,by simp [hx],hi⟩
  ·exact ⟨s,by simp,hi⟩
theorem reg_snoc {ss:List Sp} {s:Sp} (h:reg ss) (hs:s.good) (hb:∀x ∈ ss,x.bef s):reg (ss++[s]):=by
 refine ⟨fun x hx=>?_,List.pairwise_append.2 ⟨h.2,by simp,fun x hx y hy=>?_⟩⟩
 ·rcases List.mem_append.1 hx with hx | hx
  ·exact h.1 x hx
  ·obtain rfl:x=s:=by simpa using hx
   exact hs
 ·obtain rfl:y=s:=by simpa using hy
  exact hb x hx
theorem reg_init {ss:List Sp} {s:Sp} (h:reg (ss++[s])):reg ss/\s.good/\∀x ∈ ss,x.bef s:=by
 obtain ⟨h1,-,h3⟩:=List.pairwise_append.1 h.2
 exact ⟨⟨fun x hx=>h.1 x (by simp [hx]),h1⟩,h.1 s (by simp),fun x hx=>h3 x hx s (by simp)⟩
theorem ex_succ {P:Nat->Prop} {i:Nat}:(∃j,j < i + 1/\P j)↔(∃j,j < i/\P j) \/ P i:=by
 constructor
 ·rintro ⟨j,hj,hp⟩
  rcases Nat.lt_or_ge j i with h | h
  ·exact .inl ⟨j,h,hp⟩
  ·obtain rfl:j=i:=by omega
   exact .inr hp
 ·rintro (⟨j,hj,hp⟩ | hp)
  ·exact ⟨j,by omega,hp⟩
  ·exact ⟨i,by omega,hp⟩
theorem fi_step (h:asc c) {i:Nat} (hi:i<=c.length) (F:FI c ms i):FI c ms (i + 1):=by
 have hg:=gap_good h hi
 have ghi:i < c.length->(gapS c i).hi=c.getD i 0:=fun h0=>if_pos h0
 have glo:0 < i->(gapS c i).lo=c.getD (i - 1) 0:=fun h0=>if_pos h0
 have ga:0 < i->(gapS c i).a=false:=fun h0=>decide_eq_false (by omega)
 have gb:i < c.length->(gapS c i).b=false:=fun h0=>decide_eq_false (by omega)
 by_cases hm:ms.getD i false=true
 ·have hne:¬ ms.getD i false=false:=by rw [hm]; decide
  by_cases h0:0 < i/\ms.getD (i - 1) false=true
  ·obtain ⟨l0,l,el,hl⟩:=F.last h0.1 hi h0.2
   have e:fromI c ms (i + 1)=l0++[⟨l.lo,(gapS c i).hi,l.a,(gapS c i).b⟩]:=by
    rw [fromI,if_pos hm,if_pos ⟨h0.1,h0.2,by rw [el]; simp⟩,el]
    simp [lastHi]
   have F1:=F.r
   rw [el] at F1
   obtain ⟨f1,f2,f3⟩:=reg_init F1
   have hlb:l.b=false:=(F.top h0.1 hi l (by rw [el]; simp)).1
   have hgood:(⟨l.lo,(gapS c i).hi,l.a,(gapS c i).b⟩:Sp).good:=by
    refine ⟨⟨f2.1.1,hg.1.2⟩,Sp.emp_iff.2 ?_⟩
    dsimp only
    cases ha:l.a with
    | true=>exact .inl rfl
    | false=>
     cases hb:(gapS c i).b with
     | true=>exact .inr (.inl rfl)
     | false=>
      have h1:=lo_hi f2.2 ha hlb
      have h2:=lo_hi hg.2 (ga h0.1) hb
      rw [glo h0.1] at h2
      exact .inr (.inr (by grind))
   refine ⟨?_,fun t ht=>?_,fun _ hi1 s hs=>?_,fun _ hi1 hx=>?_,fun _ hi1 _=>?_⟩
   ·rw [e]
    exact reg_snoc f1 hgood fun x hx=>⟨(f3 x hx).1,(f3 x hx).2.1,(f3 x hx).2.2⟩
   ·rw [e,ex_succ,← F.mem t ht,memS_snoc,el,memS_snoc,or_assoc]
    refine or_congr Iff.rfl ?_
    have hk:(gapS c i).inn t↔c.getD (i - 1) 0 < t/\((gapS c i).b=true \/ t < (gapS c i).hi):=by
     unfold Sp.inn; rw [ga h0.1,glo h0.1]; simp
    have hne':t≠c.getD (i - 1) 0:=by
     rintro rfl
     rw [getD_at (by omega)] at ht
     exact ht (List.getElem_mem _)
    rw [hk]
    show (l.a=true \/ l.lo < t)/\((gapS c i).b=true \/ t < (gapS c i).hi)↔((l.a=true \/ l.lo < t)/\(l.b=true \/ t < l.hi)) \/ _
    rw [hl,hlb]
    have h1:l.a=true \/ l.lo < c.getD (i - 1) 0:=by
     cases ha:l.a with
     | true=>exact .inl rfl
     | false=>have:=lo_hi f2.2 ha hlb; rw [hl] at this; exact .inr this
    have h2:(gapS c i).b=true \/ c.getD (i - 1) 0 < (gapS c i).hi:=by
     cases hb:(gapS c i).b with
     | true=>exact .inl rfl
     | false=>have:=lo_hi hg.2 (ga h0.1) hb; rw [glo h0.1] at this; exact .inr this
    constructor
    ·rintro ⟨g1,g2⟩
     by_cases g:t < c.getD (i - 1) 0
     ·exact .inl ⟨g1,.inr g⟩
     ·exact .inr ⟨hm,by grind,g2⟩
    ·rintro (⟨g1,g2⟩ | ⟨-,g1,g2⟩)
     ·have g3:t < c.getD (i - 1) 0:=by
       rcases g2 with g2 | g2
       ·cases g2
       ·exact g2
      exact ⟨g1,h2.imp_right fun h2=>by grind⟩
     ·exact ⟨h1.imp_right fun h1=>by grind,g2⟩
   ·rw [e] at hs
    rw [Nat.add_sub_cancel]
    rcases List.mem_append.1 hs with hs | hs
    ·have b:=f3 s hs
     refine ⟨b.1,?_⟩
     have h1:l.lo < c.getD (i - 1) 0:=by have:=lo_hi f2.2 b.2.1 hlb; rwa [hl] at this
     have h2:=asc_lt h (show i - 1 < i by omega) hi1
     have:=b.2.2
     grind
    ·obtain rfl:s=_:=by simpa using hs
     refine ⟨gb hi1,?_⟩
     show (gapS c i).hi<=_
     rw [ghi hi1]; grind
   ·rw [Nat.add_sub_cancel] at hx; exact absurd hx hne
   ·rw [Nat.add_sub_cancel]
    exact ⟨l0,_,e,ghi hi1⟩
  ·have e:fromI c ms (i + 1)=fromI c ms i++[gapS c i]:=by
    rw [fromI,if_pos hm,if_neg (fun g=>h0 ⟨g.1,g.2.1⟩)]
   have hb:∀x ∈ fromI c ms i,x.bef (gapS c i):=fun x hx=>by
    by_cases hz:0 < i
    ·have hmf:ms.getD (i - 1) false=false:=by
      cases hq:ms.getD (i - 1) false with
      | false=>rfl
      | true=>exact absurd ⟨hz,hq⟩ h0
     exact ⟨(F.top hz hi x hx).1,ga hz,by rw [glo hz]; exact F.str hz hi hmf x hx⟩
    ·obtain rfl:i=0:=by omega
     cases hx
   refine ⟨?_,fun t ht=>?_,fun _ hi1 s hs=>?_,fun _ hi1 hx=>?_,fun _ hi1 _=>?_⟩
   ·rw [e]; exact reg_snoc F.r hg hb
   ·rw [e,ex_succ,← F.mem t ht,memS_snoc]
    exact or_congr Iff.rfl ⟨fun g=>⟨hm,g⟩,fun g=>g.2⟩
   ·rw [e] at hs
    rw [Nat.add_sub_cancel]
    rcases List.mem_append.1 hs with hs | hs
    ·refine ⟨(hb s hs).1,?_⟩
     by_cases hz:0 < i
     ·have h1:=(F.top hz hi s hs).2
      have h2:=asc_lt h (show i - 1 < i by omega) hi1
      grind
     ·obtain rfl:i=0:=by omega
      cases hs
    ·obtain rfl:s=_:=by simpa using hs
     refine ⟨gb hi1,?_⟩
     rw [ghi hi1]; grind
   ·rw [Nat.add_sub_cancel] at hx; exact absurd hx hne
   ·rw [Nat.add_sub_cancel]
    exact ⟨_,_,e,ghi hi1⟩
 ·have e:fromI c ms (i + 1)=fromI c ms i:=by rw [fromI,if_neg hm]
  have hlt:i < c.length->∀s ∈ fromI c ms i,s.b=false/\s.hi < c.getD i 0:=fun hi1 s hs=>by
   by_cases hz:0 < i
   ·obtain ⟨h1,h2⟩:=F.top hz hi s hs
    have h3:=asc_lt h (show i - 1 < i by omega) hi1
    exact ⟨h1,by grind⟩
   ·obtain rfl:i=0:=by omega
    cases hs
  refine ⟨by rw [e]; exact F.r,fun t ht=>?_,fun _ hi1 s hs=>?_,fun _ hi1 hx s hs=>?_,fun _ hi1 hx=>?_⟩
  ·rw [e,ex_succ,F.mem t ht]
   exact ⟨.inl,fun g=>g.elim id fun g=>absurd g.1 hm⟩
  ·rw [e] at hs
   rw [Nat.add_sub_cancel]
   obtain ⟨h1,h2⟩:=hlt hi1 s hs
   exact ⟨h1,by grind⟩
  ·rw [e] at hs
   rw [Nat.add_sub_cancel]
   exact (hlt hi1 s hs).2
  ·rw [Nat.add_sub_cancel] at hx; exact absurd hx hm
theorem fi (h:asc c):∀{i:Nat},i<=c.length + 1->FI c ms i:=by
 intro i
 induction i with
 | zero=>exact fun _=>⟨⟨(fun _ h=>by cases h),List.Pairwise.nil⟩,(fun t _=>⟨(fun ⟨_,h,_⟩=>by cases h),(fun ⟨_,h,_⟩=>absurd h (Nat.not_lt_zero _))⟩),(fun h=>absurd h (Nat.lt_irrefl _)),(fun h=>absurd h (Nat.lt_irrefl _)),(fun h=>absurd h (Nat.lt_irrefl _))⟩
 | succ i ih=>exact fun hi=>fi_step h (by omega) (ih (by omega))
end
/-- Whether a number is inside. -/
def Sp.innB (s:Sp) (t:Rat):Bool:=(s.a || decide (s.lo < t)) && (s.b || decide (t < s.hi))
def inB (ss:List Sp) (t:Rat):Bool:=ss.any fun s=>s.innB t
theorem innB_iff {s:Sp} {t:Rat}:s.innB t=true↔s.inn t:=by unfold Sp.innB Sp.inn; simp
theorem inB_iff {ss:List Sp} {t:Rat}:inB ss t=true↔memS ss t:=by
 unfold inB memS; rw [List.any_eq_true]; exact ⟨fun ⟨s,h1,h2⟩=>⟨s,h1,innB_iff.1 h2⟩,fun ⟨s,h1,h2⟩=>⟨s,h1,innB_iff.2 h2⟩⟩
theorem bool_eq {a b:Bool} (h:a=true↔b=true):a=b:=by cases a <;> cases b <;> simp at h <;> rfl
theorem cls_two {ss:List Sp} {t:Rat} (h:∀s ∈ ss,¬ s.isEnd t):(clsL ss t == 2)=inB ss t:=by
 induction ss with
 | nil=>rfl
 | cons s r ih=>
  have ih:=ih fun x hx=>h x (by simp [hx])
  have hs:=h s (by simp)
  have hb:s.innB t=decide (clsV (s.la t) (s.lb t)=2)/\(clsV (s.la t) (s.lb t)≠0->clsV (s.la t) (s.lb t)=2):=by
   unfold Sp.isEnd at hs
   unfold Sp.innB Sp.la Sp.lb clsV
   rcases cmpQ_or t s.lo with ⟨h1,e1⟩ | ⟨h1,e1⟩ | ⟨h1,e1⟩ <;> rcases cmpQ_or t s.hi with ⟨h2,e2⟩ | ⟨h2,e2⟩ | ⟨h2,e2⟩ <;> rw [e1,e2] <;> cases ha:s.a <;> cases hb:s.b <;> simp [ha,hb] at hs ⊢ <;> grind
  have e:inB (s :: r) t=(s.innB t || inB r t):=rfl
  rw [e,← ih,hb.1]
  by_cases h0:clsV (s.la t) (s.lb t)=0
  ·simp [clsL,h0]
  ·have:=hb.2 h0
   simp [clsL,this]
def opB (op:Int) (x y:Bool):Bool:=if op=2 then x && y else if op=3 then x && !y else if op=4 then x != y else x || y
def marksL (op:Int) (a b:List Sp) (c:List Rat):List Bool:=(probesL c).map fun t=>opB op (clsL a t == 2) (clsL b t == 2)
def combL (op:Int) (a b:List Sp):List Sp:=fromL (endsL (a++b)) (marksL op a b (endsL (a++b)))
theorem marks_len (op:Int) (a b:List Sp) (c:List Rat):(marksL op a b c).length=c.length + 1:=by unfold marksL; rw [List.length_map,probes_len]
theorem comb_reg (op:Int) (a b:List Sp):reg (combL op a b):=by
 unfold combL fromL
 rw [marks_len]
 exact (fi (ends_asc _) (Nat.le_refl _)).r
/-- A gap lies in a span as a whole or not at all. -/
theorem gap_inB {ss:List Sp} {c:List Rat} (h:asc c) (hc:∀s ∈ ss,∀q,s.isEnd q->q ∈ c) {i:Nat} (hi:i<=c.length) {t u:Rat} (ht:(gapS c i).inn t) (hu:(gapS c i).inn u):inB ss t=inB ss u:=by
 induction ss with
 | nil=>rfl
 | cons s r ih=>
  have ih:=ih fun x hx=>hc x (by simp [hx])
  have e:∀t,inB (s :: r) t=(s.innB t || inB r t):=fun _=>rfl
  rw [e,e,ih]
  congr 1
  have hs:=hc s (by simp)
  unfold Sp.innB
  cases ha:s.a <;> cases hb:s.b <;> simp
  ·have h1:=gap_side h hi ht hu (hs s.lo (.inl ⟨ha,rfl⟩))
   have h2:=gap_side h hi ht hu (hs s.hi (.inr ⟨hb,rfl⟩))
   rw [decide_eq_decide.2 h1.1,decide_eq_decide.2 h2.2.1]
  ·exact (gap_side h hi ht hu (hs s.lo (.inl ⟨ha,rfl⟩))).1
  ·exact (gap_side h hi ht hu (hs s.hi (.inr ⟨hb,rfl⟩))).2.1
theorem comb_inB (op:Int) (a b:List Sp) {t:Rat} (ht:t ∉ endsL (a++b)):inB (combL op a b) t=opB op (inB a t) (inB b t):=by
 have hA:=ends_asc (a++b)
 have hE:∀s ∈ a++b,∀q,s.isEnd q->q ∈ endsL (a++b):=fun s hs q hq=>ends_iff.2 ⟨s,hs,hq⟩
 unfold combL fromL
 generalize endsL (a++b)=c at ht hA hE
 rw [marks_len]
 have ha:∀s ∈ a,∀q,s.isEnd q->q ∈ c:=fun s hs=>hE s (by simp [hs])
 have hb:∀s ∈ b,∀q,s.isEnd q->q ∈ c:=fun s hs=>hE s (by simp [hs])
 have mk:∀j,j<=c.length->(gapS c j).inn t->(marksL op a b c).getD j false=opB op (inB a t) (inB b t):=fun j hj hg=>by
  have hp:=probe_in hA hj
  have hnot:(probesL c).getD j 0 ∉ c:=fun hm=>(gap_side hA hj hp hp hm).2.2 rfl
  unfold marksL
  rw [List.getD_eq_getElem?_getD,List.getElem?_map,List.getElem?_eq_getElem (by rw [probes_len]; omega)]
  have e:(probesL c)[j]'(by rw [probes_len]; omega)=(probesL c).getD j 0:=by rw [List.getD_eq_getElem?_getD,List.getElem?_eq_getElem (by rw [probes_len]; omega)]; rfl
  simp only [Option.map_some,Option.getD_some,e]
  rw [cls_two (fun s hs he=>hnot (ha s hs _ he)),cls_two (fun s hs he=>hnot (hb s hs _ he)),gap_inB hA ha hj hp hg,gap_inB hA hb hj hp hg]
 refine bool_eq ?_
 rw [inB_iff,(fi hA (Nat.le_refl _)).mem t ht]
 constructor
 ·rintro ⟨j,hj,h1,h2⟩
  rw [← mk j (by omega) h2]; exact h1
 ·intro h1
  obtain ⟨i,hi,hg⟩:=gap_ex hA ht
  exact ⟨i,by omega,by rw [mk i hi hg]; exact h1,hg⟩
/-- Two lists in order with the same points, but for a few, are the same. -/
theorem reg_eq {xs ys:List Sp} (E:List Rat) (hx:reg xs) (hy:reg ys) (h:∀t,t ∉ E->inB xs t=inB ys t):xs=ys:=
 reg_unique (E:=E) hx hy fun t ht=>by rw [← inB_iff,← inB_iff,h t ht]
end Go.Proofs.Tryz
/- Plain: the common part of two spans by the reference's Combine; the only common point by the ends. -/
namespace Go.Proofs.Tryz
open Go.Eng Go.Big
theorem meet_inn {s u:Sp} {t:Rat}:(s.meet u).inn t↔s.inn t/\u.inn t:=by
 have h1:maxQ s.lo u.lo < t↔s.lo < t/\u.lo < t:=by
  unfold maxQ
  rcases cmpQ_or u.lo s.lo with ⟨h,e⟩ | ⟨h,e⟩ | ⟨h,e⟩ <;> rw [e] <;> simp <;> grind
 have h2:t < minQ s.hi u.hi↔t < s.hi/\t < u.hi:=by
  unfold minQ
  rcases cmpQ_or u.hi s.hi with ⟨h,e⟩ | ⟨h,e⟩ | ⟨h,e⟩ <;> rw [e] <;> simp <;> grind
 unfold Sp.inn Sp.meet
 cases s.a <;> cases s.b <;> cases u.a <;> cases u.b <;> simp [h1,h2] <;> grind
theorem reg_one {s : Sp} (h : s.good) : reg [s] := ⟨fun x hx => by obtain rfl : x = s := by simpa using hx
                                                                   exact h, by simp⟩
theorem comb_and {s u:Sp} (hs:s.can) (hu:u.can):combL 2 [s] [u]=if (s.meet u).emp=true then [] else [s.meet u]:=by
 have key:∀t,inB (combL 2 [s] [u]) t=true->t ∉ endsL ([s]++[u])->(s.meet u).inn t:=fun t h ht=>by
  rw [comb_inB _ _ _ ht] at h
  have h:(inB [s] t && inB [u] t)=true:=h
  rw [Bool.and_eq_true] at h
  have e:∀x:Sp,inB [x] t=x.innB t:=fun x=>by unfold inB; simp
  rw [e,e,innB_iff,innB_iff] at h
  exact meet_inn.2 h
 refine reg_eq (endsL ([s]++[u])) (comb_reg _ _ _) ?_ fun t ht=>?_
 ·split
  ·exact ⟨(fun _ h=>by cases h),List.Pairwise.nil⟩
  ·rename_i h
   exact reg_one ⟨Sp.meet_can hs hu,by simpa using h⟩
 ·refine bool_eq ⟨fun h=>?_,fun h=>?_⟩
  ·have hk:=key t h ht
   split
   ·rename_i he
    obtain ⟨k1,k2⟩:=hk
    generalize s.meet u=m at he k1 k2
    unfold Sp.emp at he
    rw [Bool.and_eq_true,Bool.and_eq_true,Bool.not_eq_true',Bool.not_eq_true',decide_eq_true_eq] at he
    obtain ⟨⟨ha,hb⟩,hc⟩:=he
    rw [ha] at k1
    rw [hb] at k2
    have k1:=k1.resolve_left (by decide)
    have k2:=k2.resolve_left (by decide)
    rcases cmpQ_or m.lo m.hi with ⟨h,e⟩ | ⟨h,e⟩ | ⟨h,e⟩
    ·omega
    ·grind
    ·grind
   ·exact inB_iff.2 ⟨_,by simp,hk⟩
  ·rw [comb_inB _ _ _ ht]
   show (inB [s] t && inB [u] t)=true
   split at h
   ·cases h
   ·obtain ⟨x,hx,hi⟩:=inB_iff.1 h
    obtain rfl:x=s.meet u:=by simpa using hx
    obtain ⟨k1,k2⟩:=meet_inn.1 hi
    rw [Bool.and_eq_true]
    exact ⟨inB_iff.2 ⟨s,by simp,k1⟩,inB_iff.2 ⟨u,by simp,k2⟩⟩
theorem has_iff {s:Sp} {t:Rat}:s.has t=true↔(s.a=true \/ s.lo<=t)/\(s.b=true \/ t<=s.hi):=by
 unfold Sp.has
 rcases cmpQ_or s.lo t with ⟨h1,e1⟩ | ⟨h1,e1⟩ | ⟨h1,e1⟩ <;> rcases cmpQ_or s.hi t with ⟨h2,e2⟩ | ⟨h2,e2⟩ | ⟨h2,e2⟩ <;> rw [e1,e2] <;> cases s.a <;> cases s.b <;> simp <;> grind
theorem meet_emp {s v:Sp} (hs:s.emp=false) (hv:v.emp=false):(s.meet v).emp=true↔(s.b=false/\v.a=false/\s.hi<=v.lo) \/ (s.a=false/\v.b=false/\v.hi<=s.lo):=by
 have hs:=Sp.emp_iff.1 hs
 have hv:=Sp.emp_iff.1 hv
 have h0:∀m:Sp,m.emp=true↔m.a=false/\m.b=false/\m.hi<=m.lo:=fun m=>by
  unfold Sp.emp
  rcases cmpQ_or m.lo m.hi with ⟨h,e⟩ | ⟨h,e⟩ | ⟨h,e⟩ <;> rw [e] <;> cases m.a <;> cases m.b <;> simp <;> grind
 rw [h0]
 unfold Sp.meet maxQ minQ
 rcases cmpQ_or v.lo s.lo with ⟨h1,e1⟩ | ⟨h1,e1⟩ | ⟨h1,e1⟩ <;> rcases cmpQ_or v.hi s.hi with ⟨h2,e2⟩ | ⟨h2,e2⟩ | ⟨h2,e2⟩ <;> rw [e1,e2] <;> cases ha:s.a <;> cases hb:s.b <;> cases hc:v.a <;> cases hd:v.b <;> simp [ha,hb,hc,hd] at hs hv ⊢ <;> grind
/-- Where two spans do not overlap, an end that lies in the other span is the other end's. -/
theorem lo_in {s v:Sp} (hs:s.emp=false) (hv:v.emp=false) (he:(s.meet v).emp=true) (ha:s.a=false):v.has s.lo=end2 s v:=by
 refine bool_eq ?_
 have hs':=Sp.emp_iff.1 hs
 have hv':=Sp.emp_iff.1 hv
 rw [meet_emp hs hv] at he
 rw [has_iff]
 unfold end2
 cases hb:s.b <;> cases hc:v.a <;> cases hd:v.b <;> simp [ha,hb,hc,hd] at hs' hv' he ⊢ <;> grind
theorem hi_in {s v:Sp} (hs:s.emp=false) (hv:v.emp=false) (he:(s.meet v).emp=true) (hb:s.b=false):v.has s.hi=end1 s v:=by
 refine bool_eq ?_
 have hs':=Sp.emp_iff.1 hs
 have hv':=Sp.emp_iff.1 hv
 rw [meet_emp hs hv] at he
 rw [has_iff]
 unfold end1
 cases ha:s.a <;> cases hc:v.a <;> cases hd:v.b <;> simp [ha,hb,hc,hd] at hs' hv' he ⊢ <;> grind
theorem end_not {s v:Sp} (hs:s.emp=false) (hv:v.emp=false) (h:end1 s v=true):end2 s v=false:=by
 have hs':=Sp.emp_iff.1 hs
 have hv':=Sp.emp_iff.1 hv
 unfold end1 at h
 unfold end2
 cases ha:s.a <;> cases hb:s.b <;> cases hc:v.a <;> cases hd:v.b <;> simp [ha,hb,hc,hd] at hs' hv' h ⊢ <;> grind
theorem end_emp {s v:Sp} (hs:s.emp=false) (hv:v.emp=false) (h:(s.meet v).emp=false):end1 s v=false/\end2 s v=false:=by
 have e:=meet_emp hs hv
 rw [h] at e
 unfold end1 end2
 cases ha:s.a <;> cases hb:s.b <;> cases hc:v.a <;> cases hd:v.b <;> simp [ha,hb,hc,hd] at e ⊢ <;> grind
theorem at_par {l:L3} (h:Nz l) (t:Rat):valL l (atX l t) (atY l t)=0/\parL l (atX l t) (atY l t)=t:=by
 have hn:=h.norm
 have hi:=Rat.mul_inv_cancel _ hn
 unfold valL parL atX atY
 unfold normL at *
 constructor <;> grind
theorem par_rev (l:L3) (x y:Rat):parL (revL l) x y=-parL l x y:=by
 unfold parL revL normL
 simp only [Rat.intCast_neg]
 grind
theorem neg_has {t:Sp} {x:Rat} (hc:t.can):t.has (-x)=t.neg.has x:=by
 refine bool_eq ?_
 rw [has_iff,has_iff]
 unfold Sp.neg
 cases ha:t.a <;> cases hb:t.b <;> simp <;> grind
theorem has_on {l m:L3} {t:Sp} (hl:Nz l) (hc:t.can) (ho:onB m l=true) (x:Rat):hasF m t (atX l x) (atY l x)=(onS m t l).has x:=by
 obtain ⟨h1,h2⟩:=at_par hl x
 unfold hasF onS
 by_cases e:m=l
 ·subst e
  rw [if_pos rfl,h1,h2]
  simp
 ·rw [if_neg e]
  have e2:m=revL l:=by
   unfold onB at ho
   rw [decide_eq_false e,Bool.false_or] at ho
   exact of_decide_eq_true ho
  subst e2
  rw [val_rev,par_rev,h1,h2,neg_has hc]
  simp
theorem val_me {l m:L3} (h:crossL l m≠0):valL l (meX l m) (meY l m)=0/\valL m (meX l m) (meY l m)=0:=by
 have hi:=Rat.mul_inv_cancel _ h
 unfold valL meX meY
 constructor
 ·have e:(l.1:Rat) * (((l.2.1:Rat) * (m.2.2:Rat) - (l.2.2:Rat) * (m.2.1:Rat)) * (crossL l m)⁻¹) + (l.2.1:Rat) * (((l.2.2:Rat) * (m.1:Rat) - (l.1:Rat) * (m.2.2:Rat)) * (crossL l m)⁻¹) + (l.2.2:Rat)=(l.2.2:Rat) * (1 - crossL l m * (crossL l m)⁻¹):=by
   generalize hc:(crossL l m)⁻¹=c
   unfold crossL
   grind
  rw [e,hi]; grind
 ·have e:(m.1:Rat) * (((l.2.1:Rat) * (m.2.2:Rat) - (l.2.2:Rat) * (m.2.1:Rat)) * (crossL l m)⁻¹) + (m.2.1:Rat) * (((l.2.2:Rat) * (m.1:Rat) - (l.1:Rat) * (m.2.2:Rat)) * (crossL l m)⁻¹) + (m.2.2:Rat)=(m.2.2:Rat) * (1 - crossL l m * (crossL l m)⁻¹):=by
   generalize hc:(crossL l m)⁻¹=c
   unfold crossL
   grind
  rw [e,hi]; grind
/-- The ends that exist. -/
def endsP (l:L3) (s:Sp):List (Rat × Rat):=(if s.a then [] else [(atX l s.lo,atY l s.lo)])++(if s.b then [] else [(atX l s.hi,atY l s.hi)])
def ovB (l:L3) (s:Sp) (m:L3) (t:Sp):Bool:=onB m l && !(s.meet (onS m t l)).emp
/-- The first end that the other fragment has is the only common point. -/
theorem mt_ends {l m:L3} {s t:Sp} {E:List (Rat × Rat)} (hE:endsP l s=E) (hl:Nz l) (hs:s.emp=false) (hc:t.can) (hv:(onS m t l).emp=false) (ho:onB m l=true) (he:(s.meet (onS m t l)).emp=true) :
  (∀i (hi:i < E.length),(∀j (hj:j < E.length),j < i->hasF m t (E[j]).1 (E[j]).2=false)->hasF m t (E[i]).1 (E[i]).2=true->mtB l s m t=true/\E[i]=(mtX l s m t,mtY l s m t)) /\
  ((∀p ∈ E,hasF m t p.1 p.2=false)->mtB l s m t=false):=by
 unfold mtB mtX mtY
 rw [ho,if_pos rfl,if_pos rfl,if_pos rfl]
 have h1:=fun x=>has_on (t:=t) hl hc ho x
 generalize onS m t l=v at *
 have a1:s.a=false->hasF m t (atX l s.lo) (atY l s.lo)=end2 s v:=fun ha=>by rw [h1,lo_in hs hv he ha]
 have b1:s.b=false->hasF m t (atX l s.hi) (atY l s.hi)=end1 s v:=fun hb=>by rw [h1,hi_in hs hv he hb]
 have hn:=end_not hs hv
 have ea:s.a=true->end2 s v=false:=fun h=>by unfold end2; rw [h]; rfl
 have eb:s.b=true->end1 s v=false:=fun h=>by unfold end1; rw [h]; rfl
 unfold endsP at hE
 cases ha:s.a <;> cases hb:s.b <;> rw [ha,hb] at hE
 ·have a1:=a1 ha
  have b1:=b1 hb
  obtain rfl:E=[(atX l s.lo,atY l s.lo),(atX l s.hi,atY l s.hi)]:=hE.symm
  refine ⟨fun i hi hj h=>?_,fun h=>?_⟩
  ·have hi:i < 2:=hi
   have:i=0 \/ i=1:=by omega
   rcases this with rfl | rfl
   ·have h:hasF m t (atX l s.lo) (atY l s.lo)=true:=h
    rw [a1] at h
    have:end1 s v=false:=by
     cases he1:end1 s v with
     | false=>rfl
     | true=>rw [hn he1] at h; cases h
    rw [this,h]
    exact ⟨rfl,rfl⟩
   ·have h:hasF m t (atX l s.hi) (atY l s.hi)=true:=h
    rw [b1] at h
    rw [h]
    exact ⟨rfl,rfl⟩
  ·have k1:=h _ (by simp:(atX l s.lo,atY l s.lo) ∈ _)
   have k2:=h _ (by simp:(atX l s.hi,atY l s.hi) ∈ _)
   rw [← a1,← b1,k1,k2]; rfl
 ·have a1:=a1 ha
  have eb:=eb hb
  obtain rfl:E=[(atX l s.lo,atY l s.lo)]:=hE.symm
  refine ⟨fun i hi hj h=>?_,fun h=>?_⟩
  ·have hi:i < 1:=hi
   obtain rfl:i=0:=by omega
   have h:hasF m t (atX l s.lo) (atY l s.lo)=true:=h
   rw [a1] at h
   rw [eb,h]
   exact ⟨rfl,rfl⟩
  ·have k1:=h _ (by simp:(atX l s.lo,atY l s.lo) ∈ _)
   rw [← a1,eb,k1]; rfl
 ·have b1:=b1 hb
  have ea:=ea ha
  obtain rfl:E=[(atX l s.hi,atY l s.hi)]:=hE.symm
  refine ⟨fun i hi hj h=>?_,fun h=>?_⟩
  ·have hi:i < 1:=hi
   obtain rfl:i=0:=by omega
   have h:hasF m t (atX l s.hi) (atY l s.hi)=true:=h
   rw [b1] at h
   rw [h]
   exact ⟨rfl,rfl⟩
  ·have k1:=h _ (by simp:(atX l s.hi,atY l s.hi) ∈ _)
   rw [← b1,ea,k1]; rfl
 ·obtain rfl:E=[]:=hE.symm
  refine ⟨fun i hi=>absurd hi (Nat.not_lt_zero i),fun _=>?_⟩
  rw [ea ha,eb hb]; rfl
end Go.Proofs.Tryz
/- Contract: the reference's Combine. -/
namespace Go.Proofs.Tryz
open Go.Eng Go.Big
/-- The cells of a list in memory, as one row. -/
theorem lst_cells {α:Type} {sz:Nat} {R:View->Value->α->Prop} {V:View} {p:OA} {n:Nat} {ls:List α} (h:Lst sz R V p n ls) (hs:0 < sz):∃xs:List Value,V.sl p xs/\xs.length=ls.length * sz/\Row sz R V xs ls:=by
 have step:∀k,k<=ls.length->∃xs:List Value,V.sl p xs/\xs.length=k * sz/\Row sz R V xs (ls.take k):=by
  intro k
  induction k with
  | zero=>exact fun _=>⟨[],fun i v hv=>by simp at hv,by simp,by rw [List.take_zero]; exact Row.nil⟩
  | succ k ih=>
   intro hk
   obtain ⟨xs,x1,x2,x3⟩:=ih (by omega)
   obtain ⟨ad,ha,ys,y1,y2,y3⟩:=h.at_ k (by omega)
   have hl:(ls.take k).length=k:=by rw [List.length_take]; omega
   refine ⟨xs++ys,fun i v hv=>?_,by rw [List.length_append,x2,y1,Nat.succ_mul],?_⟩
   ·by_cases c:i < xs.length
    ·rw [List.getElem?_append_left c] at hv; exact x1 i v hv
    ·rw [List.getElem?_append_right (by omega)] at hv
     cases p with
     | none=>cases ha
     | some a=>
      obtain rfl:=Option.some.inj (show some (a.add (k * sz))=some ad from ha)
      have:=y3 _ v hv
      rw [adr_add2,x2] at this
      rw [show k * sz + (i - k * sz)=i by omega] at this
      exact ⟨a,rfl,this⟩
   ·have:=x3.snoc (sp:=[]) y1 y2 hs
    rw [hl,List.append_nil,List.take_of_length_le (by omega)] at this
    rw [List.take_add_one,List.getElem?_eq_getElem (by omega)]
    exact this
 obtain ⟨xs,x1,x2,x3⟩:=step ls.length (Nat.le_refl _)
 rw [List.take_length] at x3
 exact ⟨xs,x1,x2,x3⟩
theorem row_append {α:Type} {sz:Nat} {R:View->Value->α->Prop} {V:View} {vs xs sp:List Value} {ls ms:List α} (h:Row sz R V vs ls) (h':Row sz R V xs ms) (hs:0 < sz):Row sz R V (vs.take (ls.length * sz)++xs++sp) (ls++ms):=by
 have hl:=h.len_le hs
 have hl':=h'.len_le hs
 have ht:(vs.take (ls.length * sz)).length=ls.length * sz:=by rw [List.length_take]; omega
 refine ⟨fun i hi=>?_⟩
 by_cases c:i < ls.length
 ·obtain ⟨ys,y1,y2,y3⟩:=h.at_ i c
  refine ⟨ys,y1,by rw [List.getElem_append_left c]; exact y2,fun j x hj=>?_⟩
  have hj':=(List.getElem?_eq_some_iff.1 hj).1
  have hlt:i * sz + j < ls.length * sz:=by
   have:(i + 1) * sz<=ls.length * sz:=Nat.mul_le_mul_right _ c
   rw [Nat.succ_mul] at this
   omega
  rw [List.append_assoc,List.getElem?_append_left (by omega),List.getElem?_take,if_pos hlt]
  exact y3 j x hj
 ·rw [List.length_append] at hi
  obtain ⟨m,rfl⟩:∃m,i=ls.length + m:=⟨i - ls.length,by omega⟩
  have hm:m < ms.length:=by omega
  obtain ⟨ys,y1,y2,y3⟩:=h'.at_ m hm
  refine ⟨ys,y1,?_,fun j x hj=>?_⟩
  ·have e:(ls++ms)[ls.length + m]=ms[m]:=by rw [List.getElem_append_right (by omega)]; simp
   rw [e]; exact y2
  ·have hj':=(List.getElem?_eq_some_iff.1 hj).1
   have hlt:m * sz + j < xs.length:=by
    have:(m + 1) * sz<=ms.length * sz:=Nat.mul_le_mul_right _ hm
    rw [Nat.succ_mul] at this
    omega
   rw [List.append_assoc,List.getElem?_append_right (by rw [ht,Nat.add_mul]; omega),ht,Nat.add_mul,List.getElem?_append_left (by omega)]
   rw [show ls.length * sz + m * sz + j - ls.length * sz=m * sz + j by omega]
   exact y3 j x hj
theorem RSl.lst {V:View} {p:OA} {n:Nat} {ss:List Sp} (h:RSl V p n ss):Lst 8 RSs V p n ss:=by
 refine ⟨h.len,fun i hi=>?_⟩
 obtain ⟨ad,ha,xs,hx,hc⟩:=h.at_ i hi
 have hx0:=hx
 obtain ⟨_,_,_,_,_,_,_,_,_,_,_,_,_,_,e,-,-⟩:=rs_cells hx
 exact ⟨ad,ha,xs,by rw [e]; rfl,hx0,hc⟩
theorem lst_rsl {V:View} {p:OA} {n:Nat} {ss:List Sp} (h:Lst 8 RSs V p n ss):RSl V p n ss:=
 ⟨h.len,fun i hi=>by obtain ⟨ad,ha,xs,-,hx,hc⟩:=h.at_ i hi; exact ⟨ad,ha,xs,hx,hc⟩⟩
theorem row_span {V:View} {vs:List Value} {ss:List Sp} (h:Row 8 RSs V vs ss) {m:Nat} (hm:m < ss.length * 8) {v:Value} (hv:vs[m]?=some v):v.oneCell'=true:=by
 have hi:m / 8 < ss.length:=by omega
 obtain ⟨xs,hl,hx,hc⟩:=h.at_ (m / 8) hi
 obtain ⟨_,_,_,_,_,_,_,_,_,_,_,_,_,_,e,-,-⟩:=rs_cells hx
 have hlt:m % 8 < xs.length:=by rw [hl]; exact Nat.mod_lt _ (by decide)
 have e3:m=m / 8 * 8 + m % 8:=by omega
 have:=hc (m % 8) _ (List.getElem?_eq_getElem hlt)
 rw [← e3,hv] at this
 obtain rfl:=Option.some.inj this
 have hmem:=List.getElem_mem hlt
 generalize xs[m % 8]=v at hmem
 subst e
 simp only [List.mem_cons,List.not_mem_nil,or_false] at hmem
 rcases hmem with rfl | rfl | rfl | rfl | rfl | rfl | rfl | rfl <;> rfl
theorem sz_hlf {x:Rat} {k:Nat} (h:Sz k x):Sz (k + 3) (x * ((2:Int):Rat)⁻¹):=by
 have h2:Sz 2 (((2:Int):Rat))⁻¹:=by unfold Sz; decide +kernel
 exact (h.mul h2).mono (by omega)
theorem probes_sz {c:List Rat} {k:Nat} (h:∀q ∈ c,Sz k q) {q:Rat} (hq:q ∈ probesL c):Sz (2 * k + 4) q:=by
 have g:∀i,i < c.length->Sz k (c.getD i 0):=fun i hi=>by rw [getD_at hi]; exact h _ (List.getElem_mem hi)
 have z:Sz (2 * k + 4) 0:=by
  have h1:(1:Nat) < 2 ^ (2 * k + 4):=Nat.one_lt_two_pow (by omega)
  exact ⟨Nat.lt_of_le_of_lt (Nat.zero_le _) h1,h1⟩
 unfold probesL at hq
 by_cases h0:c.length=0
 ·rw [if_pos h0] at hq
  obtain rfl:q=0:=by simpa using hq
  exact z
 ·rw [if_neg h0] at hq
  rcases List.mem_append.1 hq with hq | hq
  ·unfold outL at hq
   rcases List.mem_cons.1 hq with rfl | hq
   ·exact ((g 0 (by omega)).sub szi_one).mono (by omega)
   ·obtain ⟨i,hi,rfl⟩:=List.mem_map.1 hq
    rw [List.mem_range] at hi
    exact (sz_hlf ((g i (by omega)).add (g (i + 1) (by omega)))).mono (by omega)
  ·obtain rfl:q=_:=by simpa using hq
   exact ((g _ (by omega)).add szi_one).mono (by omega)
theorem c_ref06_Combine {V:View} {op:Int} {ap bp:OA} {an ac bn bc:Nat} {la' lb':List Sp} (ha:RSl V ap an la') (hb:RSl V bp bn lb') (hl:la'.length + lb'.length < 10000000) {k:Nat} (sa:∀s ∈ la',s.sz k) (sb:∀s ∈ lb',s.sz k) (hk:4 * k + 8 < 274877906944) :
  Acts prog 88 #[.int .i64 op,.slice ap an ac,.slice bp bn bc] V fun r V'=>∃p n c,r=.slice p n c/\RSl V' p n (combL op la' lb'):=by
 have la:=ha.len
 have lb:=hb.len
 obtain ⟨xs,x1,x2,x3⟩:=lst_cells ha.lst (by decide)
 obtain ⟨ys,y1,y2,y3⟩:=lst_cells hb.lst (by decide)
 refine vc_ref06_Combine op ap an ac bp bn bc V _ ⟨xs,x1,by omega,by omega,Nat.le_refl _,Nat.zero_le _,by omega,?_,fun bk4 J5 sp2 c3 h1 h2=>⟨ys,y1,by omega,by omega,by omega,?_,by omega,?_,fun bk9 J10 sp7 c8 h3 h4 V1 l1 bk11 hbk=>?_⟩⟩
 ·intro v hv
  obtain ⟨m,hm,rfl⟩:=List.getElem_of_mem hv
  exact row_span x3 (by omega) (List.getElem?_eq_getElem hm)
 ·rw [List.take_nil,List.nil_append,List.length_append]; omega
 ·intro v hv
  obtain ⟨m,hm,rfl⟩:=List.getElem_of_mem hv
  exact row_span y3 (by omega) (List.getElem?_eq_getElem hm)
 have hrow:Row 8 RSs V1 ((([]:List Value).take (0 * 8)++xs++sp2).take ((0 + an) * 8)++ys++sp7) (la'++lb'):=by
  have e:(([]:List Value).take (0 * 8)++xs++sp2).take ((0 + an) * 8)=xs.take (la'.length * 8):=by
   rw [List.take_nil,List.nil_append,la,Nat.zero_add,List.take_append_of_le_length (by omega)]
  rw [e]
  exact (row_append x3 y3 (by decide)).le fun _ _ h=>h.le l1
 have hL:RSl V1 (some ⟨bk11,0,none⟩) (0 + an + bn) (la'++lb'):=by
  have:=lst_rsl (Lst.of_row hbk hrow)
  rwa [show (la'++lb').length=0 + an + bn by rw [List.length_append]; omega] at this
 have hs:∀s ∈ la'++lb',s.sz k:=fun s hs=>by
  rcases List.mem_append.1 hs with hs | hs
  ·exact sa s hs
  ·exact sb s hs
 refine (c_ref06_ends hL (by rw [List.length_append]; omega) hs (by omega)).mono ?_
 rintro r V2 l2 ⟨p12,n12,c12,rfl,hc⟩
 have cl:=endsL_len (la'++lb')
 rw [List.length_append] at cl
 have cs:∀q ∈ endsL (la'++lb'),Sz k q:=fun q hq=>by
  obtain ⟨s,hs',e⟩:=endsL_mem hq
  rcases e with rfl | rfl
  ·exact (hs s hs').1
  ·exact (hs s hs').2
 have ecomb:combL op la' lb'=fromL (endsL (la'++lb')) (marksL op la' lb' (endsL (la'++lb'))):=rfl
 rw [ecomb]
 generalize endsL (la'++lb')=cuts at hc cl cs
 refine ⟨p12,n12,c12,rfl,fun J13 V3 l3=>(c_ref06_Probes (hc.le l3 fun _ _ h=>h.le l3) (by omega) cs (by omega)).mono ?_⟩
 rintro r V4 l4 ⟨p14,n14,c14,rfl,hp⟩
 have hpl:=hp.len
 rw [probes_len] at hpl
 have ml:=marks_len op la' lb' cuts
 have mat:∀i (hi:i < (probesL cuts).length),(marksL op la' lb' cuts).take (i + 1)=(marksL op la' lb' cuts).take i++[opB op (clsL la' (probesL cuts)[i] == 2) (clsL lb' (probesL cuts)[i] == 2)]:=fun i hi=>by
  rw [probes_len] at hi
  rw [List.take_add_one,List.getElem?_eq_getElem (by omega)]
  unfold marksL
  rw [List.getElem_map]; rfl
 refine ⟨p14,n14,c14,rfl,fun z V'=>∃i:Nat,z.2.2.2=(i:Int)/\i<=cuts.length + 1/\z.1=i/\z.1<=z.2.1/\z.2.1 * 1<=z.2.2.1.length/\Row 1 RBl V' z.2.2.1 ((marksL op la' lb' cuts).take i),fun z=>cuts.length + 1 - z.2.2.2.toNat,
  ⟨(0,0,[],0),by and_intros <;> rfl,0,rfl,Nat.zero_le _,rfl,Nat.le_refl _,Nat.le_refl _,Row.nil⟩,?_⟩
 rintro ⟨z1,z2,vs,z4⟩ V5 l5 ⟨i,e4,ile,e1,ic,hv,hx⟩
 dsimp only at e4 e1 ic hv hx
 subst e4 e1
 refine ⟨rfl,fun hlt=>?_,fun hlt V12 l12 bk40 hb40=>?_⟩
 ·have hlt:(z1:Int) < n14:=of_decide_eq_true hlt
  have hi:z1 < (probesL cuts).length:=by rw [probes_len]; omega
  dsimp only
  rw [Int.toNat_natCast]
  obtain ⟨ad,b,p1,n1,c1,p2,n2,c2,had,hq,a0,a1,a2⟩:=rq_at (hp.le l5 fun _ _ h=>h.le l5) hi
  have sq:=probes_sz cs (List.getElem_mem hi)
  have L5:V.Le V5:=l1.trans (l2.trans (l3.trans (l4.trans l5)))
  have sa':∀s ∈ la',s.sz (2 * k + 4):=fun s hs=>⟨(sa s hs).1.mono (by omega),(sa s hs).2.mono (by omega)⟩
  have sb':∀s ∈ lb',s.sz (2 * k + 4):=fun s hs=>⟨(sb s hs).1.mono (by omega),(sb s hs).2.mono (by omega)⟩
  refine ⟨isSome_addr had,⟨by omega,by omega⟩,b,p1,n1,c1,p2,n2,c2,ad,had,a0,a1,a2,fun V6 l6=>(c_ref06_in (ha.le (L5.trans l6)) (hq.le l6) sa' sq (by omega) (by omega)).mono ?_⟩
  rintro r V7 l7 rfl
  refine ⟨_,rfl,fun V8 l8=>(c_ref06_in (hb.le (L5.trans (l6.trans (l7.trans l8)))) (hq.le (l6.trans (l7.trans l8))) sb' sq (by omega) (by omega)).mono ?_⟩
  rintro r V9 l9 rfl
  have L9:=l6.trans (l7.trans (l8.trans l9))
  have hm:=mat z1 hi
  generalize (clsL la' (probesL cuts)[z1] == 2)=x at hm
  generalize (clsL lb' (probesL cuts)[z1] == 2)=y at hm
  refine ⟨_,rfl,fun z V'=>V9.Le V'/\z=(x || y),⟨fun hx=>⟨true,by and_intros <;> rfl,View.Le.refl _,by rw [hx]; rfl⟩,fun hx=>⟨y,by and_intros <;> rfl,View.Le.refl _,by rw [hx]; rfl⟩⟩,?_⟩
  rintro z28 V10 l10 ⟨g10,rfl⟩
  refine ⟨rfl,fun z V'=>V10.Le V'/\z=opB op x y,⟨fun h2=>?_,fun h2=>⟨fun h3=>?_,fun h3=>⟨fun h4=>?_,fun h4=>?_⟩⟩⟩,?_⟩
  ·obtain rfl:=eq_of_beq h2
   exact ⟨fun hx=>⟨y,by and_intros <;> rfl,View.Le.refl _,by rw [hx]; rfl⟩,fun hx=>⟨false,by and_intros <;> rfl,View.Le.refl _,by rw [hx]; rfl⟩⟩
  ·obtain rfl:=eq_of_beq h3
   exact ⟨fun hx=>⟨!y,by and_intros <;> rfl,View.Le.refl _,by rw [hx]; rfl⟩,fun hx=>⟨false,by and_intros <;> rfl,View.Le.refl _,by rw [hx]; rfl⟩⟩
  ·obtain rfl:=eq_of_beq h4
   exact ⟨_,by and_intros <;> rfl,View.Le.refl _,rfl⟩
  ·refine ⟨_,by and_intros <;> rfl,View.Le.refl _,?_⟩
   have h2:¬ op=2:=fun e=>by subst e; cases h2
   have h3:¬ op=3:=fun e=>by subst e; cases h3
   have h4:¬ op=4:=fun e=>by subst e; cases h4
   unfold opB
   rw [if_neg h2,if_neg h3,if_neg h4]
  ·rintro z36 V11 l11 ⟨g11,rfl⟩
   refine ⟨rfl,by omega,ic,hv,rfl,?_,fun sp c' h5 h6=>⟨(z1 + 1,c',_,(z1:Int) + 1),by dsimp only; omega,by and_intros <;> first | rfl | exact i64w (by omega),z1 + 1,rfl,by omega,rfl,h5,?_,?_⟩⟩
   ·intro v hm
    obtain rfl:v=_:=by simpa using hm
    rfl
   ·dsimp only
    have ht:(vs.take (z1 * 1)).length=z1 * 1:=by rw [List.length_take]; omega
    rw [List.length_append,List.length_append,ht]
    simp only [List.length_cons,List.length_nil]
    omega
   ·dsimp only
    have hlen:((marksL op la' lb' cuts).take z1).length=z1:=by rw [List.length_take]; omega
    rw [hm]
    have:=(hx.le (V':=V11) fun _ _ h=>h).snoc (sp:=sp) (xs:=[.bool (opB op x y)]) (a:=opB op x y) rfl rfl (by decide)
    rw [hlen] at this
    exact this
 ·have hlt:¬ (z1:Int) < n14:=of_decide_eq_false hlt
  obtain rfl:z1=cuts.length + 1:=by omega
  dsimp only at hb40 ⊢
  rw [List.take_of_length_le (by omega)] at hx
  have hM:=Lst.of_mrow (c:=z2) hb40 (hx.le (V':=V12) fun _ _ h=>h) (by decide) (by omega)
  rw [ml] at hM
  refine (c_ref06_From (hc.le (l3.trans (l4.trans (l5.trans l12))) fun _ _ h=>h.le (l3.trans (l4.trans (l5.trans l12)))) hM ml (by omega)).mono ?_
  rintro r V13 l13 ⟨p41,n41,c41,rfl,hr⟩
  exact ⟨p41,n41,c41,rfl,fun J42 V14 l14=>⟨_,_,_,rfl,lst_rsl (hr.le l14 fun _ _ h=>h.le l14)⟩⟩
end Go.Proofs.Tryz
/- Contracts: the reference's Ends, Overlap and Meet of fragments; the program's Overlap. -/
namespace Go.Proofs.Tryz
open Go.Eng Go.Big
def RPp (V:View) (v:Value) (p:Rat × Rat):Prop:=RP V v p.1 p.2
theorem RPp.le {V V':View} {v:Value} {p:Rat × Rat} (h:RPp V v p) (l:V.Le V'):RPp V' v p:=RP.le h l
theorem one6 {b:Bool} {p n c p' n' c'} {d:Bool} {q m e q' m' e'}:∀v ∈ ([.bool b,.slice p n c,.slice p' n' c',.bool d,.slice q m e,.slice q' m' e']:List Value),v.oneCell'=true:=by
 intro v hm
 simp only [List.mem_cons,List.not_mem_nil,or_false] at hm
 rcases hm with rfl | rfl | rfl | rfl | rfl | rfl <;> rfl
theorem c_ref06_Ends {V:View} {v:Value} {l:L3} {s:Sp} (h:RF V v l s) (hz:Nz l) {k:Nat} (sl:SzL k l) (hs:s.sz k) (hk:20 * k + 20 < 274877906944) :
  Acts prog 86 #[v] V fun r V'=>∃p n c,r=.slice p n c/\Lst 6 RPp V' p n (endsP l s):=by
 have h0:=h
 obtain ⟨lo,hi,a,b⟩:=s
 obtain ⟨_,_,_,_,_,_,_,_,_,_,_,_,_,_,_,_,_,_,_,_,_,_,_,_,_,_,rfl,h1,_,_,_,_,_,_,_,_,_,_,_,_,_,_,e2,h3,h4⟩:=h
 simp only [Value.agg.injEq,Array.mk.injEq,List.cons.injEq,Value.bool.injEq,Value.slice.injEq,true_and,and_true] at e2
 obtain ⟨rfl,⟨rfl,rfl,rfl⟩,⟨rfl,rfl,rfl⟩,rfl,⟨rfl,rfl,rfl⟩,⟨rfl,rfl,rfl⟩⟩:=e2
 dsimp only at h3 h4
 unfold endsP
 dsimp only
 refine vc_ref06_Ends _ _ _ _ _ _ _ _ _ _ _ _ _ _ _ _ _ _ _ _ _ _ _ _ _ _ _ _ V _ ⟨fun ha V1 l1=>?_,fun ha=>⟨fun hb V7 l7=>?_,fun hb V10 l10=>?_⟩⟩
 ·obtain rfl:a=false:=by simpa using ha
  refine (r_At (h1.le l1) (h3.le l1) hz sl hs.1 (by omega)).mono ?_
  rintro r V2 l2 g
  have g0:=g
  obtain ⟨_,_,_,_,_,_,_,_,_,_,_,_,_,_,rfl⟩:=rp_shape g
  refine ⟨_,_,_,_,_,_,_,_,_,_,_,_,_,_,rfl,[],fun i v hv=>by simp at hv,rfl,Nat.le_refl _,fun _=>rfl,by decide,by decide,rfl,one6,fun sp8 c9 h8 h9=>⟨fun hb V3 l3=>?_,fun hb V6 l6 bk21 hbk=>?_⟩⟩
  ·obtain rfl:b=false:=by simpa using hb
   refine (r_At (h1.le (l1.trans (l2.trans l3))) (h4.le (l1.trans (l2.trans l3))) hz sl hs.2 (by omega)).mono ?_
   rintro r V4 l4 g'
   have g0':=g'
   obtain ⟨_,_,_,_,_,_,_,_,_,_,_,_,_,_,rfl⟩:=rp_shape g'
   refine ⟨_,_,_,_,_,_,_,_,_,_,_,_,_,_,rfl,by decide,h8,?_,rfl,one6,fun bk18 J19 sp16 c17 h16 h17 V5 l5 bk20 hbk=>⟨_,_,_,rfl,?_⟩⟩
   ·simp only [List.nil_append,List.length_append,List.length_cons,List.length_nil]; omega
   ·have r1:=(row_one (sz:=6) (R:=RPp) (V:=V5) (xs:=[_,_,_,_,_,_]) (a:=(atX l lo,atY l lo)) rfl (RPp.le g0 (l3.trans (l4.trans l5))))
    have r2:=r1.snoc (xs:=[_,_,_,_,_,_]) (sp:=sp16) (a:=(atX l hi,atY l hi)) rfl (RPp.le g0' l5) (by decide)
    exact Lst.of_row hbk (by simpa using r2)
  ·obtain rfl:b=true:=by simpa using hb
   refine ⟨_,_,_,rfl,?_⟩
   have r1:=(Row.nil (R:=RPp) (V:=V6) (vs:=[]) (sz:=6)).snoc (xs:=[_,_,_,_,_,_]) (sp:=sp8) (a:=(atX l lo,atY l lo)) rfl (RPp.le g0 l6) (by decide)
   exact Lst.of_row hbk (by simpa using r1)
 ·obtain rfl:a=true:=by simpa using ha
  obtain rfl:b=false:=by simpa using hb
  refine (r_At (h1.le l7) (h4.le l7) hz sl hs.2 (by omega)).mono ?_
  rintro r V8 l8 g'
  have g0':=g'
  obtain ⟨_,_,_,_,_,_,_,_,_,_,_,_,_,_,rfl⟩:=rp_shape g'
  refine ⟨_,_,_,_,_,_,_,_,_,_,_,_,_,_,rfl,[],fun i v hv=>by simp at hv,rfl,Nat.le_refl _,fun _=>rfl,by decide,by decide,rfl,one6,fun sp29 c30 h8 h9 V9 l9 bk31 hbk=>⟨_,_,_,rfl,?_⟩⟩
  have r1:=(Row.nil (R:=RPp) (V:=V9) (vs:=[]) (sz:=6)).snoc (xs:=[_,_,_,_,_,_]) (sp:=sp29) (a:=(atX l hi,atY l hi)) rfl (RPp.le g0' l9) (by decide)
  exact Lst.of_row hbk (by simpa using r1)
 ·obtain rfl:a=true:=by simpa using ha
  obtain rfl:b=true:=by simpa using hb
  exact ⟨_,_,_,rfl,Lst.nil⟩
/-- A fragment's shape in package geo. -/
def FrP (v:Value):Prop:=∃(x1 x2:Int) (p:OA) (y1 y2:Int) (q:OA) (z1 z2:Int) (r:OA) (u1 u2:Int) (t:OA) (w1 w2:Int) (o:OA) (a b:Bool),
 v=.agg #[.int .i64 x1,.int .i64 x2,.pointer p,.int .i64 y1,.int .i64 y2,.pointer q,.int .i64 z1,.int .i64 z2,.pointer r,.int .i64 u1,.int .i64 u2,.pointer t,.int .i64 w1,.int .i64 w2,.pointer o,.bool a,.bool b]
theorem one_rsl {V:View} {bk:Nat} {xs:List Value} {ty:TypeId} {m:Nat × Nat} {s:Sp} (hb:V.blk bk (.cells xs.toArray ty m)) (h:RSs V (.agg xs.toArray) s):RSl V (some ⟨bk,0,none⟩) 1 [s]:=
 lst_rsl (Lst.of_row hb (row_one (by obtain ⟨_,_,_,_,_,_,_,_,_,_,_,_,_,_,e,-⟩:=rs_cells h; rw [e]; rfl) h))
theorem onS_sz {m l:L3} {t:Sp} {k:Nat} (h:t.sz k):(onS m t l).sz k:=by
 unfold onS; split
 ·exact h
 ·exact Sp.neg_sz h
theorem neg_good {t:Sp} (h:t.can/\t.emp=false):t.neg.can/\t.neg.emp=false:=by
 obtain ⟨⟨h1,h2⟩,h3⟩:=h
 rw [Sp.emp_iff] at h3
 rw [Sp.emp_iff]
 unfold Sp.neg Sp.can
 cases ha:t.a <;> cases hb:t.b <;> simp [ha,hb] at h1 h2 h3 ⊢ <;> grind
theorem onS_good {m l:L3} {t:Sp} (h:t.can/\t.emp=false):(onS m t l).can/\(onS m t l).emp=false:=by
 unfold onS; split
 ·exact h
 ·exact neg_good h
theorem c_ref06_Overlap {V:View} {v w:Value} {l m:L3} {s t:Sp} (h:RF V v l s) (h':RF V w m t) (ho:FOk l s) (ho':FOk m t) {k:Nat} (sl:SzL k l) (ss:s.sz k) (sm:SzL k m) (st:t.sz k) (hk:20 * k + 20 < 274877906944) :
  Acts prog 38 #[v,w] V fun r V'=>∃u,r=.tuple #[u,.bool (ovB l s m t)]/\FSh u/\(ovB l s m t=true->RF V' u l (s.meet (onS m t l))):=by
 have h0':=h'
 have h0:=h
 obtain ⟨_,_,_,_,_,_,_,_,_,_,_,_,_,_,_,_,_,_,_,_,_,_,_,_,_,_,rfl⟩:=rf_shape h
 obtain ⟨_,_,_,_,_,_,_,_,_,_,_,_,_,_,_,_,_,_,_,_,_,_,_,_,_,_,rfl⟩:=rf_shape h'
 obtain ⟨f1,f2⟩:=rf_parts h0
 obtain ⟨f1',-⟩:=rf_parts h0'
 refine vc_ref06_Overlap _ _ _ _ _ _ _ _ _ _ _ _ _ _ _ _ _ _ _ _ _ _ _ _ _ _ _ _ _ _ _ _ _ _ _ _ _ _ _ _ _ _ _ _ _ _ _ _ _ _ _ _ _ _ _ _ V _ fun V1 l1=>(c_ref06_Collinear (f1.le l1) (f1'.le l1) sl sm (by omega)).mono ?_
 rintro r V2 l2 rfl
 unfold ovB
 rw [onB_symm l m]
 refine ⟨_,rfl,fun hb V3 l3=>?_,fun hb V4 l4=>(c_ref06_onto (f1.le (l1.trans (l2.trans l4))) (h0'.le (l1.trans (l2.trans l4))) sl sm (by omega)).mono ?_⟩
 ·rw [Bool.not_eq_true'] at hb
  rw [hb]
  exact ⟨_,rfl,⟨_,_,_,_,_,_,_,_,_,_,_,_,_,_,_,_,_,_,_,_,_,_,_,_,_,_,_,_,rfl⟩,(fun h=>nomatch h)⟩
 ·rw [Bool.not_eq_false'] at hb
  rw [hb]
  rintro r V5 l5 g
  have g0:=g
  obtain ⟨_,_,_,_,_,_,_,_,_,_,_,_,_,_,rfl⟩:=rs_shape g
  obtain ⟨gc,ge⟩:=onS_good (l:=l) (m:=m) ho'.2
  have gz:=onS_sz (l:=l) (m:=m) st
  generalize onS m t l=x at g0 gc ge gz
  refine ⟨_,_,_,_,_,_,_,_,_,_,_,_,_,_,_,_,rfl,fun V6 l6 bk10 bk11 hb10 hb11=>(c_ref06_Combine (op:=2) (one_rsl hb10 (f2.le (l1.trans (l2.trans (l4.trans (l5.trans l6)))))) (one_rsl hb11 (g0.le l6)) (by simp) (k:=k) (fun z hz=>List.mem_singleton.1 hz ▸ ss) (fun z hz=>List.mem_singleton.1 hz ▸ gz) (by omega)).mono ?_⟩
  rintro r V7 l7 ⟨p,n,c,rfl,hr⟩
  rw [comb_and ho.2.1 gc] at hr
  have hlen:=hr.len
  refine ⟨p,n,c,rfl,fun J13=>⟨fun hn V8 l8=>?_,fun hn=>?_⟩⟩
  ·have hn:(n:Int)=0:=eq_of_beq hn
   have he:(s.meet x).emp=true:=by
    by_cases he:(s.meet x).emp=true
    ·exact he
    ·rw [if_neg he] at hlen; simp at hlen; omega
   rw [he]
   exact ⟨_,rfl,⟨_,_,_,_,_,_,_,_,_,_,_,_,_,_,_,_,_,_,_,_,_,_,_,_,_,_,_,_,rfl⟩,(fun h=>nomatch h)⟩
  ·have hn:¬ (n:Int)=0:=by simpa using hn
   have he:¬ (s.meet x).emp=true:=fun he=>by rw [if_pos he] at hlen; simp at hlen; omega
   rw [if_neg he] at hr
   obtain ⟨ad,ha,xs,hx,hc⟩:=hr.at_ 0 (by simp)
   have hx0:=hx
   obtain ⟨_,_,_,_,_,_,_,_,_,_,_,_,_,_,rfl,-,-⟩:=rs_cells hx
   rw [Nat.zero_mul] at ha
   refine ⟨isSome_addr ha,⟨by decide,by omega⟩,_,_,_,_,_,_,_,_,_,_,_,_,_,_,_,_,ad,ha,hc 0 _ rfl,hc 1 _ rfl,hc 2 _ rfl,hc 3 _ rfl,hc 4 _ rfl,hc 5 _ rfl,hc 6 _ rfl,hc 7 _ rfl,fun V9 l9=>?_⟩
   have he:(s.meet x).emp=false:=by simpa using he
   rw [he]
   exact ⟨_,rfl,⟨_,_,_,_,_,_,_,_,_,_,_,_,_,_,_,_,_,_,_,_,_,_,_,_,_,_,_,_,rfl⟩,fun _=>⟨_,_,_,_,_,_,_,_,_,_,_,_,_,_,_,_,_,_,_,_,_,_,_,_,_,_,rfl,f1.le (l1.trans (l2.trans (l4.trans (l5.trans (l6.trans (l7.trans l9)))))),hx0.le l9⟩⟩
theorem c_ref06_Meet {V:View} {v w:Value} {l m:L3} {s t:Sp} (h:RF V v l s) (h':RF V w m t) (ho:FOk l s) (ho':FOk m t) {k:Nat} (sl:SzL k l) (ss:s.sz k) (sm:SzL k m) (st:t.sz k) (hk:400 * k + 820 < 274877906944) :
  Acts prog 36 #[v,w] V fun r V'=>∃u,r=.tuple #[u,.bool (mtB l s m t)]/\QSh u/\(mtB l s m t=true->RP V' u (mtX l s m t) (mtY l s m t)):=by
 have h0':=h'
 have h0:=h
 obtain ⟨_,_,_,_,_,_,_,_,_,_,_,_,_,_,_,_,_,_,_,_,_,_,_,_,_,_,rfl⟩:=rf_shape h
 obtain ⟨_,_,_,_,_,_,_,_,_,_,_,_,_,_,_,_,_,_,_,_,_,_,_,_,_,_,rfl⟩:=rf_shape h'
 obtain ⟨f1,f2⟩:=rf_parts h0
 obtain ⟨f1',-⟩:=rf_parts h0'
 have nl:=okL_nz ho.1
 have nm:=okL_nz ho'.1
 obtain ⟨K,hK⟩:∃K,K=20 * k + 20:=⟨_,rfl⟩
 have up:∀{x:Rat},Sz k x->Sz K x:=fun h=>h.mono (by omega)
 have slK:SzL K l:=⟨up sl.1,up sl.2.1,up sl.2.2⟩
 have smK:SzL K m:=⟨up sm.1,up sm.2.1,up sm.2.2⟩
 have ssK:s.sz K:=⟨up ss.1,up ss.2⟩
 have stK:t.sz K:=⟨up st.1,up st.2⟩
 refine vc_ref06_Meet _ _ _ _ _ _ _ _ _ _ _ _ _ _ _ _ _ _ _ _ _ _ _ _ _ _ _ _ _ _ _ _ _ _ _ _ _ _ _ _ _ _ _ _ _ _ _ _ _ _ _ _ _ _ _ _ V _ fun V1 l1=>(c_ref06_Collinear (f1.le l1) (f1'.le l1) sl sm (by omega)).mono ?_
 rintro r V2 l2 rfl
 rw [← onB_symm l m]
 refine ⟨_,rfl,fun hb V3 l3=>(r_Meet (f1.le (l1.trans (l2.trans l3))) (f1'.le (l1.trans (l2.trans l3))) sl sm (by omega)).mono ?_,fun hb V12 l12=>(c_ref06_Overlap (h0.le (l1.trans (l2.trans l12))) (h0'.le (l1.trans (l2.trans l12))) ho ho' sl ss sm st (by omega)).mono ?_⟩
 ·rw [Bool.not_eq_true'] at hb
  rintro r V4 l4 ⟨u,rfl,g1,g2⟩
  unfold mtB mtX mtY
  rw [hb]
  simp only [Bool.false_eq_true,if_false]
  unfold offB
  by_cases hc:crossL l m=0
  ·have hu:=g1 hc
   unfold QZero at hu
   subst hu
   have e:decide (crossL l m≠0)=false:=decide_eq_false (fun h=>h hc)
   rw [e]
   exact ⟨_,_,_,_,_,_,_,_,_,_,_,_,_,_,_,rfl,(fun h=>nomatch h),fun _ V11 l11=>⟨_,rfl,⟨_,_,_,_,_,_,_,_,_,_,_,_,_,_,rfl⟩,(fun h=>nomatch h)⟩⟩
  ·have g:=g2 hc
   have g0:=g
   obtain ⟨_,_,_,_,_,_,_,_,_,_,_,_,_,_,rfl⟩:=rp_shape g
   obtain ⟨z1,z2⟩:=sz_me sl sm
   obtain ⟨v1,v2⟩:=val_me hc
   have e:decide (crossL l m≠0)=true:=decide_eq_true hc
   rw [e]
   refine ⟨_,_,_,_,_,_,_,_,_,_,_,_,_,_,_,rfl,fun _ V5 l5=>(c_ref06_Has (h0.le (l1.trans (l2.trans (l3.trans (l4.trans l5))))) (g0.le l5) nl slK ssK (z1.mono (by omega)) (z2.mono (by omega)) (by omega)).mono ?_,(fun h=>nomatch h)⟩
   rintro r V6 l6 rfl
   have e1:hasF l s (meX l m) (meY l m)=s.has (parL l (meX l m) (meY l m)):=by unfold hasF; rw [v1]; simp
   have e2:hasF m t (meX l m) (meY l m)=t.has (parL m (meX l m) (meY l m)):=by unfold hasF; rw [v2]; simp
   rw [e1]
   refine ⟨_,rfl,fun hb1 V7 l7=>(c_ref06_Has (h0'.le (l1.trans (l2.trans (l3.trans (l4.trans (l5.trans (l6.trans l7))))))) (g0.le (l5.trans (l6.trans l7))) nm smK stK (z1.mono (by omega)) (z2.mono (by omega)) (by omega)).mono ?_,fun hb1 V10 l10=>?_⟩
   ·rintro r V8 l8 rfl
    rw [e2,hb1]
    exact ⟨_,rfl,fun V9 l9=>⟨_,rfl,⟨_,_,_,_,_,_,_,_,_,_,_,_,_,_,rfl⟩,fun _=>g0.le (l5.trans (l6.trans (l7.trans (l8.trans l9))))⟩⟩
   ·rw [hb1]
    exact ⟨_,rfl,⟨_,_,_,_,_,_,_,_,_,_,_,_,_,_,rfl⟩,(fun h=>nomatch h)⟩
 ·rw [Bool.not_eq_false'] at hb
  obtain ⟨gc,ge⟩:=onS_good (l:=l) (m:=m) ho'.2
  rintro r V13 l13 ⟨u,rfl,⟨_,_,_,_,_,_,_,_,_,_,_,_,_,_,_,_,_,_,_,_,_,_,_,_,_,_,_,_,rfl⟩,-⟩
  have eo:ovB l s m t=!(s.meet (onS m t l)).emp:=by unfold ovB; rw [hb,Bool.true_and]
  rw [eo]
  refine ⟨_,_,_,_,_,_,_,_,_,_,_,_,_,_,_,_,_,_,_,_,_,_,_,_,_,_,_,_,_,rfl,fun hv V14 l14=>?_,fun hv V15 l15=>(c_ref06_Ends (h0.le (l1.trans (l2.trans (l12.trans (l13.trans l15))))) nl sl ss (by omega)).mono ?_⟩
  ·rw [Bool.not_eq_true'] at hv
   obtain ⟨k1,k2⟩:=end_emp ho.2.2 ge hv
   have e:mtB l s m t=false:=by unfold mtB; rw [hb,if_pos rfl,k1,k2]; rfl
   rw [e]
   exact ⟨_,rfl,⟨_,_,_,_,_,_,_,_,_,_,_,_,_,_,rfl⟩,(fun h=>nomatch h)⟩
  ·rw [Bool.not_eq_false'] at hv
   rintro r V16 l16 ⟨p,n,c,rfl,hp⟩
   have hlen:=hp.len
   have hsz:∀q ∈ endsP l s,Sz K q.1/\Sz K q.2:=fun q hq=>by
    unfold endsP at hq
    rcases List.mem_append.1 hq with hq | hq
    ·cases ha:s.a <;> simp [ha] at hq
     subst hq
     exact ⟨(sz_atX sl ss.1).mono (by omega),(sz_atY sl ss.1).mono (by omega)⟩
    ·cases ha:s.b <;> simp [ha] at hq
     subst hq
     exact ⟨(sz_atX sl ss.2).mono (by omega),(sz_atY sl ss.2).mono (by omega)⟩
   have hl2:(endsP l s).length<=2:=by unfold endsP; cases s.a <;> cases s.b <;> simp
   obtain ⟨m1,m2⟩:=mt_ends (E:=endsP l s) rfl nl ho.2.2 ho'.2.1 ge hb hv
   generalize endsP l s=E at hp hlen hsz hl2 m1 m2
   refine ⟨p,n,c,rfl,fun z _=>∃i:Nat,z=(i:Int)/\i<=E.length/\∀j (hj:j < E.length),j < i->hasF m t (E[j]).1 (E[j]).2=false,fun z=>E.length - z.toNat,⟨0,by and_intros <;> rfl,0,rfl,Nat.zero_le _,fun j _ hj=>absurd hj (Nat.not_lt_zero j)⟩,?_⟩
   rintro z V17 l17 ⟨i,rfl,ile,hall⟩
   have L17:=l1.trans (l2.trans (l12.trans (l13.trans (l15.trans (l16.trans l17)))))
   refine ⟨rfl,fun hlt=>?_,fun hlt V21 l21=>?_⟩
   ·have hlt:(i:Int) < n:=of_decide_eq_true hlt
    have hi:i < E.length:=by omega
    obtain ⟨ad,ha,xs,-,hx,hc⟩:=(hp.le l17 fun _ _ h=>h.le l17).at_ i hi
    have hx0:=hx
    obtain ⟨_,_,_,_,_,_,_,_,_,_,_,_,_,_,ex⟩:=rp_shape hx
    have ex:=congrArg Array.toList (Value.agg.inj ex)
    dsimp only at ex
    subst ex
    obtain ⟨q1,q2⟩:=hsz _ (List.getElem_mem hi)
    refine ⟨isSome_addr ha,⟨by omega,by omega⟩,_,_,_,_,_,_,_,_,_,_,_,_,_,_,ad,by rw [Int.toNat_natCast]; exact ha,hc 0 _ rfl,hc 1 _ rfl,hc 2 _ rfl,hc 3 _ rfl,hc 4 _ rfl,hc 5 _ rfl,fun V18 l18=>(c_ref06_Has (h0'.le (L17.trans l18)) (hx0.le l18) nm smK stK q1 q2 (by omega)).mono ?_⟩
    rintro r V19 l19 rfl
    refine ⟨_,rfl,fun hh V20 l20=>?_,fun hh=>⟨(i:Int) + 1,by dsimp only; omega,by and_intros <;> first | rfl | exact i64w (by omega),i + 1,rfl,hi,fun j hj hji=>?_⟩⟩
    ·obtain ⟨e1,e2⟩:=m1 i hi (fun j hj hji=>hall j hj hji) hh
     rw [e1]
     refine ⟨_,rfl,⟨_,_,_,_,_,_,_,_,_,_,_,_,_,_,rfl⟩,fun _=>?_⟩
     have:=hx0.le (l18.trans (l19.trans l20))
     rw [e2] at this
     exact this
    ·rcases Nat.lt_or_ge j i with h1 | h1
     ·exact hall j hj h1
     ·obtain rfl:j=i:=by omega
      exact hh
   ·have hlt:¬ (i:Int) < n:=of_decide_eq_false hlt
    have e:mtB l s m t=false:=m2 fun q hq=>by
     obtain ⟨j,hj,rfl⟩:=List.getElem_of_mem hq
     exact hall j hj (by omega)
    rw [e]
    exact ⟨_,rfl,⟨_,_,_,_,_,_,_,_,_,_,_,_,_,_,rfl⟩,(fun h=>nomatch h)⟩
theorem c_Fr_Overlap {V:View} {v w:Value} {L:L3} {s:Sp} {M:L3} {t:Sp} (h:RFr V v L s) (h':RFr V w M t) {k:Nat} (sl:SzL k L) (ss:s.sz k) (sm:SzL k M) (st:t.sz k) (hk:20 * k + 20 < 274877906944) :
  Acts prog 87 #[v,w] V fun r V'=>∃u,r=.tuple #[u,.bool (ovB L s M t)]/\FrP u/\(ovB L s M t=true->RFr V' u L (s.meet (onS M t L))):=by
 have h0':=h'
 obtain ⟨_,_,_,_,_,_,_,_,_,_,_,_,_,_,_,rfl,h1,h2⟩:=h
 obtain ⟨_,_,_,_,_,_,_,_,_,_,_,_,_,_,_,rfl,-,-⟩:=h'
 refine vc_geo_Fr_Overlap _ _ _ _ _ _ _ _ _ _ _ _ _ _ _ _ _ _ _ _ _ _ _ _ _ _ _ _ _ _ _ _ _ _ V _ fun V1 l1=>(c_Fr_onto (h0'.le l1) (h1.le l1) sm st sl (by omega)).mono ?_
 rintro r V2 l2 ⟨u,rfl,⟨_,_,_,_,_,_,_,_,rfl⟩,g⟩
 unfold ovB
 refine ⟨_,_,_,_,_,_,_,_,_,rfl,fun hb V3 l3=>?_,fun hb V4 l4=>?_⟩
 ·rw [Bool.not_eq_true'] at hb
  rw [hb]
  exact ⟨_,rfl,⟨_,_,_,_,_,_,_,_,_,_,_,_,_,_,_,_,_,rfl⟩,(fun h=>nomatch h)⟩
 ·rw [Bool.not_eq_false'] at hb
  rw [hb]
  refine (c_Iv_Meet (h2.le (l1.trans (l2.trans l4))) ((g hb).le l4) ss (onS_sz st) (by omega)).mono ?_
  rintro r V5 l5 ⟨u,rfl,g2⟩
  have g20:=g2
  obtain ⟨_,_,_,_,_,_,rfl,-,-⟩:=g2
  refine ⟨_,_,_,_,_,_,_,_,_,rfl,fun he V6 l6=>?_,fun he V7 l7=>?_⟩
  ·have he:(s.meet (onS M t L)).emp=true:=by simpa using he
   rw [he]
   exact ⟨_,rfl,⟨_,_,_,_,_,_,_,_,_,_,_,_,_,_,_,_,_,rfl⟩,(fun h=>nomatch h)⟩
  ·have he:(s.meet (onS M t L)).emp=false:=by simpa using he
   rw [he]
   exact ⟨_,rfl,⟨_,_,_,_,_,_,_,_,_,_,_,_,_,_,_,_,_,rfl⟩,fun _=>⟨_,_,_,_,_,_,_,_,_,_,_,_,_,_,_,rfl,h1.le (l1.trans (l2.trans (l4.trans (l5.trans l7)))),g20.le l7⟩⟩
end Go.Proofs.Tryz
