/- A part of the proof (joined by program from: CombA, CombB, CombC, CombD, CombE, CombF, SetQ, CombG, VSpanA, SpanA). -/
import Derived.Test.YtimkdinmcbepnaaGreatDoorK13
import Derived.Test.YtimkdinmcbepnaaGreatDoorK5
import Derived.Test.YtimkdinmcbepnaaGreatDoorK12
set_option linter.unusedVariables false
open Go.IntKind (i64 u64 u32)
/- Contracts: the reference's in and Probes. -/
namespace Go.Proofs.Tryz
open Go.Eng Go.Big
theorem row_one {α:Type} {sz:Nat} {R:View->Value->α->Prop} {V:View} {xs:List Value} {a:α} (hx:xs.length=sz) (ha:R V (.agg xs.toArray) a):Row sz R V xs [a]:=by
 refine ⟨fun i hi=>?_⟩
 obtain rfl:i=0:=by simpa using hi
 exact ⟨xs,hx,ha,fun j x hj=>by rw [Nat.zero_mul,Nat.zero_add]; exact hj⟩
theorem rq_at {V:View} {p:OA} {n:Nat} {qs:List Rat} (h:Lst 3 RQ V p n qs) {i:Nat} (hi:i < qs.length):∃ad b p1 n1 c1 p2 n2 c2,addrAdd p (i * 3)=some ad/\RQ V (.agg #[.bool b,.slice p1 n1 c1,.slice p2 n2 c2]) qs[i] /\
  V.at (ad.add 0) (.bool b)/\V.at (ad.add 1) (.slice p1 n1 c1)/\V.at (ad.add 2) (.slice p2 n2 c2):=by
 obtain ⟨ad,ha,xs,-,hq,hc⟩:=h.at_ i hi
 have hq0:=hq
 obtain ⟨p1,n1,c1,p2,n2,c2,e⟩:=hq.shape
 have e:=congrArg Array.toList (Value.agg.inj e)
 dsimp only at e
 subst e
 exact ⟨ad,_,p1,n1,c1,p2,n2,c2,ha,hq0,hc 0 _ rfl,hc 1 _ rfl,hc 2 _ rfl⟩
theorem c_ref06_in {V:View} {p:OA} {n c:Nat} {v:Value} {ss:List Sp} {t:Rat} (hl:RSl V p n ss) (ht:RQ V v t) {k:Nat} (hs:∀s ∈ ss,s.sz k) (st:Sz k t) (hk:2 * k < 274877906944) (hn:ss.length < 4611686018427387904) :
  Acts prog 72 #[.slice p n c,v] V fun r V'=>r=.bool (clsL ss t == 2):=by
 have ht0:=ht
 obtain ⟨_,_,_,_,_,_,rfl⟩:=ht.shape
 refine vc_ref06_in p n c _ _ _ _ _ _ _ V _ fun V1 l1=>(c_ref06_Class (hl.le l1) (ht0.le l1) hs st hk hn).mono ?_
 rintro r V2 l2 rfl
 exact ⟨_,rfl,fun V3 l3=>rfl⟩
/-- The probes up to the i-th cut; all of them. -/
def outL (c:List Rat) (i:Nat):List Rat:=(c.getD 0 0 - ((1:Int):Rat)) :: (List.range (i - 1)).map fun k=>(c.getD k 0 + c.getD (k + 1) 0) * ((2:Int):Rat)⁻¹
def probesL (c:List Rat):List Rat:=if c.length=0 then [0] else outL c c.length++[c.getD (c.length - 1) 0 + ((1:Int):Rat)]
theorem outL_len (c:List Rat) {i:Nat} (h:1<=i):(outL c i).length=i:=by unfold outL; simp; omega
theorem outL_succ (c:List Rat) {i:Nat} (h:1<=i):outL c (i + 1)=outL c i++[(c.getD (i - 1) 0 + c.getD i 0) * ((2:Int):Rat)⁻¹]:=by
 obtain ⟨m,rfl⟩:∃m,i=m + 1:=⟨i - 1,by omega⟩
 unfold outL
 rw [Nat.add_sub_cancel,Nat.add_sub_cancel,List.range_succ,List.map_append]
 rfl
theorem getD_at {c:List Rat} {i:Nat} (h:i < c.length):c.getD i 0=c[i]:=by rw [List.getD_eq_getElem?_getD,List.getElem?_eq_getElem h]; rfl
theorem c_ref06_Probes {V:View} {p:OA} {n c:Nat} {cs:List Rat} (h:Lst 3 RQ V p n cs) (hn:cs.length < 1000000000) {k:Nat} (hs:∀q ∈ cs,Sz k q) (hk:4 * k + 8 < 274877906944) :
  Acts prog 71 #[.slice p n c] V fun r V'=>∃q m e,r=.slice q m e/\Lst 3 RQ V' q m (probesL cs):=by
 obtain rfl:=h.len
 refine vc_ref06_Probes p _ c V _ ⟨fun h0 V1 l1 bk hb=>?_,fun h0=>?_⟩
 ·have h0:cs.length=0:=by simpa using h0
  have e:probesL cs=[0]:=if_pos h0
  rw [e]
  refine ⟨_,_,_,rfl,Lst.of_row hb (row_one rfl ?_)⟩
  have:=RQ.zero (V:=V1)
  simpa using this
 ·have h0:¬ cs.length=0:=by simpa using h0
  have e:probesL cs=outL cs cs.length++[cs.getD (cs.length - 1) 0 + ((1:Int):Rat)]:=if_neg h0
  rw [e]
  have i0:0 < cs.length:=by omega
  obtain ⟨ad,b,p1,n1,c1,p2,n2,c2,ha,hq,a0,a1,a2⟩:=rq_at h i0
  refine ⟨isSome_addr ha,⟨by omega,by omega⟩,_,_,_,_,_,_,_,ad,ha,a0,a1,a2,fun V2 l2=>(c_num_Of 1 (by decide) (by decide)).mono ?_⟩
  rintro r V3 l3 g
  have g0:=g
  obtain ⟨_,_,_,_,_,_,rfl⟩:=g.shape
  refine ⟨_,_,_,_,_,_,_,rfl,fun V4 l4=>(c_num_Sub (hq.le (l2.trans (l3.trans l4))) (g0.le l4) (hs _ (List.getElem_mem i0)) szi_one (by omega)).mono ?_⟩
  rintro r V5 l5 q1
  have q10:=q1
  obtain ⟨_,_,_,_,_,_,rfl⟩:=q1.shape
  have L5:V.Le V5:=l2.trans (l3.trans (l4.trans l5))
  refine ⟨_,_,_,_,_,_,_,rfl,fun z V'=>∃i:Nat,z.2.2.2=(i:Int)/\1<=i/\i<=cs.length/\z.1=i/\i<=z.2.1/\z.2.1 * 3<=z.2.2.1.length/\Row 3 RQ V' z.2.2.1 (outL cs i),fun z=>cs.length - z.2.2.2.toNat,
   ⟨(1,1,_,1),by and_intros <;> first | rfl | decide,1,rfl,Nat.le_refl _,i0,rfl,Nat.le_refl _,Nat.le_refl _,row_one rfl (by rw [getD_at i0]; exact q10)⟩,?_⟩
  rintro ⟨z1,z2,vs,z4⟩ V6 l6 ⟨i,e4,i1,ile,e1,ic,hv,hx⟩
  dsimp only at e4 e1 ic hv hx
  subst e4 e1
  have hlen:=outL_len cs i1
  refine ⟨rfl,fun hlt=>?_,fun hlt=>?_⟩
  ·have hlt:(z1:Int) < cs.length:=of_decide_eq_true hlt
   have hi:z1 < cs.length:=by omega
   have hi':z1 - 1 < cs.length:=by omega
   have w1:i64.wrap ((z1:Int) - 1)=((z1 - 1:Nat):Int):=by rw [i64w (by omega)]; omega
   have w2:i64.wrap ((z1:Int) + 1)=(z1:Int) + 1:=i64w (by omega)
   dsimp only
   rw [w1,w2,Int.toNat_natCast,Int.toNat_natCast]
   obtain ⟨ad1,b1,p3,n3,c3,p4,n4,c4,ha1,hq1,b0,b1',b2⟩:=rq_at (h.le (L5.trans l6) fun _ _ g=>g.le (L5.trans l6)) hi'
   obtain ⟨ad2,d1,p5,n5,c5,p6,n6,c6,ha2,hq2,d0,d1',d2⟩:=rq_at (h.le (L5.trans l6) fun _ _ g=>g.le (L5.trans l6)) hi
   refine ⟨isSome_addr ha1,⟨by omega,by omega⟩,_,_,_,_,_,_,_,ad1,ha1,b0,b1',b2,isSome_addr ha2,⟨by omega,by omega⟩,_,_,_,_,_,_,_,ad2,ha2,d0,d1',d2,fun V7 l7=>(c_num_Mid (hq1.le l7) (hq2.le l7) (hs _ (List.getElem_mem hi')) (hs _ (List.getElem_mem hi)) (by omega)).mono ?_⟩
   rintro r V8 l8 q2
   have q20:=q2
   obtain ⟨_,_,_,_,_,_,rfl⟩:=q2.shape
   refine ⟨_,_,_,_,_,_,_,rfl,by omega,ic,hv,rfl,?_,fun sp c' h1 h2=>⟨(z1 + 1,c',_,(z1:Int) + 1),by dsimp only; omega,by and_intros <;> rfl,z1 + 1,rfl,by omega,hi,rfl,h1,?_,?_⟩⟩
   ·intro v hm
    simp only [List.mem_cons,List.not_mem_nil,or_false] at hm
    rcases hm with rfl | rfl | rfl <;> rfl
   ·dsimp only
    have ht:(vs.take (z1 * 3)).length=z1 * 3:=by rw [List.length_take]; omega
    rw [List.length_append,List.length_append,ht]
    simp only [List.length_cons,List.length_nil]
    omega
   ·dsimp only
    rw [outL_succ cs i1,getD_at hi',getD_at hi]
    have:=(hx.le (V':=V8) fun _ _ g=>g.le (l7.trans l8)).snoc (sp:=sp) rfl q20 (by decide)
    rw [hlen] at this
    exact this
  ·have hlt:¬ (z1:Int) < cs.length:=of_decide_eq_false hlt
   obtain rfl:z1=cs.length:=by omega
   have hi:cs.length - 1 < cs.length:=by omega
   have w1:i64.wrap ((cs.length:Int) - 1)=((cs.length - 1:Nat):Int):=by rw [i64w (by omega)]; omega
   dsimp only
   rw [w1,Int.toNat_natCast]
   obtain ⟨ad1,b1,p3,n3,c3,p4,n4,c4,ha1,hq1,b0,b1',b2⟩:=rq_at (h.le (L5.trans l6) fun _ _ g=>g.le (L5.trans l6)) hi
   refine ⟨isSome_addr ha1,⟨by omega,by omega⟩,_,_,_,_,_,_,_,ad1,ha1,b0,b1',b2,fun V9 l9=>(c_num_Of 1 (by decide) (by decide)).mono ?_⟩
   rintro r V10 l10 g2
   have g20:=g2
   obtain ⟨_,_,_,_,_,_,rfl⟩:=g2.shape
   refine ⟨_,_,_,_,_,_,_,rfl,fun V11 l11=>(c_num_Plus (hq1.le (l9.trans (l10.trans l11))) (g20.le l11) (hs _ (List.getElem_mem hi)) szi_one (by omega)).mono ?_⟩
   rintro r V12 l12 q2
   have q20:=q2
   obtain ⟨_,_,_,_,_,_,rfl⟩:=q2.shape
   refine ⟨_,_,_,_,_,_,_,rfl,by omega,ic,hv,rfl,?_,fun sp c' h1 h2 V13 l13 bk hb=>?_⟩
   ·intro v hm
    simp only [List.mem_cons,List.not_mem_nil,or_false] at hm
    rcases hm with rfl | rfl | rfl <;> rfl
   ·have L:=l9.trans (l10.trans (l11.trans (l12.trans l13)))
    have:=(hx.le (V':=V13) fun _ _ g=>g.le L).snoc (sp:=sp) rfl (q20.le l13) (by decide)
    rw [hlen] at this
    have k:=Lst.of_mrow (c:=c') hb this (by decide) (by rw [List.length_append,hlen]; exact h1)
    rw [List.length_append,hlen] at k
    rw [getD_at hi]
    exact ⟨_,_,_,rfl,k⟩
end Go.Proofs.Tryz
/- Plain: a number put into an ascending list; an element put into a row. -/
namespace Go.Proofs.Tryz
open Go.Eng Go.Big
/-- x put into a list, each number once. -/
def insQ (x:Rat):List Rat->List Rat
 | []=>[x]
 | y :: r=>if y < x then y :: insQ x r else if y=x then y :: r else x :: y :: r
theorem insQ_at {x:Rat}:∀(o:List Rat) (k:Nat),k<=o.length->(∀j (h:j < o.length),j < k->o[j] < x)->(∀h:k < o.length,¬ o[k] < x) ->
  insQ x o=if (∃h:k < o.length,o[k]=x) then o else o.take k++x :: o.drop k:=by
 intro o
 induction o with
 | nil=>
  intro k hk _ _
  obtain rfl:k=0:=by simpa using hk
  simp [insQ]
 | cons y r ih=>
  intro k hk hlt hge
  cases k with
  | zero=>
   have h0:¬ y < x:=hge (by simp)
   unfold insQ
   rw [if_neg h0]
   by_cases e:y=x
   ·rw [if_pos e,if_pos ⟨by simp,e⟩]
   ·rw [if_neg e,if_neg (by rintro ⟨_,h⟩; exact e h)]
    rfl
  | succ k=>
   have h0:y < x:=hlt 0 (by simp) (by omega)
   unfold insQ
   rw [if_pos h0,ih k (by simpa using hk) (fun j h hj=>hlt (j + 1) (by simpa using h) (by omega)) (fun h=>hge (by simpa using h))]
   by_cases e:∃h:k < r.length,r[k]=x
   ·obtain ⟨h1,h2⟩:=e
    rw [if_pos ⟨h1,h2⟩,if_pos ⟨by simpa using h1,h2⟩]
   ·rw [if_neg e,if_neg (by rintro ⟨h1,h2⟩; exact e ⟨by simpa using h1,h2⟩)]
    rfl
theorem row_insert {α:Type} {sz:Nat} {R:View->Value->α->Prop} {V:View} {vs:List Value} {ls:List α} (h:Row sz R V vs ls) {k:Nat} (hk:k<=ls.length) {xs sp:List Value} {a:α} (hx:xs.length=sz) (ha:R V (.agg xs.toArray) a) (hs:0 < sz) :
  Row sz R V (vs.take (k * sz)++(xs++(vs.take (ls.length * sz)).drop (k * sz))++sp) (ls.take k++a :: ls.drop k):=by
 have hl:=h.len_le hs
 have hks:k * sz<=ls.length * sz:=Nat.mul_le_mul_right _ hk
 have t1:(vs.take (k * sz)).length=k * sz:=by rw [List.length_take]; omega
 have t2:((vs.take (ls.length * sz)).drop (k * sz)).length=ls.length * sz - k * sz:=by rw [List.length_drop,List.length_take]; omega
 have a1:(ls.take k).length=k:=by rw [List.length_take]; omega
 refine ⟨fun i hi=>?_⟩
 rw [List.append_assoc]
 by_cases c1:i < k
 ·have hi':i < ls.length:=by omega
  obtain ⟨ys,y1,y2,y3⟩:=h.at_ i hi'
  have e:(ls.take k++a :: ls.drop k)[i]=ls[i]:=by rw [List.getElem_append_left (by omega),List.getElem_take]
  refine ⟨ys,y1,by rw [e]; exact y2,fun j x hj=>?_⟩
  have hj':=(List.getElem?_eq_some_iff.1 hj).1
  have hlt:i * sz + j < k * sz:=by
   have:(i + 1) * sz<=k * sz:=Nat.mul_le_mul_right _ c1
   rw [Nat.succ_mul] at this
   omega
  rw [List.getElem?_append_left (by omega),List.getElem?_take,if_pos hlt]
  exact y3 j x hj
 ·by_cases c2:i=k
  ·subst c2
   have e:(ls.take i++a :: ls.drop i)[i]=a:=by
    rw [List.getElem_append_right (by omega)]
    simp [a1]
   refine ⟨xs,hx,by rw [e]; exact ha,fun j x hj=>?_⟩
   have hj':=(List.getElem?_eq_some_iff.1 hj).1
   rw [List.getElem?_append_right (by omega),t1,Nat.add_sub_cancel_left,List.append_assoc,List.getElem?_append_left hj']
   exact hj
  ·have hi':i - 1 < ls.length:=by
    rw [List.length_append,a1,List.length_cons,List.length_drop] at hi
    omega
   obtain ⟨ys,y1,y2,y3⟩:=h.at_ (i - 1) hi'
   have e:(ls.take k++a :: ls.drop k)[i]=ls[i - 1]:=by
    rw [List.getElem_append_right (by omega)]
    obtain ⟨m,hm⟩:∃m,i=k + (m + 1):=⟨i - k - 1,by omega⟩
    subst hm
    simp only [a1,Nat.add_sub_cancel_left,List.getElem_cons_succ,List.getElem_drop]
    congr 1
   refine ⟨ys,y1,by rw [e]; exact y2,fun j x hj=>?_⟩
   have hj':=(List.getElem?_eq_some_iff.1 hj).1
   obtain ⟨m,hm⟩:∃m,i=k + 1 + m:=⟨i - k - 1,by omega⟩
   subst hm
   have e1:(k + 1 + m) * sz=k * sz + sz + m * sz:=by rw [Nat.add_mul,Nat.add_mul,Nat.one_mul]
   have e2:(k + 1 + m - 1) * sz=k * sz + m * sz:=by rw [show k + 1 + m - 1=k + m by omega,Nat.add_mul]
   have:=y3 j x hj
   rw [e2] at this
   have hlt:k * sz + m * sz + j < ls.length * sz:=by
    have:(k + m + 1) * sz<=ls.length * sz:=Nat.mul_le_mul_right _ (by omega)
    rw [Nat.add_mul,Nat.add_mul,Nat.one_mul] at this
    omega
   rw [List.getElem?_append_right (by omega),t1,List.append_assoc,List.getElem?_append_right (by omega),hx,List.getElem?_append_left (by omega),List.getElem?_drop,List.getElem?_take,if_pos (by omega)]
   rw [show k * sz + ((k + 1 + m) * sz + j - k * sz - sz)=k * sz + m * sz + j by omega]
   exact this
end Go.Proofs.Tryz
/- Contract: the reference's ends. -/
namespace Go.Proofs.Tryz
open Go.Eng Go.Big
def stepE (s:Sp) (o:List Rat):Nat->List Rat
 | 0=>o
 | 1=>if s.a then o else insQ s.lo o
 | _=>if s.b then (if s.a then o else insQ s.lo o) else insQ s.hi (if s.a then o else insQ s.lo o)
def endsL (ss:List Sp):List Rat:=ss.foldl (fun o s=>stepE s o 2) []
theorem endsL_succ {ss:List Sp} {i:Nat} (hi:i < ss.length):endsL (ss.take (i + 1))=stepE ss[i] (endsL (ss.take i)) 2:=by
 unfold endsL
 rw [List.take_add_one,List.getElem?_eq_getElem hi,List.foldl_append]; rfl
theorem insQ_mem {x q:Rat}:∀{o:List Rat},q ∈ insQ x o->q=x \/ q ∈ o:=by
 intro o
 induction o with
 | nil=>intro h; simp [insQ] at h; exact .inl h
 | cons y r ih=>
  unfold insQ
  split
  ·intro h
   rcases List.mem_cons.1 h with h | h
   ·exact .inr (by simp [h])
   ·rcases ih h with h | h
    ·exact .inl h
    ·exact .inr (by simp [h])
  ·split
   ·exact .inr
   ·intro h
    rcases List.mem_cons.1 h with h | h
    ·exact .inl h
    ·exact .inr h
theorem insQ_len {x:Rat}:∀{o:List Rat},(insQ x o).length<=o.length + 1:=by
 intro o
 induction o with
 | nil=>simp [insQ]
 | cons y r ih=>
  unfold insQ
  split
  ·simp; omega
  ·split <;> simp
theorem stepE_succ {s:Sp} {o:List Rat} {y:Nat} (hy:y < 2):stepE s o (y + 1)=if (if y=0 then s.a else s.b)=true then stepE s o y else insQ (if y=0 then s.lo else s.hi) (stepE s o y):=by
 have:y=0 \/ y=1:=by omega
 rcases this with rfl | rfl <;> rfl
theorem stepE_len {s:Sp} {o:List Rat} {y:Nat} (hy:y<=2):(stepE s o y).length<=o.length + y:=by
 have h1:=@insQ_len s.lo o
 have h2:=@insQ_len s.hi (if s.a then o else insQ s.lo o)
 have h3:(if s.a then o else insQ s.lo o).length<=o.length + 1:=by split <;> omega
 have:y=0 \/ y=1 \/ y=2:=by omega
 rcases this with rfl | rfl | rfl
 ·exact Nat.le_refl _
 ·exact h3
 ·show (if s.b=true then (if s.a=true then o else insQ s.lo o) else insQ s.hi (if s.a=true then o else insQ s.lo o)).length<=_
  by_cases hb:s.b=true
  ·rw [if_pos hb]; omega
  ·rw [if_neg hb]; omega
theorem stepE_mem {s:Sp} {o:List Rat} {y:Nat} (hy:y<=2) {q:Rat} (h:q ∈ stepE s o y):q=s.lo \/ q=s.hi \/ q ∈ o:=by
 have h1:q ∈ (if s.a then o else insQ s.lo o)->q=s.lo \/ q=s.hi \/ q ∈ o:=by
  split
  ·exact fun h=>.inr (.inr h)
  ·intro h
   rcases insQ_mem h with h | h
   ·exact .inl h
   ·exact .inr (.inr h)
 have:y=0 \/ y=1 \/ y=2:=by omega
 rcases this with rfl | rfl | rfl
 ·exact .inr (.inr h)
 ·exact h1 h
 ·replace h:q ∈ (if s.b=true then (if s.a=true then o else insQ s.lo o) else insQ s.hi (if s.a=true then o else insQ s.lo o)):=h
  by_cases hb:s.b=true
  ·rw [if_pos hb] at h
   exact h1 h
  ·rw [if_neg hb] at h
   rcases insQ_mem h with h | h
   ·exact .inr (.inl h)
   ·exact h1 h
theorem endsL_len (ss:List Sp):(endsL ss).length<=2 * ss.length:=by
 have:∀(ss:List Sp) (o:List Rat),(ss.foldl (fun o s=>stepE s o 2) o).length<=o.length + 2 * ss.length:=by
  intro ss
  induction ss with
  | nil=>intro o; simp
  | cons s r ih=>
   intro o
   have:=ih (stepE s o 2)
   have h2:=stepE_len (s:=s) (o:=o) (Nat.le_refl 2)
   simp only [List.foldl_cons,List.length_cons]
   omega
 have:=this ss []
 simpa [endsL] using this
theorem endsL_mem {ss:List Sp} {q:Rat} (h:q ∈ endsL ss):∃s ∈ ss,q=s.lo \/ q=s.hi:=by
 have:∀(ss:List Sp) (o:List Rat),q ∈ (ss.foldl (fun o s=>stepE s o 2) o)->q ∈ o \/ ∃s ∈ ss,q=s.lo \/ q=s.hi:=by
  intro ss
  induction ss with
  | nil=>exact fun o h=>.inl h
  | cons s r ih=>
   intro o h
   rcases ih _ h with h | ⟨t,ht,h⟩
   ·rcases stepE_mem (Nat.le_refl 2) h with h | h | h
    ·exact .inr ⟨s,by simp,.inl h⟩
    ·exact .inr ⟨s,by simp,.inr h⟩
    ·exact .inl h
   ·exact .inr ⟨t,by simp [ht],h⟩
 rcases this ss [] h with h | h
 ·simp at h
 ·exact h
/-- A number's cells in an own row. -/
theorem row_rq {V:View} {vs:List Value} {qs:List Rat} (h:Row 3 RQ V vs qs) {i:Nat} (hi:i < qs.length):∃b p1 n1 c1 p2 n2 c2,i * 3 + 3<=vs.length/\(vs.drop (i * 3)).take 3=[.bool b,.slice p1 n1 c1,.slice p2 n2 c2]/\RQ V (.agg #[.bool b,.slice p1 n1 c1,.slice p2 n2 c2]) qs[i]:=by
 obtain ⟨xs,-,hq,hc⟩:=h.at_ i hi
 have hq0:=hq
 obtain ⟨p1,n1,c1,p2,n2,c2,e⟩:=hq.shape
 have e:=congrArg Array.toList (Value.agg.inj e)
 dsimp only at e
 subst e
 have a0:=hc 0 _ rfl
 have a1:=hc 1 _ rfl
 have a2:=hc 2 _ rfl
 have hl:=(List.getElem?_eq_some_iff.1 a2).1
 refine ⟨_,p1,n1,c1,p2,n2,c2,by omega,?_,hq0⟩
 apply List.ext_getElem?
 intro j
 rw [List.getElem?_take]
 by_cases h0:j < 3
 ·rw [if_pos h0,List.getElem?_drop]
  have:j=0 \/ j=1 \/ j=2:=by omega
  rcases this with rfl | rfl | rfl
  ·exact a0
  ·exact a1
  ·exact a2
 ·rw [if_neg h0,List.getElem?_eq_none (by simp; omega)]
end Go.Proofs.Tryz
/- Contract: the reference's ends. -/
namespace Go.Proofs.Tryz
open Go.Eng Go.Big
theorem row_cell {V:View} {vs:List Value} {qs:List Rat} (h:Row 3 RQ V vs qs) {m:Nat} (hm:m < qs.length * 3) {v:Value} (hv:vs[m]?=some v):v.oneCell'=true:=by
 have hi:m / 3 < qs.length:=by omega
 obtain ⟨b,p1,n1,c1,p2,n2,c2,hl,e,-⟩:=row_rq h hi
 have e3:m=m / 3 * 3 + m % 3:=by omega
 have hlt:m % 3 < 3:=Nat.mod_lt _ (by decide)
 have:((vs.drop (m / 3 * 3)).take 3)[m % 3]?=some v:=by
  rw [List.getElem?_take,if_pos hlt,List.getElem?_drop,← e3]; exact hv
 rw [e] at this
 have hj:m % 3=0 \/ m % 3=1 \/ m % 3=2:=by omega
 rcases hj with hj | hj | hj <;> rw [hj] at this <;> cases this <;> rfl
theorem cmpQ_neg {a b:Rat}:cmpQ a b < 0↔a < b:=by
 rcases cmpQ_or a b with ⟨h,e⟩ | ⟨h,e⟩ | ⟨h,e⟩ <;> rw [e] <;> constructor <;> intro h' <;> first | exact h | omega | (exfalso; grind)
set_option maxHeartbeats 1000000 in
theorem c_ref06_ends {V:View} {p:OA} {n c:Nat} {ss:List Sp} (h:RSl V p n ss) (hn:ss.length < 100000000) {k:Nat} (hs:∀s ∈ ss,s.sz k) (hk:2 * k < 274877906944) :
  Acts prog 70 #[.slice p n c] V fun r V'=>∃q m e,r=.slice q m e/\Lst 3 RQ V' q m (endsL ss):=by
 obtain rfl:=h.len
 refine vc_ref06_ends p _ c V _ ⟨fun z V'=>∃i:Nat,z.2.2.2=(i:Int)/\i<=ss.length/\z.1=(endsL (ss.take i)).length/\z.1<=z.2.1/\z.2.1 * 3<=z.2.2.1.length/\Row 3 RQ V' z.2.2.1 (endsL (ss.take i)),fun z=>ss.length - z.2.2.2.toNat,
  ⟨(0,0,[],0),by and_intros <;> rfl,0,rfl,Nat.zero_le _,rfl,Nat.le_refl _,Nat.le_refl _,Row.nil⟩,?_⟩
 rintro ⟨z1,z2,vs,z4⟩ V1 l1 ⟨i,e4,ile,e1,ic,hv,hx⟩
 dsimp only at e4 e1 ic hv hx
 subst e4
 refine ⟨rfl,fun hlt=>?_,fun hlt V13 l13 bk hb=>?_⟩
 ·have hlt:(i:Int) < ss.length:=of_decide_eq_true hlt
  have hi:i < ss.length:=by omega
  have w:i64.wrap ((i:Int) + 1)=(i:Int) + 1:=i64w (by omega)
  dsimp only
  rw [Int.toNat_natCast,w]
  obtain ⟨ad,ha,xs,hf,hat⟩:=(h.le l1).at_ i hi
  have hss:=hs _ (List.getElem_mem hi)
  have hsucc:=endsL_succ hi
  have hol:(endsL (ss.take i)).length < 300000000:=by
   have:=endsL_len (ss.take i)
   rw [List.length_take] at this
   omega
  have hom:∀q ∈ endsL (ss.take i),Sz k q:=fun q hq=>by
   obtain ⟨s,h1,h2⟩:=endsL_mem hq
   have:=hs s (List.mem_of_mem_take h1)
   rcases h2 with rfl | rfl
   ·exact this.1
   ·exact this.2
  generalize endsL (ss.take i)=o at *
  generalize ss[i]=s at *
  obtain ⟨b,p1,n1,c1,p2,n2,c2,d,q1,m1,f1,q2,m2,f2,ex,hlo,hhi⟩:=hf
  have ex:=congrArg Array.toList (Value.agg.inj ex)
  dsimp only at ex
  subst ex
  refine ⟨isSome_addr ha,⟨by omega,by omega⟩,b,p1,n1,c1,p2,n2,c2,d,q1,m1,f1,q2,m2,f2,s.a,s.b,ad,ha,hat 0 _ rfl,hat 1 _ rfl,hat 2 _ rfl,hat 3 _ rfl,hat 4 _ rfl,hat 5 _ rfl,hat 6 _ rfl,hat 7 _ rfl,
   fun z _=>z=(2,2,[.bool b,.slice p1 n1 c1,.slice p2 n2 c2,.bool d,.slice q1 m1 f1,.slice q2 m2 f2],2,0),⟨(2,2,[.bool b,.slice p1 n1 c1,.slice p2 n2 c2,.bool d,.slice q1 m1 f1,.slice q2 m2 f2],2,0),by and_intros <;> first | rfl | decide,rfl⟩,?_⟩
  rintro z V2 l2 rfl
  dsimp only
  refine ⟨rfl,fun z V'=>∃y:Nat,z.2.2.2=(y:Int)/\y<=2/\z.1=(stepE s o y).length/\z.1<=z.2.1/\z.2.1 * 3<=z.2.2.1.length/\Row 3 RQ V' z.2.2.1 (stepE s o y),fun z=>2 - z.2.2.2.toNat,
   ⟨(z1,z2,vs,0),by and_intros <;> rfl,0,rfl,by omega,e1,ic,hv,hx.le fun _ _ g=>g.le l2⟩,?_⟩
  rintro ⟨w1,w2,us,w4⟩ V3 l3 ⟨y,f4,yle,g1,fc,fv,fx⟩
  dsimp only at f4 g1 fc fv fx
  subst f4
  refine ⟨rfl,fun hy=>?_,fun hy=>?_⟩
  ·have hy:(y:Int) < 2:=of_decide_eq_true hy
   have hy2:y < 2:=by omega
   have hst:=stepE_succ (s:=s) (o:=o) hy2
   have hOl:=stepE_len (s:=s) (o:=o) yle
   have hOm:∀q ∈ stepE s o y,Sz k q:=fun q hq=>by
    rcases stepE_mem yle hq with h | h | h
    ·rw [h]; exact hss.1
    ·rw [h]; exact hss.2
    ·exact hom q h
   have wy:i64.wrap ((y:Int) + 1)=(y:Int) + 1:=i64w (by omega)
   generalize hO:stepE s o y=O at *
   generalize hO':stepE s o (y + 1)=O' at *
   have el:∃eb ep en ec eq em ee x no,([.bool b,.slice p1 n1 c1,.slice p2 n2 c2,.bool d,.slice q1 m1 f1,.slice q2 m2 f2].drop (y * 3)).take 3=[Value.bool eb,.slice ep en ec,.slice eq em ee]/\RQ V3 (.agg #[.bool eb,.slice ep en ec,.slice eq em ee]) x/\Sz k x/\O'=(if no=true then O else insQ x O) /\
     ((y=0/\no=s.a) \/ (y=1/\no=s.b)):=by
    have:y=0 \/ y=1:=by omega
    rcases this with rfl | rfl
    ·exact ⟨b,p1,n1,c1,p2,n2,c2,s.lo,s.a,rfl,hlo.le (l2.trans l3),hss.1,hst,.inl ⟨rfl,rfl⟩⟩
    ·exact ⟨d,q1,m1,f1,q2,m2,f2,s.hi,s.b,rfl,hhi.le (l2.trans l3),hss.2,hst,.inr ⟨rfl,rfl⟩⟩
   obtain ⟨eb,ep,en,ec,eq,em,ee,x,no,eel,hq,sx,hO2,hno⟩:=el
   dsimp only
   rw [Int.toNat_natCast,wy]
   refine ⟨⟨by omega,by omega⟩,Nat.le_refl _,eb,ep,en,ec,eq,em,ee,⟨by simp; omega,eel⟩,fun z _=>z=no,?_,?_⟩
   ·rcases hno with ⟨rfl,rfl⟩ | ⟨rfl,rfl⟩
    ·exact ⟨fun _=>⟨fun ha=>⟨true,by and_intros <;> rfl,ha.symm⟩,fun ha=>⟨(fun h=>by simp at h),fun _=>⟨false,by and_intros <;> rfl,ha.symm⟩⟩⟩,fun h=>by simp at h⟩
    ·exact ⟨fun h=>by simp at h,fun _=>⟨fun _=>⟨s.b,by and_intros <;> rfl,rfl⟩,fun h=>by simp at h⟩⟩
   ·rintro z V4 l4 rfl
    refine ⟨rfl,fun hz=>⟨(w1,w2,us,(y:Int) + 1),by dsimp only; omega,by and_intros <;> rfl,y + 1,rfl,by omega,?_,fc,fv,?_⟩,fun hz=>?_⟩
    ·show w1=(stepE s o (y + 1)).length
     rw [hO',hO2,if_pos hz]; exact g1
    ·show Row 3 RQ V4 us (stepE s o (y + 1))
     rw [hO',hO2,if_pos hz]; exact fx.le fun _ _ g=>g.le l4
    ·have hO3:O'=insQ x O:=by rw [hO2,hz]; rfl
     refine ⟨fun z _=>∃j:Nat,z=(j:Int)/\j<=O.length/\∀(i':Nat) (h:i' < O.length),i' < j->O[i'] < x,fun z=>O.length - z.toNat,⟨0,by and_intros <;> rfl,0,rfl,Nat.zero_le _,fun i' _ h=>absurd h (Nat.not_lt_zero i')⟩,?_⟩
     rintro z V5 l5 ⟨j,rfl,jle,jl⟩
     have wj:i64.wrap ((j:Int) + 1)=(j:Int) + 1:=i64w (by omega)
     rw [Int.toNat_natCast,wj]
     refine ⟨rfl,fun z _=>z=true↔∃h:j < O.length,O[j] < x,⟨fun hlt=>?_,fun hlt=>⟨false,by and_intros <;> rfl,?_⟩⟩,?_⟩
     ·have hlt:(j:Int) < (w1:Int):=of_decide_eq_true hlt
      have hj:j < O.length:=by omega
      obtain ⟨rb,rp,rn,rc,rq,rm,re,le1,eqn,hr⟩:=row_rq fx hj
      refine ⟨⟨by omega,by omega⟩,fc,rb,rp,rn,rc,rq,rm,re,⟨le1,eqn⟩,fun V6 l6=>(c_num_C (hr.le (l4.trans (l5.trans l6))) (hq.le (l4.trans (l5.trans l6))) (hOm _ (List.getElem_mem hj)) sx (by omega)).mono ?_⟩
      rintro r V7 l7 rfl
      exact ⟨_,rfl,_,by and_intros <;> rfl,by dsimp only; rw [decide_eq_true_eq,cmpQ_neg]; exact ⟨fun h=>⟨hj,h⟩,fun ⟨_,h⟩=>h⟩⟩
     ·have hlt:¬ (j:Int) < (w1:Int):=of_decide_eq_false hlt
      exact ⟨(fun h=>nomatch h),fun ⟨h,_⟩=>absurd h (by omega)⟩
     ·rintro z V8 l8 hz8
      refine ⟨rfl,fun hz=>?_,fun hz=>?_⟩
      ·obtain ⟨hj,hx'⟩:=hz8.1 hz
       refine ⟨(j:Int) + 1,by dsimp only; omega,by and_intros <;> rfl,j + 1,rfl,hj,fun i' h hi'=>?_⟩
       by_cases e:i'=j
       ·subst e; exact hx'
       ·exact jl i' h (by omega)
      ·have hge:∀h:j < O.length,¬ O[j] < x:=fun h h'=>by
        have:=hz8.2 ⟨h,h'⟩
        rw [hz] at this; cases this
       have hins:=insQ_at O j jle jl hge
       refine ⟨fun z _=>z=true↔¬ ∃h:j < O.length,O[j]=x,⟨fun he=>⟨true,by and_intros <;> rfl,?_⟩,fun he=>?_⟩,?_⟩
       ·have he:(j:Int)=(w1:Int):=by simpa using he
        exact ⟨fun _ ⟨h,_⟩=>absurd h (by omega),fun _=>rfl⟩
       ·have he:¬ (j:Int)=(w1:Int):=by simpa using he
        have hj:j < O.length:=by omega
        obtain ⟨rb,rp,rn,rc,rq,rm,re,le1,eqn,hr⟩:=row_rq fx hj
        refine ⟨⟨by omega,by omega⟩,fc,rb,rp,rn,rc,rq,rm,re,⟨le1,eqn⟩,fun V6 l6=>(c_num_C (hr.le (l4.trans (l5.trans (l8.trans l6)))) (hq.le (l4.trans (l5.trans (l8.trans l6)))) (hOm _ (List.getElem_mem hj)) sx (by omega)).mono ?_⟩
        rintro r V7 l7 rfl
        exact ⟨_,rfl,_,by and_intros <;> rfl,by dsimp only; rw [bne_iff_ne,ne_eq,← cmpQ_eq]; exact ⟨fun h ⟨_,h'⟩=>h h',fun h h'=>h ⟨hj,h'⟩⟩⟩
       ·rintro z V11 l11 hz11
        refine ⟨rfl,fun hz V12 l12 bk hb J=>?_,fun hz=>?_⟩
        ·have hne:=hz11.1 hz
         rw [if_neg hne] at hins
         have fxl:=fx.len_le (by decide)
         have fx12:=fx.le (V':=V12) fun _ _ g=>g.le (l4.trans (l5.trans (l8.trans (l11.trans l12))))
         have hq12:=hq.le (l4.trans (l5.trans (l8.trans (l11.trans l12))))
         have t1:(us.take (j * 3)).length=j * 3:=by rw [List.length_take]; omega
         have t2:((us.take (O.length * 3)).drop (j * 3)).length=(w1 - j) * 3:=by rw [List.length_drop,List.length_take,g1]; omega
         have oc:∀v ∈ (us.take (O.length * 3)).drop (j * 3),v.oneCell'=true:=by
          intro v hv'
          obtain ⟨m,hm,e⟩:=List.mem_iff_getElem.1 (List.mem_of_mem_drop hv')
          have hm':m < O.length * 3:=by rw [List.length_take] at hm; omega
          have:=List.getElem?_eq_getElem hm
          rw [e,List.getElem?_take,if_pos hm'] at this
          exact row_cell fx hm' this
         have hmem:0 < w2->us≠[]:=fun hw e=>by rw [e] at fv; simp at fv; omega
         have hmA:0 < w2->mA bk w2=some ⟨bk,0,none⟩:=fun hw=>by unfold mA; rw [if_neg (by omega)]
         have at_:∀m v,m < O.length * 3->us[m]?=some v->V12.at ⟨bk,m,none⟩ v:=fun m v hm hv'=>blk_at (hb (hmem (by omega))) hv'
         refine ⟨⟨by omega,by omega⟩,⟨by omega,by omega⟩,⟨by omega,by omega⟩,(us.take (O.length * 3)).drop (j * 3),?_,t2,by omega,Nat.le_refl _,Nat.le_refl _,t2,oc,fun bk2 J2 sp c' h1 h2=>?_⟩
         ·intro m v hm
          have hml:=(List.getElem?_eq_some_iff.1 hm).1
          rw [t2] at hml
          rw [List.getElem?_drop,List.getElem?_take,if_pos (by omega)] at hm
          have:=at_ (j * 3 + m) v (by omega) hm
          refine ⟨⟨bk,j * 3,none⟩,?_,?_⟩
          ·unfold slA
           rw [if_neg (by omega),hmA (by omega)]
           simp [addrAdd,add_zero']
          ·rw [← add_zero',adr_add2,add_zero']; exact this
         ·have hrt:rowTake (([.bool eb,.slice ep en ec,.slice eq em ee]:List Value).take (1 * 3)++(us.take (O.length * 3)).drop (j * 3)++sp) 0 ((1 + (w1 - j)) * 3)=[.bool eb,.slice ep en ec,.slice eq em ee]++(us.take (O.length * 3)).drop (j * 3):=by
           have e3:(([.bool eb,.slice ep en ec,.slice eq em ee]:List Value).take (1 * 3))=[.bool eb,.slice ep en ec,.slice eq em ee]:=rfl
           rw [e3]
           have hl:([.bool eb,.slice ep en ec,.slice eq em ee]++(us.take (O.length * 3)).drop (j * 3):List Value).length=(1 + (w1 - j)) * 3:=by
            rw [List.length_append,t2]; simp only [List.length_cons,List.length_nil]; omega
           unfold rowTake
           rw [Nat.ble_eq_true_of_le (by rw [List.length_append,hl]; omega),cond_true,List.drop_zero,List.take_append_of_le_length (by rw [hl]; exact Nat.le_refl _),List.take_of_length_le (by rw [hl]; exact Nat.le_refl _)]
          have hrl:([.bool eb,.slice ep en ec,.slice eq em ee]++(us.take (O.length * 3)).drop (j * 3):List Value).length=(1 + (w1 - j)) * 3:=by
           rw [List.length_append,t2]; simp only [List.length_cons,List.length_nil]; omega
          have hr3:(1 + (w1 - j)) * 3 / 3=1 + (w1 - j):=Nat.mul_div_cancel _ (by decide)
          rw [hrt,hrl,hr3]
          refine ⟨us.take (j * 3),?_,t1,Nat.le_refl _,?_,by omega,by omega,rfl,?_,fun sp2 c2' h3 h4=>⟨(j + (1 + (w1 - j)),c2',_,(y:Int) + 1),by dsimp only; omega,by and_intros <;> first | rfl | omega,y + 1,rfl,by omega,?_,h3,?_,?_⟩⟩
          ·intro m v hm
           have hml:=(List.getElem?_eq_some_iff.1 hm).1
           rw [t1] at hml
           rw [List.getElem?_take,if_pos hml] at hm
           exact ⟨⟨bk,0,none⟩,hmA (by omega),by rw [add_zero']; exact at_ m v (by omega) hm⟩
          ·intro hN
           by_cases hw:0 < w2
           ·rw [hmA hw] at hN; cases hN
           ·omega
          ·intro v hv'
           rcases List.mem_append.1 hv' with hv' | hv'
           ·simp only [List.mem_cons,List.not_mem_nil,or_false] at hv'
            rcases hv' with rfl | rfl | rfl <;> rfl
           ·exact oc v hv'
          ·show j + (1 + (w1 - j))=(stepE s o (y + 1)).length
           rw [hO',hO3,hins,List.length_append,List.length_take,List.length_cons,List.length_drop]
           omega
          ·dsimp only
           rw [List.length_append,List.length_append,t1,hrl]
           omega
          ·show Row 3 RQ V12 _ (stepE s o (y + 1))
           rw [hO',hO3,hins]
           exact row_insert fx12 jle rfl hq12 (by decide)
        ·have hex:∃h:j < O.length,O[j]=x:=Classical.byContradiction fun h=>by have:=hz11.2 h; rw [hz] at this; cases this
         rw [if_pos hex] at hins
         refine ⟨(w1,w2,us,(y:Int) + 1),by dsimp only; omega,by and_intros <;> rfl,y + 1,rfl,by omega,?_,fc,fv,?_⟩
         ·show w1=(stepE s o (y + 1)).length
          rw [hO',hO3,hins]; exact g1
         ·show Row 3 RQ V11 us (stepE s o (y + 1))
          rw [hO',hO3,hins]; exact fx.le fun _ _ g=>g.le (l4.trans (l5.trans (l8.trans l11)))
  ·have hy:¬ (y:Int) < 2:=of_decide_eq_false hy
   obtain rfl:y=2:=by omega
   exact ⟨(w1,w2,us,(i:Int) + 1),by dsimp only; omega,by and_intros <;> rfl,i + 1,rfl,hi,by dsimp only; rw [hsucc]; exact g1,fc,fv,by dsimp only; rw [hsucc]; exact fx⟩
 ·have hlt:¬ (i:Int) < ss.length:=of_decide_eq_false hlt
  obtain rfl:i=ss.length:=by omega
  rw [List.take_length] at e1 hx
  subst e1
  exact ⟨_,_,_,rfl,Lst.of_mrow hb (hx.le fun _ _ g=>g.le l13) (by decide) ic⟩
end Go.Proofs.Tryz
/- Contract: the reference's From. -/
namespace Go.Proofs.Tryz
open Go.Eng Go.Big
def gapS (cuts:List Rat) (i:Nat):Sp:=⟨if 0 < i then cuts.getD (i - 1) 0 else 0,if i < cuts.length then cuts.getD i 0 else 0,decide (i=0),decide (i=cuts.length)⟩
/-- The last span takes the upper end of another one. -/
def lastHi (out:List Sp) (s:Sp):List Sp:=out.dropLast++[⟨(out.getLastD Sp.zero).lo,s.hi,(out.getLastD Sp.zero).a,s.b⟩]
def fromI (cuts:List Rat) (marks:List Bool):Nat->List Sp
 | 0=>[]
 | i + 1=>if marks.getD i false=true then (if 0 < i/\marks.getD (i - 1) false=true/\0 < (fromI cuts marks i).length then lastHi (fromI cuts marks i) (gapS cuts i) else fromI cuts marks i++[gapS cuts i]) else fromI cuts marks i
def fromL (cuts:List Rat) (marks:List Bool):List Sp:=fromI cuts marks marks.length
theorem lastHi_len {out:List Sp} {s:Sp} (h:0 < out.length):(lastHi out s).length=out.length:=by
 unfold lastHi; rw [List.length_append,List.length_dropLast]; simp; omega
theorem fromI_len (cuts:List Rat) (marks:List Bool) (i:Nat):(fromI cuts marks i).length<=i:=by
 induction i with
 | zero=>simp [fromI]
 | succ i ih=>
  unfold fromI
  split
  ·split
   ·rename_i h; rw [lastHi_len h.2.2]; omega
   ·rw [List.length_append]; simp; omega
  ·omega
/-- The last element of a row is changed. -/
theorem row_last {α:Type} {sz:Nat} {R:View->Value->α->Prop} {V:View} {vs us:List Value} {ls:List α} (h:Row sz R V vs ls) (h0:0 < ls.length) {xs:List Value} {a:α} (hx:xs.length=sz) (ha:R V (.agg xs.toArray) a)
  (hlow:∀q,q < (ls.length - 1) * sz->us[q]?=vs[q]?) (hlast:∀j x,xs[j]?=some x->us[(ls.length - 1) * sz + j]?=some x):Row sz R V us (ls.dropLast++[a]):=by
 refine ⟨fun i hi=>?_⟩
 have hl:(ls.dropLast++[a]).length=ls.length:=by rw [List.length_append,List.length_dropLast]; simp; omega
 by_cases e:i=ls.length - 1
 ·subst e
  refine ⟨xs,hx,?_,hlast⟩
  have e2:(ls.dropLast++[a])[ls.length - 1]=a:=by
   rw [List.getElem_append_right (by simp)]; simp
  rw [e2]; exact ha
 ·have hi':i < ls.length - 1:=by omega
  obtain ⟨ys,y1,y2,y3⟩:=h.at_ i (by omega)
  refine ⟨ys,y1,?_,fun j x hj=>?_⟩
  ·have e2:(ls.dropLast++[a])[i]=ls[i]:=by
    rw [List.getElem_append_left (by rw [List.length_dropLast]; exact hi'),List.getElem_dropLast]
   rw [e2]; exact y2
  ·have hj':=(List.getElem?_eq_some_iff.1 hj).1
   have hlt:i * sz + j < (ls.length - 1) * sz:=by
    have:(i + 1) * sz<=(ls.length - 1) * sz:=Nat.mul_le_mul_right _ (by omega)
    rw [Nat.succ_mul] at this
    omega
   rw [hlow _ hlt]
   exact y3 j x hj
/-- A truth value that lies in one cell. -/
def RBl (_:View) (v:Value) (b:Bool):Prop:=v=.agg #[.bool b]
theorem rb_at {V:View} {p:OA} {n:Nat} {bs:List Bool} (h:Lst 1 RBl V p n bs) {i:Nat} (hi:i < bs.length):∃ad,addrAdd p (i * 1)=some ad/\V.at ad (.bool bs[i]):=by
 obtain ⟨ad,ha,xs,-,e,hc⟩:=h.at_ i hi
 have e:=congrArg Array.toList (Value.agg.inj e)
 dsimp only at e
 subst e
 have:=hc 0 _ rfl
 exact ⟨ad,ha,by simpa [Addr.add] using this⟩
/-- A span's cells in an own row. -/
theorem rs_cells {V:View} {xs:List Value} {s:Sp} (h:RSs V (.agg xs.toArray) s):∃b p n c p' n' c' d q m e q' m' e',xs=[.bool b,.slice p n c,.slice p' n' c',.bool d,.slice q m e,.slice q' m' e',.bool s.a,.bool s.b] /\
  RQ V (.agg #[.bool b,.slice p n c,.slice p' n' c']) s.lo/\RQ V (.agg #[.bool d,.slice q m e,.slice q' m' e']) s.hi:=by
 obtain ⟨_,_,_,_,_,_,_,_,_,_,_,_,_,_,ex,h1,h2⟩:=h
 have ex:=congrArg Array.toList (Value.agg.inj ex)
 exact ⟨_,_,_,_,_,_,_,_,_,_,_,_,_,_,ex,h1,h2⟩
end Go.Proofs.Tryz
/- Contract: the reference's From. By program (tools/mkcf.py). -/
namespace Go.Proofs.Tryz
open Go.Eng Go.Big
theorem rq_zero (V:View):RQ V (.agg #[.bool false,.slice none 0 0,.slice none 0 0]) 0:=by have:=RQ.zero (V:=V); simpa using this
set_option maxHeartbeats 1000000 in
theorem c_ref06_From {V:View} {p q:OA} {n c m e:Nat} {cuts:List Rat} {marks:List Bool} (hc:Lst 3 RQ V p n cuts) (hm:Lst 1 RBl V q m marks) (hlen:marks.length=cuts.length + 1) (hn:cuts.length < 100000000) :
  Acts prog 73 #[.slice p n c,.slice q m e] V fun r V'=>∃p' n' c',r=.slice p' n' c'/\Lst 8 RSs V' p' n' (fromL cuts marks):=by
 obtain rfl:=hc.len
 obtain rfl:=hm.len
 refine vc_ref06_From p _ c q _ e V _ ⟨fun z V'=>∃i:Nat,z.2.2.2=(i:Int)/\i<=marks.length/\z.1=(fromI cuts marks i).length/\z.1<=z.2.1/\z.2.1 * 8<=z.2.2.1.length/\Row 8 RSs V' z.2.2.1 (fromI cuts marks i),fun z=>marks.length - z.2.2.2.toNat,
  ⟨(0,0,[],0),by and_intros <;> rfl,0,rfl,Nat.zero_le _,rfl,Nat.le_refl _,Nat.le_refl _,Row.nil⟩,?_⟩
 rintro ⟨z1,z2,vs,z4⟩ V1 l1 ⟨i,e4,ile,e1,ic,hv,hx⟩
 dsimp only at e4 e1 ic hv hx
 subst e4
 refine ⟨rfl,fun hlt=>?_,fun hlt V5 l5 bk hb=>?_⟩
 ·have hlt:(i:Int) < marks.length:=of_decide_eq_true hlt
  have hi:i < marks.length:=by omega
  have w:i64.wrap ((i:Int) + 1)=(i:Int) + 1:=i64w (by omega)
  have hol:=fromI_len cuts marks i
  have hgd:marks.getD i false=marks[i]:=by rw [List.getD_eq_getElem?_getD,List.getElem?_eq_getElem hi]; rfl
  have hs1:marks[i]=false->fromI cuts marks (i + 1)=fromI cuts marks i:=fun h=>by
   show (if marks.getD i false=true then _ else _)=_
   rw [hgd,h]; rfl
  have hs2:marks[i]=true->fromI cuts marks (i + 1)=if 0 < i/\marks.getD (i - 1) false=true/\0 < (fromI cuts marks i).length then lastHi (fromI cuts marks i) (gapS cuts i) else fromI cuts marks i++[gapS cuts i]:=fun h=>by
   show (if marks.getD i false=true then _ else _)=_
   rw [hgd,h]; rfl
  dsimp only
  rw [Int.toNat_natCast,w]
  obtain ⟨ad,ha,hat⟩:=rb_at (hm.le l1 fun _ _ g=>g) hi
  refine ⟨isSome_addr ha,⟨by omega,by omega⟩,marks[i],⟨ad,ha,hat⟩,fun hb=>?_,fun hb=>?_⟩
  ·rw [Bool.not_eq_true'] at hb
   exact ⟨(z1,z2,vs,(i:Int) + 1),by dsimp only; omega,by and_intros <;> rfl,i + 1,rfl,hi,by dsimp only; rw [hs1 hb]; exact e1,ic,hv,by dsimp only; rw [hs1 hb]; exact hx⟩
  ·rw [Bool.not_eq_false'] at hb
   have hs2:=hs2 hb
   generalize fromI cuts marks i=out at *
   generalize hO:fromI cuts marks (i + 1)=out' at *
   refine ⟨fun z V'=>RQ V' (.agg #[.bool z.1,.slice z.2.1 z.2.2.1 z.2.2.2.1,.slice z.2.2.2.2.1 z.2.2.2.2.2.1 z.2.2.2.2.2.2.1]) ((gapS cuts i).lo)/\RQ V' (.agg #[.bool z.2.2.2.2.2.2.2.1,.slice z.2.2.2.2.2.2.2.2.1 z.2.2.2.2.2.2.2.2.2.1 z.2.2.2.2.2.2.2.2.2.2.1,.slice z.2.2.2.2.2.2.2.2.2.2.2.1 z.2.2.2.2.2.2.2.2.2.2.2.2.1 z.2.2.2.2.2.2.2.2.2.2.2.2.2.1]) (0)/\z.2.2.2.2.2.2.2.2.2.2.2.2.2.2.1=decide (i=0)/\z.2.2.2.2.2.2.2.2.2.2.2.2.2.2.2=decide (i=cuts.length),⟨fun hp=>?_,fun hp=>⟨(false,none,0,0,none,0,0,false,none,0,0,none,0,0,(i:Int) == 0,(i:Int) == (cuts.length:Int)),by and_intros <;> rfl,?_⟩⟩,?_⟩
   ·have hp:(i:Int) > 0:=of_decide_eq_true hp
    have hi1:i - 1 < cuts.length:=by omega
    have w1:i64.wrap ((i:Int) - 1)=((i - 1:Nat):Int):=by rw [i64w (by omega)]; omega
    rw [w1,Int.toNat_natCast]
    obtain ⟨ad1,b1,p3,n3,c3,p4,n4,c4,ha1,hq1,b0,b1',b2⟩:=rq_at (hc.le l1 fun _ _ g=>g.le l1) hi1
    refine ⟨isSome_addr ha1,⟨by omega,by omega⟩,_,_,_,_,_,_,_,ad1,ha1,b0,b1',b2,(b1,p3,n3,c3,p4,n4,c4,false,none,0,0,none,0,0,(i:Int) == 0,(i:Int) == (cuts.length:Int)),by and_intros <;> rfl,?_,rq_zero _,?_,?_⟩
    ·show RQ V1 _ (if 0 < i then cuts.getD (i - 1) 0 else 0)
     rw [if_pos (by omega),getD_at hi1]; exact hq1
    ·show ((i:Int) == 0)=decide (i=0)
     rw [Bool.eq_iff_iff,beq_iff_eq,decide_eq_true_eq]; omega
    ·show ((i:Int) == (cuts.length:Int))=decide (i=cuts.length)
     rw [Bool.eq_iff_iff,beq_iff_eq,decide_eq_true_eq]; omega
   ·have hp:¬ (i:Int) > 0:=of_decide_eq_false hp
    refine ⟨?_,rq_zero _,?_,?_⟩
    ·show RQ V1 _ (if 0 < i then cuts.getD (i - 1) 0 else 0)
     rw [if_neg (by omega)]; exact rq_zero _
    ·show ((i:Int) == 0)=decide (i=0)
     rw [Bool.eq_iff_iff,beq_iff_eq,decide_eq_true_eq]; omega
    ·show ((i:Int) == (cuts.length:Int))=decide (i=cuts.length)
     rw [Bool.eq_iff_iff,beq_iff_eq,decide_eq_true_eq]; omega
   ·rintro ⟨x1,x2,x3,x4,x5,x6,x7,x8,x9,x10,x11,x12,x13,x14,x15,x16⟩ V2 l2 ⟨hA,hB,hC,hD⟩
    dsimp only at hA hB hC hD
    subst hC hD
    refine ⟨rfl,fun z V'=>RQ V' (.agg #[.bool z.1,.slice z.2.1 z.2.2.1 z.2.2.2.1,.slice z.2.2.2.2.1 z.2.2.2.2.2.1 z.2.2.2.2.2.2.1]) ((gapS cuts i).lo)/\RQ V' (.agg #[.bool z.2.2.2.2.2.2.2.1,.slice z.2.2.2.2.2.2.2.2.1 z.2.2.2.2.2.2.2.2.2.1 z.2.2.2.2.2.2.2.2.2.2.1,.slice z.2.2.2.2.2.2.2.2.2.2.2.1 z.2.2.2.2.2.2.2.2.2.2.2.2.1 z.2.2.2.2.2.2.2.2.2.2.2.2.2.1]) ((gapS cuts i).hi)/\z.2.2.2.2.2.2.2.2.2.2.2.2.2.2.1=decide (i=0)/\z.2.2.2.2.2.2.2.2.2.2.2.2.2.2.2=decide (i=cuts.length),⟨fun hp=>?_,fun hp=>⟨(x1,x2,x3,x4,x5,x6,x7,x8,x9,x10,x11,x12,x13,x14,decide (i=0),decide (i=cuts.length)),by and_intros <;> rfl,hA,?_,rfl,rfl⟩⟩,?_⟩
    ·have hp:(i:Int) < cuts.length:=of_decide_eq_true hp
     have hi1:i < cuts.length:=by omega
     obtain ⟨ad1,b1,p3,n3,c3,p4,n4,c4,ha1,hq1,b0,b1',b2⟩:=rq_at (hc.le (l1.trans l2) fun _ _ g=>g.le (l1.trans l2)) hi1
     refine ⟨isSome_addr ha1,⟨by omega,by omega⟩,_,_,_,_,_,_,_,ad1,ha1,b0,b1',b2,(x1,x2,x3,x4,x5,x6,x7,b1,p3,n3,c3,p4,n4,c4,decide (i=0),decide (i=cuts.length)),by and_intros <;> rfl,hA,?_,rfl,rfl⟩
     show RQ V2 _ (if i < cuts.length then cuts.getD i 0 else 0)
     rw [if_pos hi1,getD_at hi1]; exact hq1
    ·have hp:¬ (i:Int) < cuts.length:=of_decide_eq_false hp
     show RQ V2 _ (if i < cuts.length then cuts.getD i 0 else 0)
     rw [if_neg (by omega)]; exact hB
    ·rintro ⟨y1,y2,y3,y4,y5,y6,y7,y8,y9,y10,y11,y12,y13,y14,y15,y16⟩ V3 l3 ⟨kA,kB,kC,kD⟩
     dsimp only at kA kB kC kD
     subst kC kD
     refine ⟨rfl,fun z _=>z=decide (0 < i/\marks.getD (i - 1) false=true/\0 < out.length),⟨fun hp=>?_,fun hp=>⟨false,by and_intros <;> rfl,?_⟩⟩,?_⟩
     ·have hp:(i:Int) > 0:=of_decide_eq_true hp
      have hi1:i - 1 < marks.length:=by omega
      have w1:i64.wrap ((i:Int) - 1)=((i - 1:Nat):Int):=by rw [i64w (by omega)]; omega
      have hg1:marks.getD (i - 1) false=marks[i - 1]:=by rw [List.getD_eq_getElem?_getD,List.getElem?_eq_getElem hi1]; rfl
      rw [w1,Int.toNat_natCast,hg1]
      obtain ⟨ad1,ha1,hat1⟩:=rb_at (hm.le (l1.trans (l2.trans l3)) fun _ _ g=>g) hi1
      refine ⟨isSome_addr ha1,⟨by omega,by omega⟩,marks[i - 1],⟨ad1,ha1,hat1⟩,fun hb1=>⟨_,by and_intros <;> rfl,?_⟩,fun hb1=>⟨false,by and_intros <;> rfl,?_⟩⟩
      ·dsimp only
       rw [hb1,decide_eq_decide]
       constructor
       ·intro h; exact ⟨by omega,rfl,by omega⟩
       ·rintro ⟨_,_,h⟩; omega
      ·dsimp only
       rw [hb1]; simp
     ·have hp:¬ (i:Int) > 0:=of_decide_eq_false hp
      dsimp only
      rw [decide_eq_false]
      rintro ⟨h,_⟩; omega
     ·rintro z V4 l4 rfl
      have gA:RSs V4 (.agg #[.bool y1,.slice y2 y3 y4,.slice y5 y6 y7,.bool y8,.slice y9 y10 y11,.slice y12 y13 y14,.bool (decide (i=0)),.bool (decide (i=cuts.length))]) (gapS cuts i):=⟨_,_,_,_,_,_,_,_,_,_,_,_,_,_,rfl,kA.le l4,kB.le l4⟩
      have hx4:=hx.le (V':=V4) fun _ _ g=>RSs.le g (l2.trans (l3.trans l4))
      refine ⟨rfl,fun hz=>?_,fun hz=>?_⟩
      ·have hz:=of_decide_eq_true hz
       rw [if_pos hz] at hs2
       have w1:i64.wrap ((z1:Int) - 1)=((z1 - 1:Nat):Int):=by rw [i64w (by omega)]; omega
       rw [w1,Int.toNat_natCast]
       have hz1:0 < out.length:=hz.2.2
       have hxl:=hx4.len_le (by decide)
       have hi9:out.length - 1 < out.length:=by omega
       have hgl:out.getLastD Sp.zero=out[out.length - 1]:=by
        rw [List.getLastD_eq_getLast?,List.getLast?_eq_getElem?,List.getElem?_eq_getElem hi9]; rfl
       obtain ⟨xs0,-,hl0,hc0⟩:=hx4.at_ (out.length - 1) hi9
       obtain ⟨b,s1,s2,s3,s4,s5,s6,d,t1,t2,t3,t4,t5,t6,ex,hq1,hq2⟩:=rs_cells hl0
       subst ex
       have sv:=setVals_eq (vs:=vs) (xs:=[.bool y8,.slice y9 y10 y11,.slice y12 y13 y14]) (o:=(z1 - 1) * 8 + 3) (by simp only [List.length_cons,List.length_nil]; omega)
       have svl:(setVals vs ((z1 - 1) * 8 + 3) [.bool y8,.slice y9 y10 y11,.slice y12 y13 y14]).length=vs.length:=by
        rw [sv]; simp only [List.length_append,List.length_take,List.length_drop,List.length_cons,List.length_nil]; omega
       have sg:∀r,r < (z1 - 1) * 8 + 3 \/ (z1 - 1) * 8 + 6<=r->(setVals vs ((z1 - 1) * 8 + 3) [.bool y8,.slice y9 y10 y11,.slice y12 y13 y14])[r]?=vs[r]?:=by
        intro r hr
        rw [sv,List.append_assoc]
        have ht:(vs.take ((z1 - 1) * 8 + 3)).length=(z1 - 1) * 8 + 3:=by rw [List.length_take]; omega
        rcases hr with hr | hr
        ·rw [List.getElem?_append_left (by omega),List.getElem?_take,if_pos hr]
        ·rw [List.getElem?_append_right (by omega),List.getElem?_append_right (by rw [ht]; simp only [List.length_cons,List.length_nil]; omega),List.getElem?_drop,ht]
         congr 1
         simp only [List.length_cons,List.length_nil]; omega
       have sm:∀j x,([.bool y8,.slice y9 y10 y11,.slice y12 y13 y14]:List Value)[j]?=some x->(setVals vs ((z1 - 1) * 8 + 3) [.bool y8,.slice y9 y10 y11,.slice y12 y13 y14])[(z1 - 1) * 8 + 3 + j]?=some x:=by
        intro j x hj
        have hj':=(List.getElem?_eq_some_iff.1 hj).1
        have ht:(vs.take ((z1 - 1) * 8 + 3)).length=(z1 - 1) * 8 + 3:=by rw [List.length_take]; omega
        rw [sv,List.append_assoc,List.getElem?_append_right (by omega),ht,Nat.add_sub_cancel_left,List.getElem?_append_left hj']
        exact hj
       generalize setVals vs ((z1 - 1) * 8 + 3) [.bool y8,.slice y9 y10 y11,.slice y12 y13 y14]=us at *
       refine ⟨⟨by omega,by omega⟩,ic,by omega,⟨by omega,by omega⟩,ic,by omega,(z1,z2,us.set ((z1 - 1) * 8 + 7) (.bool (decide (i=cuts.length))),(i:Int) + 1),by dsimp only; omega,by and_intros <;> rfl,i + 1,rfl,hi,?_,ic,?_,?_⟩
       ·dsimp only
        rw [hO,hs2,lastHi_len hz1]; exact e1
       ·dsimp only
        rw [List.length_set,svl]; exact hv
       ·dsimp only
        rw [hO,hs2]
        unfold lastHi
        rw [hgl]
        refine row_last hx4 hz1 (xs:=[.bool b,.slice s1 s2 s3,.slice s4 s5 s6,.bool y8,.slice y9 y10 y11,.slice y12 y13 y14,.bool out[out.length - 1].a,.bool (gapS cuts i).b]) rfl ⟨_,_,_,_,_,_,_,_,_,_,_,_,_,_,rfl,hq1,kB.le l4⟩ ?_ ?_
        ·intro r hr
         rw [List.getElem?_set_ne (by omega),sg r (by omega)]
        ·intro j x hj
         have hj':=(List.getElem?_eq_some_iff.1 hj).1
         have hj8:j < 8:=hj'
         by_cases h7:j=7
         ·subst h7
          rw [show (out.length - 1) * 8 + 7=(z1 - 1) * 8 + 7 by omega,List.getElem?_set_self (by omega)]
          exact hj
         ·rw [List.getElem?_set_ne (by omega)]
          by_cases h3:j < 3 \/ j=6
          ·rw [sg _ (by omega)]
           have hc:=hc0 j x
           have:j=0 \/ j=1 \/ j=2 \/ j=6:=by omega
           rcases this with rfl | rfl | rfl | rfl <;> exact hc hj
          ·have:j=3 \/ j=4 \/ j=5:=by omega
           rcases this with rfl | rfl | rfl
           ·have:=sm 0 x hj
            rw [show (out.length - 1) * 8 + 3=(z1 - 1) * 8 + 3 + 0 by omega]; exact this
           ·have:=sm 1 x hj
            rw [show (out.length - 1) * 8 + 4=(z1 - 1) * 8 + 3 + 1 by omega]; exact this
           ·have:=sm 2 x hj
            rw [show (out.length - 1) * 8 + 5=(z1 - 1) * 8 + 3 + 2 by omega]; exact this
      ·have hz:=of_decide_eq_false hz
       rw [if_neg hz] at hs2
       refine ⟨by omega,ic,hv,rfl,?_,fun sp c' h1 h2=>⟨(z1 + 1,c',_,(i:Int) + 1),by dsimp only; omega,by and_intros <;> rfl,i + 1,rfl,hi,?_,h1,?_,?_⟩⟩
       ·intro v hv'
        simp only [List.mem_cons,List.not_mem_nil,or_false] at hv'
        rcases hv' with rfl | rfl | rfl | rfl | rfl | rfl | rfl | rfl <;> rfl
       ·dsimp only
        rw [hO,hs2,List.length_append,e1]; rfl
       ·dsimp only
        have ht:(vs.take (z1 * 8)).length=z1 * 8:=by rw [List.length_take]; omega
        rw [List.length_append,List.length_append,ht]
        simp only [List.length_cons,List.length_nil]
        omega
       ·dsimp only
        rw [hO,hs2]
        have:=hx4.snoc (sp:=sp) rfl gA (by decide)
        rw [← e1] at this
        exact this
 ·have hlt:¬ (i:Int) < marks.length:=of_decide_eq_false hlt
  obtain rfl:i=marks.length:=by omega
  subst e1
  exact ⟨_,_,_,rfl,Lst.of_mrow hb (hx.le fun _ _ g=>RSs.le g l5) (by decide) ic⟩
end Go.Proofs.Tryz
/- Plain: the reference's Combine on sets of spans: its list is in order, and its points are told by those of the operands. -/
namespace Go.Proofs.Tryz
open Go.Eng Go.Big
set_option linter.unusedSectionVars false
theorem getD_r {a b:List Rat} {i:Nat} (h:a.length<=i):(a++b).getD i 0=b.getD (i - a.length) 0:=by
 rw [List.getD_eq_getElem?_getD,List.getElem?_append_right h,List.getD_eq_getElem?_getD]
theorem getD_l {a b:List Rat} {i:Nat} (h:i < a.length):(a++b).getD i 0=a.getD i 0:=by
 rw [List.getD_eq_getElem?_getD,List.getElem?_append_left h,List.getD_eq_getElem?_getD]
def asc (c:List Rat):Prop:=c.Pairwise (· < ·)
theorem insQ_iff {x q : Rat} : ∀ {o : List Rat}, q ∈ insQ x o ↔ q = x ∨ q ∈ o := by
  intro o
  induction o with
  | nil => simp [insQ]
  | cons y r ih =>
    unfold insQ
    split
    · rw [List.mem_cons, ih, List.mem_cons]
      constructor
      · rintro (h | h | h)
        · exact .inr (.inl h)
        · exact .inl h
        · exact .inr (.inr h)
      · rintro (h | h | h)
        · exact .inr (.inl h)
        · exact .inl h
        · exact .inr (.inr h)
    · split
      · rename_i e
        subst e
        exact ⟨.inr, fun h => by rcases h with rfl | h; · simp
                                 · exact h⟩
      · rw [List.mem_cons]
theorem insQ_asc {x:Rat}:∀{o:List Rat},asc o->asc (insQ x o):=by
 intro o
 induction o with
 | nil=>intro _; simp [insQ,asc]
 | cons y r ih=>
  intro h
  obtain ⟨h1,h2⟩:=List.pairwise_cons.1 h
  unfold insQ
  split
  ·rename_i c
   refine List.pairwise_cons.2 ⟨fun q hq=>?_,ih h2⟩
   rcases insQ_iff.1 hq with rfl | hq
   ·exact c
   ·exact h1 q hq
  ·split
   ·exact h
   ·rename_i c1 c2
    refine List.pairwise_cons.2 ⟨fun q hq=>?_,h⟩
    rcases List.mem_cons.1 hq with rfl | hq
    ·grind
    ·have:=h1 q hq; grind
def Sp.isEnd (s:Sp) (q:Rat):Prop:=(s.a=false/\q=s.lo) \/ (s.b=false/\q=s.hi)
theorem step_iff {s:Sp} {o:List Rat} {q:Rat}:q ∈ stepE s o 2↔s.isEnd q \/ q ∈ o:=by
 show q ∈ (if s.b=true then (if s.a=true then o else insQ s.lo o) else insQ s.hi (if s.a=true then o else insQ s.lo o))↔_
 unfold Sp.isEnd
 cases s.a <;> cases s.b <;> simp [insQ_iff]
 ·constructor
  ·rintro (h | h | h)
   ·exact .inl (.inr h)
   ·exact .inl (.inl h)
   ·exact .inr h
  ·rintro ((h | h) | h)
   ·exact .inr (.inl h)
   ·exact .inl h
   ·exact .inr (.inr h)
theorem step_asc {s:Sp} {o:List Rat} (h:asc o):asc (stepE s o 2):=by
 show asc (if s.b=true then (if s.a=true then o else insQ s.lo o) else insQ s.hi (if s.a=true then o else insQ s.lo o))
 cases s.a <;> cases s.b <;> simp [insQ_asc,h]
theorem ends_fold:∀(ss:List Sp) (o:List Rat),(asc o->asc (ss.foldl (fun o s=>stepE s o 2) o))/\∀q,q ∈ (ss.foldl (fun o s=>stepE s o 2) o)↔q ∈ o \/ ∃s ∈ ss,s.isEnd q:=by
 intro ss
 induction ss with
 | nil=>exact fun o=>⟨id,fun q=>by simp⟩
 | cons s r ih=>
  intro o
  refine ⟨fun h=>(ih _).1 (step_asc h),fun q=>?_⟩
  rw [List.foldl_cons,(ih _).2,step_iff]
  constructor
  ·rintro ((h | h) | ⟨t,h1,h2⟩)
   ·exact .inr ⟨s,by simp,h⟩
   ·exact .inl h
   ·exact .inr ⟨t,by simp [h1],h2⟩
  ·rintro (h | ⟨t,h1,h2⟩)
   ·exact .inl (.inr h)
   ·rcases List.mem_cons.1 h1 with rfl | h1
    ·exact .inl (.inl h2)
    ·exact .inr ⟨t,h1,h2⟩
theorem ends_asc (ss:List Sp):asc (endsL ss):=(ends_fold ss []).1 List.Pairwise.nil
theorem ends_iff {ss:List Sp} {q:Rat}:q ∈ endsL ss↔∃s ∈ ss,s.isEnd q:=by
 have:=(ends_fold ss []).2 q
 simpa [endsL] using this
section
variable {c:List Rat} (h:asc c)
include h
theorem asc_lt {i j:Nat} (hij:i < j) (hj:j < c.length):c.getD i 0 < c.getD j 0:=by
 rw [getD_at (by omega),getD_at hj]
 exact List.pairwise_iff_getElem.1 h i j (by omega) hj hij
theorem asc_le {i j:Nat} (hij:i<=j) (hj:j < c.length):c.getD i 0<=c.getD j 0:=by
 rcases Nat.lt_or_ge i j with h1 | h1
 ·have:=asc_lt h h1 hj; grind
 ·obtain rfl:i=j:=by omega
  grind
omit h
theorem gap_inn {i:Nat} {t:Rat}:(gapS c i).inn t↔(0 < i->c.getD (i - 1) 0 < t)/\(i≠c.length->i < c.length->t < c.getD i 0)/\(i≠c.length->c.length < i->t < 0):=by
 unfold gapS Sp.inn
 simp only [decide_eq_true_eq]
 constructor
 ·rintro ⟨h1,h2⟩
  refine ⟨fun h0=>?_,fun h3 h4=>?_,fun h3 h4=>?_⟩
  ·rcases h1 with h1 | h1
   ·omega
   ·rwa [if_pos h0] at h1
  ·rcases h2 with h2 | h2
   ·exact absurd h2 h3
   ·rwa [if_pos h4] at h2
  ·rcases h2 with h2 | h2
   ·exact absurd h2 h3
   ·rwa [if_neg (by omega)] at h2
 ·rintro ⟨h1,h2,h3⟩
  refine ⟨?_,?_⟩
  ·by_cases h0:i=0
   ·exact .inl h0
   ·rw [if_pos (by omega)]; exact .inr (h1 (by omega))
  ·by_cases h0:i=c.length
   ·exact .inl h0
   ·refine .inr ?_
    by_cases h4:i < c.length
    ·rw [if_pos h4]; exact h2 h0 h4
    ·rw [if_neg h4]; exact h3 h0 (by omega)
theorem gap_inn' {i:Nat} (hi:i<=c.length) {t:Rat}:(gapS c i).inn t↔(0 < i->c.getD (i - 1) 0 < t)/\(i < c.length->t < c.getD i 0):=by
 rw [gap_inn]
 exact ⟨fun ⟨h1,h2,_⟩=>⟨h1,fun h=>h2 (by omega) h⟩,fun ⟨h1,h2⟩=>⟨h1,fun _ h=>h2 h,fun _ h=>by omega⟩⟩
include h
theorem gap_good {i:Nat} (hi:i<=c.length):(gapS c i).good:=by
 refine ⟨⟨fun e=>?_,fun e=>?_⟩,Sp.emp_iff.2 ?_⟩
 ·have e:i=0:=of_decide_eq_true e
  subst e; rfl
 ·have e:i=c.length:=of_decide_eq_true e
  subst e
  exact if_neg (Nat.lt_irrefl _)
 ·by_cases h0:i=0
  ·exact .inl (decide_eq_true h0)
  ·by_cases h1:i=c.length
   ·exact .inr (.inl (decide_eq_true h1))
   ·refine .inr (.inr ?_)
    show (if 0 < i then c.getD (i - 1) 0 else 0) < (if i < c.length then c.getD i 0 else 0)
    rw [if_pos (by omega),if_pos (by omega)]
    exact asc_lt h (by omega) (by omega)
theorem gap_ex {t:Rat} (ht:t ∉ c):∃i,i<=c.length/\(gapS c i).inn t:=by
 have key:∀k,k<=c.length->(∀j,j < k->c.getD j 0 < t) \/ ∃i,i<=c.length/\(gapS c i).inn t:=by
  intro k
  induction k with
  | zero=>exact fun _=>.inl fun j hj=>absurd hj (Nat.not_lt_zero j)
  | succ k ih=>
   intro hk
   rcases ih (by omega) with g | g
   ·by_cases hlt:c.getD k 0 < t
    ·refine .inl fun j hj=>?_
     rcases Nat.lt_or_ge j k with h1 | h1
     ·exact g j h1
     ·obtain rfl:j=k:=by omega
      exact hlt
    ·refine .inr ⟨k,by omega,(gap_inn' (by omega)).2 ⟨fun h0=>g _ (by omega),fun _=>?_⟩⟩
     have hne:c.getD k 0≠t:=by
      rintro rfl
      rw [getD_at (by omega)] at ht
      exact ht (List.getElem_mem _)
     grind
   ·exact .inr g
 rcases key c.length (Nat.le_refl _) with g | g
 ·exact ⟨c.length,Nat.le_refl _,(gap_inn' (Nat.le_refl _)).2 ⟨fun h0=>g _ (by omega),fun h0=>by omega⟩⟩
 ·exact g
theorem gap_side {i:Nat} (hi:i<=c.length) {t u x:Rat} (ht:(gapS c i).inn t) (hu:(gapS c i).inn u) (hx:x ∈ c):(x < t↔x < u)/\(t < x↔u < x)/\x≠t:=by
 obtain ⟨t1,t2⟩:=(gap_inn' hi).1 ht
 obtain ⟨u1,u2⟩:=(gap_inn' hi).1 hu
 obtain ⟨j,hj,rfl⟩:=List.getElem_of_mem hx
 rw [← getD_at hj]
 rcases Nat.lt_or_ge j i with hji | hji
 ·have:=asc_le h (show j<=i - 1 by omega) (by omega)
  have:=t1 (by omega)
  have:=u1 (by omega)
  grind
 ·have:=asc_le h hji hj
  have:=t2 (by omega)
  have:=u2 (by omega)
  grind
theorem probe_in {i:Nat} (hi:i<=c.length):(gapS c i).inn ((probesL c).getD i 0):=by
 rw [gap_inn' hi]
 unfold probesL
 by_cases h0:c.length=0
 ·exact ⟨fun _=>by omega,fun _=>by omega⟩
 ·rw [if_neg h0]
  have hl:=outL_len c (show 1<=c.length by omega)
  by_cases h1:i=c.length
  ·subst h1
   rw [getD_r (by omega),hl,Nat.sub_self]
   refine ⟨fun _=>?_,fun _=>by omega⟩
   show _ < c.getD (c.length - 1) 0 + ((1:Int):Rat)
   grind
  ·rw [getD_l (by omega)]
   unfold outL
   by_cases h2:i=0
   ·subst h2
    refine ⟨fun _=>by omega,fun _=>?_⟩
    show c.getD 0 0 - ((1:Int):Rat) < _
    grind
   ·obtain ⟨m,rfl⟩:∃m,i=m + 1:=⟨i - 1,by omega⟩
    have:=asc_lt h (show m < m + 1 by omega) (by omega)
    have e2:((List.range (c.length - 1)).map fun k=>(c.getD k 0 + c.getD (k + 1) 0) * ((2:Int):Rat)⁻¹).getD m 0=(c.getD m 0 + c.getD (m + 1) 0) * ((2:Int):Rat)⁻¹:=by
     rw [List.getD_eq_getElem?_getD,List.getElem?_map,List.getElem?_range (by omega)]; rfl
    rw [List.getD_cons_succ,e2,Nat.add_sub_cancel]
    generalize c.getD m 0=x at *
    generalize c.getD (m + 1) 0=y at *
    exact ⟨fun _=>by grind,fun _=>by grind⟩
omit h
theorem probes_len:(probesL c).length=c.length + 1:=by
 unfold probesL
 by_cases h0:c.length=0
 ·rw [if_pos h0,h0]; rfl
 ·rw [if_neg h0,List.length_append,outL_len c (by omega)]; rfl
end
section
variable {c:List Rat} {ms:List Bool}
/-- What is known of the list behind the i-th gap. -/
structure FI (c:List Rat) (ms:List Bool) (i:Nat):Prop where
 r:reg (fromI c ms i)
 mem:∀t,t ∉ c->(memS (fromI c ms i) t↔∃j,j < i/\ms.getD j false=true/\(gapS c j).inn t)
 top:0 < i->i<=c.length->∀s ∈ fromI c ms i,s.b=false/\s.hi<=c.getD (i - 1) 0
 str:0 < i->i<=c.length->ms.getD (i - 1) false=false->∀s ∈ fromI c ms i,s.hi < c.getD (i - 1) 0
 last:0 < i->i<=c.length->ms.getD (i - 1) false=true->∃l0 l,fromI c ms i=l0++[l]/\l.hi=c.getD (i - 1) 0
theorem memS_snoc {ss:List Sp} {s:Sp} {t:Rat}:memS (ss++[s]) t↔memS ss t \/ s.inn t:=by
 unfold memS
 constructor
 ·rintro ⟨x,hx,hi⟩
  rcases List.mem_append.1 hx with hx | hx
  ·exact .inl ⟨x,hx,hi⟩
  ·obtain rfl:x=s:=by simpa using hx
   exact .inr hi
 ·rintro (⟨x,hx,hi⟩ | hi)
  ·exact ⟨x,by simp [hx],hi⟩
  ·exact ⟨s,by simp,hi⟩
theorem reg_snoc {ss:List Sp} {s:Sp} (h:reg ss) (hs:s.good) (hb:∀x ∈ ss,x.bef s):reg (ss++[s]):=by
 refine ⟨fun x hx=>?_,List.pairwise_append.2 ⟨h.2,by simp,fun x hx y hy=>?_⟩⟩
 ·rcases List.mem_append.1 hx with hx | hx
  ·exact h.1 x hx
  ·obtain rfl:x=s:=by simpa using hx
   exact hs
 ·obtain rfl:y=s:=by simpa using hy
  exact hb x hx
theorem reg_init {ss:List Sp} {s:Sp} (h:reg (ss++[s])):reg ss/\s.good/\∀x ∈ ss,x.bef s:=by
 obtain ⟨h1,-,h3⟩:=List.pairwise_append.1 h.2
 exact ⟨⟨fun x hx=>h.1 x (by simp [hx]),h1⟩,h.1 s (by simp),fun x hx=>h3 x hx s (by simp)⟩
theorem ex_succ {P:Nat->Prop} {i:Nat}:(∃j,j < i + 1/\P j)↔(∃j,j < i/\P j) \/ P i:=by
 constructor
 ·rintro ⟨j,hj,hp⟩
  rcases Nat.lt_or_ge j i with h | h
  ·exact .inl ⟨j,h,hp⟩
  ·obtain rfl:j=i:=by omega
   exact .inr hp
 ·rintro (⟨j,hj,hp⟩ | hp)
  ·exact ⟨j,by omega,hp⟩
  ·exact ⟨i,by omega,hp⟩
theorem fi_step (h:asc c) {i:Nat} (hi:i<=c.length) (F:FI c ms i):FI c ms (i + 1):=by
 have hg:=gap_good h hi
 have ghi:i < c.length->(gapS c i).hi=c.getD i 0:=fun h0=>if_pos h0
 have glo:0 < i->(gapS c i).lo=c.getD (i - 1) 0:=fun h0=>if_pos h0
 have ga:0 < i->(gapS c i).a=false:=fun h0=>decide_eq_false (by omega)
 have gb:i < c.length->(gapS c i).b=false:=fun h0=>decide_eq_false (by omega)
 by_cases hm:ms.getD i false=true
 ·have hne:¬ ms.getD i false=false:=by rw [hm]; decide
  by_cases h0:0 < i/\ms.getD (i - 1) false=true
  ·obtain ⟨l0,l,el,hl⟩:=F.last h0.1 hi h0.2
   have e:fromI c ms (i + 1)=l0++[⟨l.lo,(gapS c i).hi,l.a,(gapS c i).b⟩]:=by
    rw [fromI,if_pos hm,if_pos ⟨h0.1,h0.2,by rw [el]; simp⟩,el]
    simp [lastHi]
   have F1:=F.r
   rw [el] at F1
   obtain ⟨f1,f2,f3⟩:=reg_init F1
   have hlb:l.b=false:=(F.top h0.1 hi l (by rw [el]; simp)).1
   have hgood:(⟨l.lo,(gapS c i).hi,l.a,(gapS c i).b⟩:Sp).good:=by
    refine ⟨⟨f2.1.1,hg.1.2⟩,Sp.emp_iff.2 ?_⟩
    dsimp only
    cases ha:l.a with
    | true=>exact .inl rfl
    | false=>
     cases hb:(gapS c i).b with
     | true=>exact .inr (.inl rfl)
     | false=>
      have h1:=lo_hi f2.2 ha hlb
      have h2:=lo_hi hg.2 (ga h0.1) hb
      rw [glo h0.1] at h2
      exact .inr (.inr (by grind))
   refine ⟨?_,fun t ht=>?_,fun _ hi1 s hs=>?_,fun _ hi1 hx=>?_,fun _ hi1 _=>?_⟩
   ·rw [e]
    exact reg_snoc f1 hgood fun x hx=>⟨(f3 x hx).1,(f3 x hx).2.1,(f3 x hx).2.2⟩
   ·rw [e,ex_succ,← F.mem t ht,memS_snoc,el,memS_snoc,or_assoc]
    refine or_congr Iff.rfl ?_
    have hk:(gapS c i).inn t↔c.getD (i - 1) 0 < t/\((gapS c i).b=true \/ t < (gapS c i).hi):=by
     unfold Sp.inn; rw [ga h0.1,glo h0.1]; simp
    have hne':t≠c.getD (i - 1) 0:=by
     rintro rfl
     rw [getD_at (by omega)] at ht
     exact ht (List.getElem_mem _)
    rw [hk]
    show (l.a=true \/ l.lo < t)/\((gapS c i).b=true \/ t < (gapS c i).hi)↔((l.a=true \/ l.lo < t)/\(l.b=true \/ t < l.hi)) \/ _
    rw [hl,hlb]
    have h1:l.a=true \/ l.lo < c.getD (i - 1) 0:=by
     cases ha:l.a with
     | true=>exact .inl rfl
     | false=>have:=lo_hi f2.2 ha hlb; rw [hl] at this; exact .inr this
    have h2:(gapS c i).b=true \/ c.getD (i - 1) 0 < (gapS c i).hi:=by
     cases hb:(gapS c i).b with
     | true=>exact .inl rfl
     | false=>have:=lo_hi hg.2 (ga h0.1) hb; rw [glo h0.1] at this; exact .inr this
    constructor
    ·rintro ⟨g1,g2⟩
     by_cases g:t < c.getD (i - 1) 0
     ·exact .inl ⟨g1,.inr g⟩
     ·exact .inr ⟨hm,by grind,g2⟩
    ·rintro (⟨g1,g2⟩ | ⟨-,g1,g2⟩)
     ·have g3:t < c.getD (i - 1) 0:=by
       rcases g2 with g2 | g2
       ·cases g2
       ·exact g2
      exact ⟨g1,h2.imp_right fun h2=>by grind⟩
     ·exact ⟨h1.imp_right fun h1=>by grind,g2⟩
   ·rw [e] at hs
    rw [Nat.add_sub_cancel]
    rcases List.mem_append.1 hs with hs | hs
    ·have b:=f3 s hs
     refine ⟨b.1,?_⟩
     have h1:l.lo < c.getD (i - 1) 0:=by have:=lo_hi f2.2 b.2.1 hlb; rwa [hl] at this
     have h2:=asc_lt h (show i - 1 < i by omega) hi1
     have:=b.2.2
     grind
    ·obtain rfl:s=_:=by simpa using hs
     refine ⟨gb hi1,?_⟩
     show (gapS c i).hi<=_
     rw [ghi hi1]; grind
   ·rw [Nat.add_sub_cancel] at hx; exact absurd hx hne
   ·rw [Nat.add_sub_cancel]
    exact ⟨l0,_,e,ghi hi1⟩
  ·have e:fromI c ms (i + 1)=fromI c ms i++[gapS c i]:=by
    rw [fromI,if_pos hm,if_neg (fun g=>h0 ⟨g.1,g.2.1⟩)]
   have hb:∀x ∈ fromI c ms i,x.bef (gapS c i):=fun x hx=>by
    by_cases hz:0 < i
    ·have hmf:ms.getD (i - 1) false=false:=by
      cases hq:ms.getD (i - 1) false with
      | false=>rfl
      | true=>exact absurd ⟨hz,hq⟩ h0
     exact ⟨(F.top hz hi x hx).1,ga hz,by rw [glo hz]; exact F.str hz hi hmf x hx⟩
    ·obtain rfl:i=0:=by omega
     cases hx
   refine ⟨?_,fun t ht=>?_,fun _ hi1 s hs=>?_,fun _ hi1 hx=>?_,fun _ hi1 _=>?_⟩
   ·rw [e]; exact reg_snoc F.r hg hb
   ·rw [e,ex_succ,← F.mem t ht,memS_snoc]
    exact or_congr Iff.rfl ⟨fun g=>⟨hm,g⟩,fun g=>g.2⟩
   ·rw [e] at hs
    rw [Nat.add_sub_cancel]
    rcases List.mem_append.1 hs with hs | hs
    ·refine ⟨(hb s hs).1,?_⟩
     by_cases hz:0 < i
     ·have h1:=(F.top hz hi s hs).2
      have h2:=asc_lt h (show i - 1 < i by omega) hi1
      grind
     ·obtain rfl:i=0:=by omega
      cases hs
    ·obtain rfl:s=_:=by simpa using hs
     refine ⟨gb hi1,?_⟩
     rw [ghi hi1]; grind
   ·rw [Nat.add_sub_cancel] at hx; exact absurd hx hne
   ·rw [Nat.add_sub_cancel]
    exact ⟨_,_,e,ghi hi1⟩
 ·have e:fromI c ms (i + 1)=fromI c ms i:=by rw [fromI,if_neg hm]
  have hlt:i < c.length->∀s ∈ fromI c ms i,s.b=false/\s.hi < c.getD i 0:=fun hi1 s hs=>by
   by_cases hz:0 < i
   ·obtain ⟨h1,h2⟩:=F.top hz hi s hs
    have h3:=asc_lt h (show i - 1 < i by omega) hi1
    exact ⟨h1,by grind⟩
   ·obtain rfl:i=0:=by omega
    cases hs
  refine ⟨by rw [e]; exact F.r,fun t ht=>?_,fun _ hi1 s hs=>?_,fun _ hi1 hx s hs=>?_,fun _ hi1 hx=>?_⟩
  ·rw [e,ex_succ,F.mem t ht]
   exact ⟨.inl,fun g=>g.elim id fun g=>absurd g.1 hm⟩
  ·rw [e] at hs
   rw [Nat.add_sub_cancel]
   obtain ⟨h1,h2⟩:=hlt hi1 s hs
   exact ⟨h1,by grind⟩
  ·rw [e] at hs
   rw [Nat.add_sub_cancel]
   exact (hlt hi1 s hs).2
  ·rw [Nat.add_sub_cancel] at hx; exact absurd hx hm
theorem fi (h:asc c):∀{i:Nat},i<=c.length + 1->FI c ms i:=by
 intro i
 induction i with
 | zero=>exact fun _=>⟨⟨(fun _ h=>by cases h),List.Pairwise.nil⟩,(fun t _=>⟨(fun ⟨_,h,_⟩=>by cases h),(fun ⟨_,h,_⟩=>absurd h (Nat.not_lt_zero _))⟩),(fun h=>absurd h (Nat.lt_irrefl _)),(fun h=>absurd h (Nat.lt_irrefl _)),(fun h=>absurd h (Nat.lt_irrefl _))⟩
 | succ i ih=>exact fun hi=>fi_step h (by omega) (ih (by omega))
end
/-- Whether a number is inside. -/
def Sp.innB (s:Sp) (t:Rat):Bool:=(s.a || decide (s.lo < t)) && (s.b || decide (t < s.hi))
def inB (ss:List Sp) (t:Rat):Bool:=ss.any fun s=>s.innB t
theorem innB_iff {s:Sp} {t:Rat}:s.innB t=true↔s.inn t:=by unfold Sp.innB Sp.inn; simp
theorem inB_iff {ss:List Sp} {t:Rat}:inB ss t=true↔memS ss t:=by
 unfold inB memS; rw [List.any_eq_true]; exact ⟨fun ⟨s,h1,h2⟩=>⟨s,h1,innB_iff.1 h2⟩,fun ⟨s,h1,h2⟩=>⟨s,h1,innB_iff.2 h2⟩⟩
theorem bool_eq {a b:Bool} (h:a=true↔b=true):a=b:=by cases a <;> cases b <;> simp at h <;> rfl
theorem cls_two {ss:List Sp} {t:Rat} (h:∀s ∈ ss,¬ s.isEnd t):(clsL ss t == 2)=inB ss t:=by
 induction ss with
 | nil=>rfl
 | cons s r ih=>
  have ih:=ih fun x hx=>h x (by simp [hx])
  have hs:=h s (by simp)
  have hb:s.innB t=decide (clsV (s.la t) (s.lb t)=2)/\(clsV (s.la t) (s.lb t)≠0->clsV (s.la t) (s.lb t)=2):=by
   unfold Sp.isEnd at hs
   unfold Sp.innB Sp.la Sp.lb clsV
   rcases cmpQ_or t s.lo with ⟨h1,e1⟩ | ⟨h1,e1⟩ | ⟨h1,e1⟩ <;> rcases cmpQ_or t s.hi with ⟨h2,e2⟩ | ⟨h2,e2⟩ | ⟨h2,e2⟩ <;> rw [e1,e2] <;> cases ha:s.a <;> cases hb:s.b <;> simp [ha,hb] at hs ⊢ <;> grind
  have e:inB (s :: r) t=(s.innB t || inB r t):=rfl
  rw [e,← ih,hb.1]
  by_cases h0:clsV (s.la t) (s.lb t)=0
  ·simp [clsL,h0]
  ·have:=hb.2 h0
   simp [clsL,this]
def opB (op:Int) (x y:Bool):Bool:=if op=2 then x && y else if op=3 then x && !y else if op=4 then x != y else x || y
def marksL (op:Int) (a b:List Sp) (c:List Rat):List Bool:=(probesL c).map fun t=>opB op (clsL a t == 2) (clsL b t == 2)
def combL (op:Int) (a b:List Sp):List Sp:=fromL (endsL (a++b)) (marksL op a b (endsL (a++b)))
theorem marks_len (op:Int) (a b:List Sp) (c:List Rat):(marksL op a b c).length=c.length + 1:=by unfold marksL; rw [List.length_map,probes_len]
theorem comb_reg (op:Int) (a b:List Sp):reg (combL op a b):=by
 unfold combL fromL
 rw [marks_len]
 exact (fi (ends_asc _) (Nat.le_refl _)).r
/-- A gap lies in a span as a whole or not at all. -/
theorem gap_inB {ss:List Sp} {c:List Rat} (h:asc c) (hc:∀s ∈ ss,∀q,s.isEnd q->q ∈ c) {i:Nat} (hi:i<=c.length) {t u:Rat} (ht:(gapS c i).inn t) (hu:(gapS c i).inn u):inB ss t=inB ss u:=by
 induction ss with
 | nil=>rfl
 | cons s r ih=>
  have ih:=ih fun x hx=>hc x (by simp [hx])
  have e:∀t,inB (s :: r) t=(s.innB t || inB r t):=fun _=>rfl
  rw [e,e,ih]
  congr 1
  have hs:=hc s (by simp)
  unfold Sp.innB
  cases ha:s.a <;> cases hb:s.b <;> simp
  ·have h1:=gap_side h hi ht hu (hs s.lo (.inl ⟨ha,rfl⟩))
   have h2:=gap_side h hi ht hu (hs s.hi (.inr ⟨hb,rfl⟩))
   rw [decide_eq_decide.2 h1.1,decide_eq_decide.2 h2.2.1]
  ·exact (gap_side h hi ht hu (hs s.lo (.inl ⟨ha,rfl⟩))).1
  ·exact (gap_side h hi ht hu (hs s.hi (.inr ⟨hb,rfl⟩))).2.1
theorem comb_inB (op:Int) (a b:List Sp) {t:Rat} (ht:t ∉ endsL (a++b)):inB (combL op a b) t=opB op (inB a t) (inB b t):=by
 have hA:=ends_asc (a++b)
 have hE:∀s ∈ a++b,∀q,s.isEnd q->q ∈ endsL (a++b):=fun s hs q hq=>ends_iff.2 ⟨s,hs,hq⟩
 unfold combL fromL
 generalize endsL (a++b)=c at ht hA hE
 rw [marks_len]
 have ha:∀s ∈ a,∀q,s.isEnd q->q ∈ c:=fun s hs=>hE s (by simp [hs])
 have hb:∀s ∈ b,∀q,s.isEnd q->q ∈ c:=fun s hs=>hE s (by simp [hs])
 have mk:∀j,j<=c.length->(gapS c j).inn t->(marksL op a b c).getD j false=opB op (inB a t) (inB b t):=fun j hj hg=>by
  have hp:=probe_in hA hj
  have hnot:(probesL c).getD j 0 ∉ c:=fun hm=>(gap_side hA hj hp hp hm).2.2 rfl
  unfold marksL
  rw [List.getD_eq_getElem?_getD,List.getElem?_map,List.getElem?_eq_getElem (by rw [probes_len]; omega)]
  have e:(probesL c)[j]'(by rw [probes_len]; omega)=(probesL c).getD j 0:=by rw [List.getD_eq_getElem?_getD,List.getElem?_eq_getElem (by rw [probes_len]; omega)]; rfl
  simp only [Option.map_some,Option.getD_some,e]
  rw [cls_two (fun s hs he=>hnot (ha s hs _ he)),cls_two (fun s hs he=>hnot (hb s hs _ he)),gap_inB hA ha hj hp hg,gap_inB hA hb hj hp hg]
 refine bool_eq ?_
 rw [inB_iff,(fi hA (Nat.le_refl _)).mem t ht]
 constructor
 ·rintro ⟨j,hj,h1,h2⟩
  rw [← mk j (by omega) h2]; exact h1
 ·intro h1
  obtain ⟨i,hi,hg⟩:=gap_ex hA ht
  exact ⟨i,by omega,by rw [mk i hi hg]; exact h1,hg⟩
/-- Two lists in order with the same points, but for a few, are the same. -/
theorem reg_eq {xs ys:List Sp} (E:List Rat) (hx:reg xs) (hy:reg ys) (h:∀t,t ∉ E->inB xs t=inB ys t):xs=ys:=
 reg_unique (E:=E) hx hy fun t ht=>by rw [← inB_iff,← inB_iff,h t ht]
end Go.Proofs.Tryz
/- Contract: the reference's Combine. -/
namespace Go.Proofs.Tryz
open Go.Eng Go.Big
/-- The cells of a list in memory, as one row. -/
theorem lst_cells {α:Type} {sz:Nat} {R:View->Value->α->Prop} {V:View} {p:OA} {n:Nat} {ls:List α} (h:Lst sz R V p n ls) (hs:0 < sz):∃xs:List Value,V.sl p xs/\xs.length=ls.length * sz/\Row sz R V xs ls:=by
 have step:∀k,k<=ls.length->∃xs:List Value,V.sl p xs/\xs.length=k * sz/\Row sz R V xs (ls.take k):=by
  intro k
  induction k with
  | zero=>exact fun _=>⟨[],fun i v hv=>by simp at hv,by simp,by rw [List.take_zero]; exact Row.nil⟩
  | succ k ih=>
   intro hk
   obtain ⟨xs,x1,x2,x3⟩:=ih (by omega)
   obtain ⟨ad,ha,ys,y1,y2,y3⟩:=h.at_ k (by omega)
   have hl:(ls.take k).length=k:=by rw [List.length_take]; omega
   refine ⟨xs++ys,fun i v hv=>?_,by rw [List.length_append,x2,y1,Nat.succ_mul],?_⟩
   ·by_cases c:i < xs.length
    ·rw [List.getElem?_append_left c] at hv; exact x1 i v hv
    ·rw [List.getElem?_append_right (by omega)] at hv
     cases p with
     | none=>cases ha
     | some a=>
      obtain rfl:=Option.some.inj (show some (a.add (k * sz))=some ad from ha)
      have:=y3 _ v hv
      rw [adr_add2,x2] at this
      rw [show k * sz + (i - k * sz)=i by omega] at this
      exact ⟨a,rfl,this⟩
   ·have:=x3.snoc (sp:=[]) y1 y2 hs
    rw [hl,List.append_nil,List.take_of_length_le (by omega)] at this
    rw [List.take_add_one,List.getElem?_eq_getElem (by omega)]
    exact this
 obtain ⟨xs,x1,x2,x3⟩:=step ls.length (Nat.le_refl _)
 rw [List.take_length] at x3
 exact ⟨xs,x1,x2,x3⟩
theorem row_append {α:Type} {sz:Nat} {R:View->Value->α->Prop} {V:View} {vs xs sp:List Value} {ls ms:List α} (h:Row sz R V vs ls) (h':Row sz R V xs ms) (hs:0 < sz):Row sz R V (vs.take (ls.length * sz)++xs++sp) (ls++ms):=by
 have hl:=h.len_le hs
 have hl':=h'.len_le hs
 have ht:(vs.take (ls.length * sz)).length=ls.length * sz:=by rw [List.length_take]; omega
 refine ⟨fun i hi=>?_⟩
 by_cases c:i < ls.length
 ·obtain ⟨ys,y1,y2,y3⟩:=h.at_ i c
  refine ⟨ys,y1,by rw [List.getElem_append_left c]; exact y2,fun j x hj=>?_⟩
  have hj':=(List.getElem?_eq_some_iff.1 hj).1
  have hlt:i * sz + j < ls.length * sz:=by
   have:(i + 1) * sz<=ls.length * sz:=Nat.mul_le_mul_right _ c
   rw [Nat.succ_mul] at this
   omega
  rw [List.append_assoc,List.getElem?_append_left (by omega),List.getElem?_take,if_pos hlt]
  exact y3 j x hj
 ·rw [List.length_append] at hi
  obtain ⟨m,rfl⟩:∃m,i=ls.length + m:=⟨i - ls.length,by omega⟩
  have hm:m < ms.length:=by omega
  obtain ⟨ys,y1,y2,y3⟩:=h'.at_ m hm
  refine ⟨ys,y1,?_,fun j x hj=>?_⟩
  ·have e:(ls++ms)[ls.length + m]=ms[m]:=by rw [List.getElem_append_right (by omega)]; simp
   rw [e]; exact y2
  ·have hj':=(List.getElem?_eq_some_iff.1 hj).1
   have hlt:m * sz + j < xs.length:=by
    have:(m + 1) * sz<=ms.length * sz:=Nat.mul_le_mul_right _ hm
    rw [Nat.succ_mul] at this
    omega
   rw [List.append_assoc,List.getElem?_append_right (by rw [ht,Nat.add_mul]; omega),ht,Nat.add_mul,List.getElem?_append_left (by omega)]
   rw [show ls.length * sz + m * sz + j - ls.length * sz=m * sz + j by omega]
   exact y3 j x hj
theorem RSl.lst {V:View} {p:OA} {n:Nat} {ss:List Sp} (h:RSl V p n ss):Lst 8 RSs V p n ss:=by
 refine ⟨h.len,fun i hi=>?_⟩
 obtain ⟨ad,ha,xs,hx,hc⟩:=h.at_ i hi
 have hx0:=hx
 obtain ⟨_,_,_,_,_,_,_,_,_,_,_,_,_,_,e,-,-⟩:=rs_cells hx
 exact ⟨ad,ha,xs,by rw [e]; rfl,hx0,hc⟩
theorem lst_rsl {V:View} {p:OA} {n:Nat} {ss:List Sp} (h:Lst 8 RSs V p n ss):RSl V p n ss:=
 ⟨h.len,fun i hi=>by obtain ⟨ad,ha,xs,-,hx,hc⟩:=h.at_ i hi; exact ⟨ad,ha,xs,hx,hc⟩⟩
theorem row_span {V:View} {vs:List Value} {ss:List Sp} (h:Row 8 RSs V vs ss) {m:Nat} (hm:m < ss.length * 8) {v:Value} (hv:vs[m]?=some v):v.oneCell'=true:=by
 have hi:m / 8 < ss.length:=by omega
 obtain ⟨xs,hl,hx,hc⟩:=h.at_ (m / 8) hi
 obtain ⟨_,_,_,_,_,_,_,_,_,_,_,_,_,_,e,-,-⟩:=rs_cells hx
 have hlt:m % 8 < xs.length:=by rw [hl]; exact Nat.mod_lt _ (by decide)
 have e3:m=m / 8 * 8 + m % 8:=by omega
 have:=hc (m % 8) _ (List.getElem?_eq_getElem hlt)
 rw [← e3,hv] at this
 obtain rfl:=Option.some.inj this
 have hmem:=List.getElem_mem hlt
 generalize xs[m % 8]=v at hmem
 subst e
 simp only [List.mem_cons,List.not_mem_nil,or_false] at hmem
 rcases hmem with rfl | rfl | rfl | rfl | rfl | rfl | rfl | rfl <;> rfl
theorem sz_hlf {x:Rat} {k:Nat} (h:Sz k x):Sz (k + 3) (x * ((2:Int):Rat)⁻¹):=by
 have h2:Sz 2 (((2:Int):Rat))⁻¹:=by unfold Sz; decide +kernel
 exact (h.mul h2).mono (by omega)
theorem probes_sz {c:List Rat} {k:Nat} (h:∀q ∈ c,Sz k q) {q:Rat} (hq:q ∈ probesL c):Sz (2 * k + 4) q:=by
 have g:∀i,i < c.length->Sz k (c.getD i 0):=fun i hi=>by rw [getD_at hi]; exact h _ (List.getElem_mem hi)
 have z:Sz (2 * k + 4) 0:=by
  have h1:(1:Nat) < 2 ^ (2 * k + 4):=Nat.one_lt_two_pow (by omega)
  exact ⟨Nat.lt_of_le_of_lt (Nat.zero_le _) h1,h1⟩
 unfold probesL at hq
 by_cases h0:c.length=0
 ·rw [if_pos h0] at hq
  obtain rfl:q=0:=by simpa using hq
  exact z
 ·rw [if_neg h0] at hq
  rcases List.mem_append.1 hq with hq | hq
  ·unfold outL at hq
   rcases List.mem_cons.1 hq with rfl | hq
   ·exact ((g 0 (by omega)).sub szi_one).mono (by omega)
   ·obtain ⟨i,hi,rfl⟩:=List.mem_map.1 hq
    rw [List.mem_range] at hi
    exact (sz_hlf ((g i (by omega)).add (g (i + 1) (by omega)))).mono (by omega)
  ·obtain rfl:q=_:=by simpa using hq
   exact ((g _ (by omega)).add szi_one).mono (by omega)
theorem c_ref06_Combine {V:View} {op:Int} {ap bp:OA} {an ac bn bc:Nat} {la' lb':List Sp} (ha:RSl V ap an la') (hb:RSl V bp bn lb') (hl:la'.length + lb'.length < 10000000) {k:Nat} (sa:∀s ∈ la',s.sz k) (sb:∀s ∈ lb',s.sz k) (hk:4 * k + 8 < 274877906944) :
  Acts prog 20 #[.int .i64 op,.slice ap an ac,.slice bp bn bc] V fun r V'=>∃p n c,r=.slice p n c/\RSl V' p n (combL op la' lb'):=by
 have la:=ha.len
 have lb:=hb.len
 obtain ⟨xs,x1,x2,x3⟩:=lst_cells ha.lst (by decide)
 obtain ⟨ys,y1,y2,y3⟩:=lst_cells hb.lst (by decide)
 refine vc_ref06_Combine op ap an ac bp bn bc V _ ⟨xs,x1,by omega,by omega,Nat.le_refl _,Nat.zero_le _,by omega,?_,fun bk4 J5 sp2 c3 h1 h2=>⟨ys,y1,by omega,by omega,by omega,?_,by omega,?_,fun bk9 J10 sp7 c8 h3 h4 V1 l1 bk11 hbk=>?_⟩⟩
 ·intro v hv
  obtain ⟨m,hm,rfl⟩:=List.getElem_of_mem hv
  exact row_span x3 (by omega) (List.getElem?_eq_getElem hm)
 ·rw [List.take_nil,List.nil_append,List.length_append]; omega
 ·intro v hv
  obtain ⟨m,hm,rfl⟩:=List.getElem_of_mem hv
  exact row_span y3 (by omega) (List.getElem?_eq_getElem hm)
 have hrow:Row 8 RSs V1 ((([]:List Value).take (0 * 8)++xs++sp2).take ((0 + an) * 8)++ys++sp7) (la'++lb'):=by
  have e:(([]:List Value).take (0 * 8)++xs++sp2).take ((0 + an) * 8)=xs.take (la'.length * 8):=by
   rw [List.take_nil,List.nil_append,la,Nat.zero_add,List.take_append_of_le_length (by omega)]
  rw [e]
  exact (row_append x3 y3 (by decide)).le fun _ _ h=>h.le l1
 have hL:RSl V1 (some ⟨bk11,0,none⟩) (0 + an + bn) (la'++lb'):=by
  have:=lst_rsl (Lst.of_row hbk hrow)
  rwa [show (la'++lb').length=0 + an + bn by rw [List.length_append]; omega] at this
 have hs:∀s ∈ la'++lb',s.sz k:=fun s hs=>by
  rcases List.mem_append.1 hs with hs | hs
  ·exact sa s hs
  ·exact sb s hs
 refine (c_ref06_ends hL (by rw [List.length_append]; omega) hs (by omega)).mono ?_
 rintro r V2 l2 ⟨p12,n12,c12,rfl,hc⟩
 have cl:=endsL_len (la'++lb')
 rw [List.length_append] at cl
 have cs:∀q ∈ endsL (la'++lb'),Sz k q:=fun q hq=>by
  obtain ⟨s,hs',e⟩:=endsL_mem hq
  rcases e with rfl | rfl
  ·exact (hs s hs').1
  ·exact (hs s hs').2
 have ecomb:combL op la' lb'=fromL (endsL (la'++lb')) (marksL op la' lb' (endsL (la'++lb'))):=rfl
 rw [ecomb]
 generalize endsL (la'++lb')=cuts at hc cl cs
 refine ⟨p12,n12,c12,rfl,fun J13 V3 l3=>(c_ref06_Probes (hc.le l3 fun _ _ h=>h.le l3) (by omega) cs (by omega)).mono ?_⟩
 rintro r V4 l4 ⟨p14,n14,c14,rfl,hp⟩
 have hpl:=hp.len
 rw [probes_len] at hpl
 have ml:=marks_len op la' lb' cuts
 have mat:∀i (hi:i < (probesL cuts).length),(marksL op la' lb' cuts).take (i + 1)=(marksL op la' lb' cuts).take i++[opB op (clsL la' (probesL cuts)[i] == 2) (clsL lb' (probesL cuts)[i] == 2)]:=fun i hi=>by
  rw [probes_len] at hi
  rw [List.take_add_one,List.getElem?_eq_getElem (by omega)]
  unfold marksL
  rw [List.getElem_map]; rfl
 refine ⟨p14,n14,c14,rfl,fun z V'=>∃i:Nat,z.2.2.2=(i:Int)/\i<=cuts.length + 1/\z.1=i/\z.1<=z.2.1/\z.2.1 * 1<=z.2.2.1.length/\Row 1 RBl V' z.2.2.1 ((marksL op la' lb' cuts).take i),fun z=>cuts.length + 1 - z.2.2.2.toNat,
  ⟨(0,0,[],0),by and_intros <;> rfl,0,rfl,Nat.zero_le _,rfl,Nat.le_refl _,Nat.le_refl _,Row.nil⟩,?_⟩
 rintro ⟨z1,z2,vs,z4⟩ V5 l5 ⟨i,e4,ile,e1,ic,hv,hx⟩
 dsimp only at e4 e1 ic hv hx
 subst e4 e1
 refine ⟨rfl,fun hlt=>?_,fun hlt V12 l12 bk40 hb40=>?_⟩
 ·have hlt:(z1:Int) < n14:=of_decide_eq_true hlt
  have hi:z1 < (probesL cuts).length:=by rw [probes_len]; omega
  dsimp only
  rw [Int.toNat_natCast]
  obtain ⟨ad,b,p1,n1,c1,p2,n2,c2,had,hq,a0,a1,a2⟩:=rq_at (hp.le l5 fun _ _ h=>h.le l5) hi
  have sq:=probes_sz cs (List.getElem_mem hi)
  have L5:V.Le V5:=l1.trans (l2.trans (l3.trans (l4.trans l5)))
  have sa':∀s ∈ la',s.sz (2 * k + 4):=fun s hs=>⟨(sa s hs).1.mono (by omega),(sa s hs).2.mono (by omega)⟩
  have sb':∀s ∈ lb',s.sz (2 * k + 4):=fun s hs=>⟨(sb s hs).1.mono (by omega),(sb s hs).2.mono (by omega)⟩
  refine ⟨isSome_addr had,⟨by omega,by omega⟩,b,p1,n1,c1,p2,n2,c2,ad,had,a0,a1,a2,fun V6 l6=>(c_ref06_in (ha.le (L5.trans l6)) (hq.le l6) sa' sq (by omega) (by omega)).mono ?_⟩
  rintro r V7 l7 rfl
  refine ⟨_,rfl,fun V8 l8=>(c_ref06_in (hb.le (L5.trans (l6.trans (l7.trans l8)))) (hq.le (l6.trans (l7.trans l8))) sb' sq (by omega) (by omega)).mono ?_⟩
  rintro r V9 l9 rfl
  have L9:=l6.trans (l7.trans (l8.trans l9))
  have hm:=mat z1 hi
  generalize (clsL la' (probesL cuts)[z1] == 2)=x at hm
  generalize (clsL lb' (probesL cuts)[z1] == 2)=y at hm
  refine ⟨_,rfl,fun z V'=>V9.Le V'/\z=(x || y),⟨fun hx=>⟨true,by and_intros <;> rfl,View.Le.refl _,by rw [hx]; rfl⟩,fun hx=>⟨y,by and_intros <;> rfl,View.Le.refl _,by rw [hx]; rfl⟩⟩,?_⟩
  rintro z28 V10 l10 ⟨g10,rfl⟩
  refine ⟨rfl,fun z V'=>V10.Le V'/\z=opB op x y,⟨fun h2=>?_,fun h2=>⟨fun h3=>?_,fun h3=>⟨fun h4=>?_,fun h4=>?_⟩⟩⟩,?_⟩
  ·obtain rfl:=eq_of_beq h2
   exact ⟨fun hx=>⟨y,by and_intros <;> rfl,View.Le.refl _,by rw [hx]; rfl⟩,fun hx=>⟨false,by and_intros <;> rfl,View.Le.refl _,by rw [hx]; rfl⟩⟩
  ·obtain rfl:=eq_of_beq h3
   exact ⟨fun hx=>⟨!y,by and_intros <;> rfl,View.Le.refl _,by rw [hx]; rfl⟩,fun hx=>⟨false,by and_intros <;> rfl,View.Le.refl _,by rw [hx]; rfl⟩⟩
  ·obtain rfl:=eq_of_beq h4
   exact ⟨_,by and_intros <;> rfl,View.Le.refl _,rfl⟩
  ·refine ⟨_,by and_intros <;> rfl,View.Le.refl _,?_⟩
   have h2:¬ op=2:=fun e=>by subst e; cases h2
   have h3:¬ op=3:=fun e=>by subst e; cases h3
   have h4:¬ op=4:=fun e=>by subst e; cases h4
   unfold opB
   rw [if_neg h2,if_neg h3,if_neg h4]
  ·rintro z36 V11 l11 ⟨g11,rfl⟩
   refine ⟨rfl,by omega,ic,hv,rfl,?_,fun sp c' h5 h6=>⟨(z1 + 1,c',_,(z1:Int) + 1),by dsimp only; omega,by and_intros <;> first | rfl | exact i64w (by omega),z1 + 1,rfl,by omega,rfl,h5,?_,?_⟩⟩
   ·intro v hm
    obtain rfl:v=_:=by simpa using hm
    rfl
   ·dsimp only
    have ht:(vs.take (z1 * 1)).length=z1 * 1:=by rw [List.length_take]; omega
    rw [List.length_append,List.length_append,ht]
    simp only [List.length_cons,List.length_nil]
    omega
   ·dsimp only
    have hlen:((marksL op la' lb' cuts).take z1).length=z1:=by rw [List.length_take]; omega
    rw [hm]
    have:=(hx.le (V':=V11) fun _ _ h=>h).snoc (sp:=sp) (xs:=[.bool (opB op x y)]) (a:=opB op x y) rfl rfl (by decide)
    rw [hlen] at this
    exact this
 ·have hlt:¬ (z1:Int) < n14:=of_decide_eq_false hlt
  obtain rfl:z1=cuts.length + 1:=by omega
  dsimp only at hb40 ⊢
  rw [List.take_of_length_le (by omega)] at hx
  have hM:=Lst.of_mrow (c:=z2) hb40 (hx.le (V':=V12) fun _ _ h=>h) (by decide) (by omega)
  rw [ml] at hM
  refine (c_ref06_From (hc.le (l3.trans (l4.trans (l5.trans l12))) fun _ _ h=>h.le (l3.trans (l4.trans (l5.trans l12)))) hM ml (by omega)).mono ?_
  rintro r V13 l13 ⟨p41,n41,c41,rfl,hr⟩
  exact ⟨p41,n41,c41,rfl,fun J42 V14 l14=>⟨_,_,_,rfl,lst_rsl (hr.le l14 fun _ _ h=>h.le l14)⟩⟩
end Go.Proofs.Tryz
/- By program: the conditions of the functions, from their loaded code. -/
namespace Go.Proofs.Tryz
open Go.Eng
open Go.Value renaming int→I,pointer→P,slice→S,agg→A,bool→B,tuple→T
open Go.IntKind renaming i64→J,u64→U,u32→W
set_option maxRecDepth 100000
theorem vc_ref06_WriteAll (g:OA) (e a2:Nat) (V:View) (R:VR) (h:(∃(a3:(Nat × Nat × (List Value) × Int)->VP) (a6:(Nat × Nat × (List Value) × Int)->Nat),(∃i,(s5 g e a2 (e:Int) (none:OA) (((0:Nat)=i.1)/\((0:Nat)=i.2.1)/\sm 0/\((0:Int)=i.2.2.2)/\(i.2.2.1=[])))/\a3 i V)/\∀(a:Nat × Nat × (List Value) × Int) (b:View),V.Le b->a3 a b->(true=true/\(((decide (a.2.2.2 < (e:Int)))=true->(g.isSome=true)/\(0<=a.2.2.2/\a.2.2.2 < (e:Int))/\(∃a7,∃a8 a9 b0,∃b1 b2 b3,∃b4,∃b5 b6 b7,∃b8 b9 c0,∃c1,∃c2,∃d,addrAdd g (a.2.2.2.toNat * 8)=some d/\b.at (d.add 0) (B a7)/\b.at (d.add 1) (S a8 a9 b0)/\b.at (d.add 2) (S b1 b2 b3)/\b.at (d.add 3) (B b4)/\b.at (d.add 4) (S b5 b6 b7)/\b.at (d.add 5) (S b8 b9 c0)/\b.at (d.add 6) (B c1)/\b.at (d.add 7) (B c2)/\(Ca b 59 #[A #[B a7,S a8 a9 b0,S b1 b2 b3,B b4,S b5 b6 b7,S b8 b9 c0,B c1,B c2]] fun c5 c6=>∃l,∃m n o,∃p q r,∃s,∃t u w,∃x y z,∃a0,∃a1,c5=A #[B l,S m n o,S p q r,B s,S t u w,S x y z,B a0,B a1]/\((a.1 + 1) * 120<=140737488355328/\a.1<=a.2.1/\a.2.1 * 8<=a.2.2.1.length/\([B l,S m n o,S p q r,B s,S t u w,S x y z,B a0,B a1]:List Value).length=1 * 8/\(∀c7 ∈ ([B l,S m n o,S p q r,B s,S t u w,S x y z,B a0,B a1]:List Value),c7.oneCell'=true)/\∀(c3:List Value) (a4:Nat),a.1 + 1<=a4->a4 * 8<=(a.1 + 1) * 8 + c3.length->(∃f:Nat × Nat × (List Value) × Int,a6 f < a6 a/\(s4 g e a2 (e:Int) (((a.1 + 1:Nat)=f.1)/\((a4:Nat)=f.2.1)/\((J.wrap (a.2.2.2 + (1:Int)))=f.2.2.2)/\((a.2.2.1.take (a.1 * 8)++([B l,S m n o,S p q r,B s,S t u w,S x y z,B a0,B a1]:List Value)++c3)=f.2.2.1)))/\a3 f c6)))))/\((decide (a.2.2.2 < (e:Int)))=false->(∀a5,b.Le a5->∀c4:Nat,(a.2.2.1≠[]->a5.blk c4 (.cells a.2.2.1.toArray 77 (0,0)))->R (S (mA c4 a.2.1) a.1 a.2.1) a5)))))):
 Acts prog 11 #[S g e a2] V R:=
 fd (LF:=LF0) (RF:=[1000010]) [(3,⟨Nat × Nat × (List Value) × Int,false,[6,7],[],fun k=>[(3,.c (.msl 3 k.1 k.2.1)),(8,.c (.v (I J k.2.2.2)))],fun k=>[(3,⟨.mrow k.2.2.1,77⟩)]⟩)] [] func11 h
theorem vc_geo_Set_API (g:OA) (e a2:Nat) (V:View) (R:VR) (h:(∃(a3:(Nat × Nat × (List Value) × Int)->VP) (a6:(Nat × Nat × (List Value) × Int)->Nat),(∃i,(s5 g e a2 (e:Int) (none:OA) (((0:Nat)=i.1)/\((0:Nat)=i.2.1)/\sm 0/\((0:Int)=i.2.2.2)/\(i.2.2.1=[])))/\a3 i V)/\∀(a:Nat × Nat × (List Value) × Int) (b:View),V.Le b->a3 a b->(true=true/\(((decide (a.2.2.2 < (e:Int)))=true->(g.isSome=true)/\(0<=a.2.2.2/\a.2.2.2 < (e:Int))/\(∃a7,∃a8,∃a9,∃b0,∃b1,∃b2,∃b3,∃b4,∃d,addrAdd g (a.2.2.2.toNat * 8)=some d/\b.at (d.add 0) (I J a7)/\b.at (d.add 1) (I J a8)/\b.at (d.add 2) (P a9)/\b.at (d.add 3) (I J b0)/\b.at (d.add 4) (I J b1)/\b.at (d.add 5) (P b2)/\b.at (d.add 6) (B b3)/\b.at (d.add 7) (B b4)/\(Ca b 131 #[A #[I J a7,I J a8,P a9,I J b0,I J b1,P b2,B b3,B b4]] fun b7 b8=>∃l,∃m n o,∃p q r,∃s,∃t u w,∃x y z,∃a0,∃a1,b7=A #[B l,S m n o,S p q r,B s,S t u w,S x y z,B a0,B a1]/\((a.1 + 1) * 120<=140737488355328/\a.1<=a.2.1/\a.2.1 * 8<=a.2.2.1.length/\([B l,S m n o,S p q r,B s,S t u w,S x y z,B a0,B a1]:List Value).length=1 * 8/\(∀b9 ∈ ([B l,S m n o,S p q r,B s,S t u w,S x y z,B a0,B a1]:List Value),b9.oneCell'=true)/\∀(b5:List Value) (a4:Nat),a.1 + 1<=a4->a4 * 8<=(a.1 + 1) * 8 + b5.length->(∃f:Nat × Nat × (List Value) × Int,a6 f < a6 a/\(s4 g e a2 (e:Int) (((a.1 + 1:Nat)=f.1)/\((a4:Nat)=f.2.1)/\((J.wrap (a.2.2.2 + (1:Int)))=f.2.2.2)/\((a.2.2.1.take (a.1 * 8)++([B l,S m n o,S p q r,B s,S t u w,S x y z,B a0,B a1]:List Value)++b5)=f.2.2.1)))/\a3 f b8)))))/\((decide (a.2.2.2 < (e:Int)))=false->(∀a5,b.Le a5->∀b6:Nat,(a.2.2.1≠[]->a5.blk b6 (.cells a.2.2.1.toArray 77 (0,0)))->R (S (mA b6 a.2.1) a.1 a.2.1) a5)))))):
 Acts prog 65 #[S g e a2] V R:=
 fd (LF:=LF0) (RF:=[1000010]) [(3,⟨Nat × Nat × (List Value) × Int,false,[6,7],[],fun k=>[(3,.c (.msl 3 k.1 k.2.1)),(8,.c (.v (I J k.2.2.2)))],fun k=>[(3,⟨.mrow k.2.2.1,77⟩)]⟩)] [] func65 h
end Go.Proofs.Tryz
/- Contracts: lists of spans are written (printed by mkspan.py). -/
namespace Go.Proofs.Tryz
open Go.Eng Go.Big
theorem sp_shape {V:View} {v:Value} {s:Sp} (h:RSp V v s):∃b p n c p' n' c' d q m e q' m' e',v=.agg #[.bool b,.slice p n c,.slice p' n' c',.bool d,.slice q m e,.slice q' m' e',.bool s.a,.bool s.b]:=by
 obtain ⟨_,_,_,_,_,_,_,_,_,_,_,_,_,_,e,-⟩:=h; exact ⟨_,_,_,_,_,_,_,_,_,_,_,_,_,_,e⟩
theorem iv_shape {V:View} {v:Value} {s:Sp} (h:RIv V v s):∃(x1 x2:Int) (p:OA) (y1 y2:Int) (q:OA),v=.agg #[.int .i64 x1,.int .i64 x2,.pointer p,.int .i64 y1,.int .i64 y2,.pointer q,.bool s.a,.bool s.b]:=by
 obtain ⟨_,_,_,_,_,_,e,-⟩:=h; exact ⟨_,_,_,_,_,_,e⟩
theorem c_ref06_WriteAll {V:View} {p:OA} {n c:Nat} {ls:List Sp} (h:Lst 8 RSs V p n ls) (hn:ls.length<=1000) {k:Nat} (hs:∀s ∈ ls,s.sz k) (hk:k<=1099511627776) :
  Acts prog 11 #[.slice p n c] V fun r V'=>∃q m e,r=.slice q m e/\Lst 8 RSp V' q m ls:=by
 obtain rfl:=h.len
 refine vc_ref06_WriteAll p _ c V _ ⟨fun z V'=>∃j:Nat,z.2.2.2=(j:Int)/\j<=ls.length/\z.1=j/\j<=z.2.1/\z.2.1 * 8<=z.2.2.1.length/\Row 8 RSp V' z.2.2.1 (ls.take j),
  fun z=>ls.length - z.2.2.2.toNat,⟨(0,0,[],0),by and_intros <;> rfl,0,rfl,Nat.zero_le _,rfl,Nat.le_refl _,Nat.le_refl _,Row.nil⟩,?_⟩
 rintro ⟨z1,z2,vs,z4⟩ V1 l1 ⟨j,e4,jle,e1,jc,hv,hx⟩
 dsimp only at e4 e1 jc hv hx
 subst e4 e1
 refine ⟨rfl,fun hlt=>?_,fun hlt V4 l4 bk hb=>?_⟩
 ·have hlt:(z1:Int) < ls.length:=of_decide_eq_true hlt
  have hi:z1 < ls.length:=by omega
  obtain ⟨ad,ha,xs,-,hf,hat⟩:=(h.le l1 fun _ _ g=>RSs.le g l1).at_ z1 hi
  have w:i64.wrap ((z1:Int) + 1)=(z1:Int) + 1:=i64w (by omega)
  dsimp only
  rw [Int.toNat_natCast,w]
  have hf0:=hf
  obtain ⟨_,_,_,_,_,_,_,_,_,_,_,_,_,_,ex,-⟩:=hf
  have ex:=congrArg Array.toList (Value.agg.inj ex)
  dsimp only at ex
  subst ex
  refine ⟨isSome_addr ha,⟨by omega,by omega⟩,_,_,_,_,_,_,_,_,_,_,_,_,_,_,_,_,ad,ha,hat 0 _ rfl,hat 1 _ rfl,hat 2 _ rfl,hat 3 _ rfl,hat 4 _ rfl,hat 5 _ rfl,hat 6 _ rfl,hat 7 _ rfl,fun V2 l2=>(c_ref06_Write (hf0.le l2) (hs _ (List.getElem_mem hi)) hk).mono ?_⟩
  rintro r V3 l3 g
  have g0:=g
  obtain ⟨_,_,_,_,_,_,_,_,_,_,_,_,_,_,rfl⟩:=sp_shape g
  have tl:(ls.take z1).length=z1:=by rw [List.length_take]; omega
  refine ⟨_,_,_,_,_,_,_,_,_,_,_,_,_,_,_,_,rfl,by omega,jc,hv,rfl,?_,fun sp c' h1 h2=>⟨(z1 + 1,c',_,(z1:Int) + 1),by dsimp only; omega,by and_intros <;> rfl,z1 + 1,rfl,hi,rfl,h1,?_,?_⟩⟩
  ·intro v hm
   simp only [List.mem_cons,List.not_mem_nil,or_false] at hm
   rcases hm with rfl | rfl | rfl | rfl | rfl | rfl | rfl | rfl <;> rfl
  ·dsimp only
   have ht:(vs.take (z1 * 8)).length=z1 * 8:=by rw [List.length_take]; omega
   rw [List.length_append,List.length_append,ht]
   simp only [List.length_cons,List.length_nil]
   omega
  ·dsimp only
   rw [List.take_add_one,List.getElem?_eq_getElem hi]
   have:=(hx.le (V':=V3) fun _ _ g=>RSp.le g (l2.trans l3)).snoc (sp:=sp) rfl g0 (by decide)
   rw [tl] at this
   exact this
 ·have hlt:¬ (z1:Int) < ls.length:=of_decide_eq_false hlt
  obtain rfl:z1=ls.length:=by omega
  rw [List.take_length] at hx
  exact ⟨_,_,_,rfl,Lst.of_mrow hb (hx.le fun _ _ g=>RSp.le g l4) (by decide) jc⟩
theorem c_Set_API {V:View} {p:OA} {n c:Nat} {ls:List Sp} (h:Lst 8 RIv V p n ls) (hn:ls.length<=1000) {k:Nat} (hs:∀s ∈ ls,s.sz k) (hk:k<=1099511627776) :
  Acts prog 65 #[.slice p n c] V fun r V'=>∃q m e,r=.slice q m e/\Lst 8 RSp V' q m ls:=by
 obtain rfl:=h.len
 refine vc_geo_Set_API p _ c V _ ⟨fun z V'=>∃j:Nat,z.2.2.2=(j:Int)/\j<=ls.length/\z.1=j/\j<=z.2.1/\z.2.1 * 8<=z.2.2.1.length/\Row 8 RSp V' z.2.2.1 (ls.take j),
  fun z=>ls.length - z.2.2.2.toNat,⟨(0,0,[],0),by and_intros <;> rfl,0,rfl,Nat.zero_le _,rfl,Nat.le_refl _,Nat.le_refl _,Row.nil⟩,?_⟩
 rintro ⟨z1,z2,vs,z4⟩ V1 l1 ⟨j,e4,jle,e1,jc,hv,hx⟩
 dsimp only at e4 e1 jc hv hx
 subst e4 e1
 refine ⟨rfl,fun hlt=>?_,fun hlt V4 l4 bk hb=>?_⟩
 ·have hlt:(z1:Int) < ls.length:=of_decide_eq_true hlt
  have hi:z1 < ls.length:=by omega
  obtain ⟨ad,ha,xs,-,hf,hat⟩:=(h.le l1 fun _ _ g=>RIv.le g l1).at_ z1 hi
  have w:i64.wrap ((z1:Int) + 1)=(z1:Int) + 1:=i64w (by omega)
  dsimp only
  rw [Int.toNat_natCast,w]
  have hf0:=hf
  obtain ⟨_,_,_,_,_,_,ex⟩:=iv_shape hf
  have ex:=congrArg Array.toList (Value.agg.inj ex)
  dsimp only at ex
  subst ex
  refine ⟨isSome_addr ha,⟨by omega,by omega⟩,_,_,_,_,_,_,_,_,ad,ha,hat 0 _ rfl,hat 1 _ rfl,hat 2 _ rfl,hat 3 _ rfl,hat 4 _ rfl,hat 5 _ rfl,hat 6 _ rfl,hat 7 _ rfl,fun V2 l2=>(c_Iv_API (hf0.le l2) (hs _ (List.getElem_mem hi)) hk).mono ?_⟩
  rintro r V3 l3 g
  have g0:=g
  obtain ⟨_,_,_,_,_,_,_,_,_,_,_,_,_,_,rfl⟩:=sp_shape g
  have tl:(ls.take z1).length=z1:=by rw [List.length_take]; omega
  refine ⟨_,_,_,_,_,_,_,_,_,_,_,_,_,_,_,_,rfl,by omega,jc,hv,rfl,?_,fun sp c' h1 h2=>⟨(z1 + 1,c',_,(z1:Int) + 1),by dsimp only; omega,by and_intros <;> rfl,z1 + 1,rfl,hi,rfl,h1,?_,?_⟩⟩
  ·intro v hm
   simp only [List.mem_cons,List.not_mem_nil,or_false] at hm
   rcases hm with rfl | rfl | rfl | rfl | rfl | rfl | rfl | rfl <;> rfl
  ·dsimp only
   have ht:(vs.take (z1 * 8)).length=z1 * 8:=by rw [List.length_take]; omega
   rw [List.length_append,List.length_append,ht]
   simp only [List.length_cons,List.length_nil]
   omega
  ·dsimp only
   rw [List.take_add_one,List.getElem?_eq_getElem hi]
   have:=(hx.le (V':=V3) fun _ _ g=>RSp.le g (l2.trans l3)).snoc (sp:=sp) rfl g0 (by decide)
   rw [tl] at this
   exact this
 ·have hlt:¬ (z1:Int) < ls.length:=of_decide_eq_false hlt
  obtain rfl:z1=ls.length:=by omega
  rw [List.take_length] at hx
  exact ⟨_,_,_,rfl,Lst.of_mrow hb (hx.le fun _ _ g=>RSp.le g l4) (by decide) jc⟩
end Go.Proofs.Tryz
