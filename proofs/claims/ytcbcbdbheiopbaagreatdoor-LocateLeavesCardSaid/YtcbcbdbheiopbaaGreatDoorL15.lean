/- A part of the proof (joined by program from: Cmpt, FracE, VLine, PtA, VRefF, NumK, RefE). -/
import Derived.Test.YtcbcbdbheiopbaaGreatDoorL14
import Derived.Test.YtcbcbdbheiopbaaGreatDoorL13
import Derived.Test.YtcbcbdbheiopbaaGreatDoorL5
set_option linter.unusedVariables false
open Go.IntKind (i64 u64 u32)
/- Plain: what slices.CompactFunc leaves of a list. -/
namespace Go.Proofs.Tryz
open Go.Eng Go.Big
section
variable {α:Type} (e:α->α->Bool)
/-- What is kept of a list behind p: each element that is not like the one ahead of it. -/
def cptF:α->List α->List α
 | _,[]=>[]
 | p,a :: r=>if e a p then cptF a r else a :: cptF a r
def cmpt:List α->List α
 | []=>[]
 | a :: r=>a :: cptF e a r
variable {e}
theorem cptF_snoc {d:α}:∀{r:List α} {p a:α},cptF e p (r++[a])=cptF e p r++if e a ((p :: r).getD r.length d) then [] else [a]
 | [],p,a=>by simp [cptF]
 | b :: r,p,a=>by
  have ih:=cptF_snoc (d:=d) (r:=r) (p:=b) (a:=a)
  have hd:(p :: b :: r).getD (b :: r).length d=(b :: r).getD r.length d:=rfl
  rw [hd,List.cons_append]
  simp only [cptF]
  split
  ·exact ih
  ·rw [ih]; rfl
theorem cmpt_take {d:α} {l:List α} {k:Nat} (hk:k + 1 < l.length):cmpt e (l.take (k + 2))=cmpt e (l.take (k + 1))++if e (l.getD (k + 1) d) (l.getD k d) then [] else [l.getD (k + 1) d]:=by
 cases l with
 | nil=>simp at hk
 | cons a r=>
  have hk':k < r.length:=by simpa using hk
  have h1:(a :: r).take (k + 2)=a :: (r.take k++[r[k]]):=by
   rw [List.take_succ_cons,List.take_append_getElem hk']
  have h2:(a :: r).take (k + 1)=a :: r.take k:=List.take_succ_cons
  rw [h1,h2]
  simp only [cmpt]
  rw [cptF_snoc (d:=d)]
  have e1:(a :: r).getD (k + 1) d=r[k]:=by rw [List.getD_cons_succ,List.getD_eq_getElem?_getD,List.getElem?_eq_getElem hk']; rfl
  have e2:(a :: r.take k).getD (r.take k).length d=(a :: r).getD k d:=by
   have hl:(r.take k).length=k:=by rw [List.length_take]; omega
   rw [hl]
   cases k with
   | zero=>rfl
   | succ k=>
    rw [List.getD_cons_succ,List.getD_cons_succ,List.getD_eq_getElem?_getD,List.getD_eq_getElem?_getD,List.getElem?_take,if_pos (by omega)]
  rw [e1,e2,List.cons_append]
theorem cptF_sub:∀{r:List α} {p:α},∀x ∈ cptF e p r,x ∈ r
 | [],p,x,h=>h
 | b :: r,p,x,h=>by
  unfold cptF at h
  split at h
  ·exact List.mem_cons_of_mem _ (cptF_sub x h)
  ·rcases List.mem_cons.1 h with rfl | h
   ·exact List.mem_cons_self ..
   ·exact List.mem_cons_of_mem _ (cptF_sub x h)
theorem cmpt_sub {l:List α}:∀x ∈ cmpt e l,x ∈ l:=by
 cases l with
 | nil=>exact fun x h=>h
 | cons a r=>
  intro x h
  rcases List.mem_cons.1 h with rfl | h
  ·exact List.mem_cons_self ..
  ·exact List.mem_cons_of_mem _ (cptF_sub x h)
theorem cptF_len:∀{r:List α} {p:α},(cptF e p r).length<=r.length
 | [],p=>Nat.le_refl _
 | b :: r,p=>by
  have:=cptF_len (r:=r) (p:=b)
  unfold cptF
  split <;> simp <;> omega
theorem cmpt_len {l:List α}:(cmpt e l).length<=l.length:=by
 cases l with
 | nil=>exact Nat.le_refl _
 | cons a r=>have:=cptF_len (e:=e) (r:=r) (p:=a); simp [cmpt]; omega
theorem cptF_lt {d:α} {l:List α} {k:Nat} (hk:k + 1 < l.length) (he:e (l.getD (k + 1) d) (l.getD k d)=true):(cmpt e l).length < l.length:=by
 have key:∀j,k + 2 + j<=l.length->(cmpt e (l.take (k + 2 + j))).length < k + 2 + j:=by
  intro j
  induction j with
  | zero=>
   intro _
   rw [Nat.add_zero,cmpt_take (d:=d) hk,he,if_pos rfl,List.append_nil]
   have:=cmpt_len (e:=e) (l:=l.take (k + 1))
   rw [List.length_take] at this
   omega
  | succ j ih=>
   intro hj
   have:=ih (by omega)
   rw [show k + 2 + (j + 1)=k + 1 + j + 2 by omega,cmpt_take (d:=d) (by omega),List.length_append,show k + 1 + j + 1=k + 2 + j by omega]
   split <;> simp <;> omega
 have:=key (l.length - (k + 2)) (by omega)
 rwa [show k + 2 + (l.length - (k + 2))=l.length by omega,List.take_length] at this
theorem cmpt_one {l:List α} (h:l.length<=1):cmpt e l=l:=by
 match l,h with
 | [],_=>rfl
 | [a],_=>rfl
 | _ :: _ :: _,h=>simp at h
end
end Go.Proofs.Tryz
namespace Go.Eng
open Go.Proofs.Tryz
section
variable {α:Type} {sz:Nat} {R:View->Value->α->Prop} {V:View} {d:α}
/-- The first elements of a row whose end is cleared. -/
theorem Row.cleared {vs zs:List Value} {al:List α} (h:Row sz R V vs al) {k:Nat} (hk:k<=al.length) (hs:0 < sz):Row sz R V (vs.take (k * sz)++zs) (al.take k):=by
 have hl:=h.len_le hs
 refine ⟨fun i hi=>?_⟩
 rw [List.length_take] at hi
 obtain ⟨xs,h1,h2,h3⟩:=h.at_ i (by omega)
 refine ⟨xs,h1,by rw [List.getElem_take]; exact h2,fun j x hj=>?_⟩
 have hj':=(List.getElem?_eq_some_iff.1 hj).1
 have h4:(i + 1) * sz<=k * sz:=Nat.mul_le_mul_right _ (by omega)
 have h5:k * sz<=al.length * sz:=Nat.mul_le_mul_right _ hk
 rw [Nat.succ_mul] at h4
 rw [List.getElem?_append_left (by rw [List.length_take]; omega),List.getElem?_take,if_pos (by omega)]
 exact h3 j x hj
end
end Go.Eng
/- Contracts of the rational numbers: Of, API, Mul, Inv, Quo. -/
namespace Go.Proofs.Tryz
open Go.Eng Go.Big
/-- A number of package api in normal form. -/
def RA (V:View) (v:Value) (q:Rat):Prop:=∃p n c p' n' c',v=.agg #[.bool (decide (q.num < 0)),.slice p n c,.slice p' n' c']/\RD V p n c (digs q.num.natAbs)/\RD V p' n' c' (digs q.den)
theorem RA.le {V V':View} {v:Value} {q:Rat} (h:RA V v q) (l:V.Le V'):RA V' v q:=by
 obtain ⟨p,n,c,p',n',c',e,h1,h2⟩:=h
 exact ⟨p,n,c,p',n',c',e,h1.le l,h2.le l⟩
theorem c_frac_Of' {V:View} (b:Bool) {p q:OA} {n c m e:Nat} {xs ys:List Nat} (hx:RD V p n c xs) (hy:RD V q m e ys) (hm:xs.length<=1099511627776) (hn:ys.length<=1099511627776) :
  Acts prog 156 #[.agg #[.bool b,.slice p n c,.slice q m e]] V fun r V'=>RR V' r (mkRat (ival b xs) (val ys)):=by
 refine vc_frac_Of b p n c q m e V _ fun V1 l1=>(c_frac_reduce b (hx.le l1) (hy.le l1) hm hn).mono ?_
 rintro r V2 l2 h
 obtain ⟨u,v,w,rfl⟩:=h.shape
 exact ⟨_,_,_,rfl,fun V3 l3=>h.le l3⟩
theorem c_frac_Of {V:View} {v:Value} {q:Rat} (h:RA V v q) {k:Nat} (hs:Sz k q) (hk:k<=1099511627776):Acts prog 156 #[v] V fun r V'=>RR V' r q:=by
 obtain ⟨p,n,c,p',n',c',rfl,h1,h2⟩:=h
 have q1:=digs_len_bits hs.1
 have q2:=digs_len_bits hs.2
 refine (c_frac_Of' _ h1 h2 (by omega) (by omega)).mono ?_
 rintro r V' _ h
 rw [ival_digs,val_digs,Rat.mkRat_self] at h
 exact h
theorem c_R_Mul {V:View} {v w:Value} {x y:Rat} (hx:RR V v x) (hy:RR V w y) {k m:Nat} (hk:Sz k x) (hm:Sz m y) (hkm:k + m < 1099511627776) :
  Acts prog 242 #[v,w] V fun r V'=>RR V' r (x * y):=by
 obtain ⟨r0,r1,r2,rfl⟩:=hx.shape
 obtain ⟨s0,s1,s2,rfl⟩:=hy.shape
 have hxy:x * y=mkRat (x.num * y.num) (x.den * y.den):=Rat.mul_def' x y
 have b1:(x.num * y.num).natAbs < 2 ^ (k + m):=by rw [Int.natAbs_mul,Nat.pow_add]; exact Nat.mul_lt_mul'' hk.1 hm.1
 have b2:x.den * y.den < 2 ^ (k + m):=by rw [Nat.pow_add]; exact Nat.mul_lt_mul'' hk.2 hm.2
 have q1:=digs_len_bits hk.1
 have q2:=digs_len_bits hk.2
 have q3:=digs_len_bits hm.1
 have q4:=digs_len_bits hm.2
 have q5:=digs_len_bits b1
 have q6:=digs_len_bits b2
 refine vc_frac_R_Mul r0 r1 r2 s0 s1 s2 V _ ⟨fun hr=>⟨fun _ _=>True,⟨fun hs=>?_,fun _=>⟨(),by (try dsimp only); and_intros <;> trivial,trivial⟩⟩,fun _ V8 l8 _=>⟨rfl,fun V9 l9'=>?_⟩⟩,fun _ V9 l9=>?_⟩
 ·rcases hx with ⟨ex,wx⟩ | ⟨a,b,p,n,c,p',n',c',ex,-,-,-,-,-,wx⟩
  ·rcases hy with ⟨ey,wy⟩ | ⟨a,b,p,n,c,p',n',c',ey,-,-,-,-,-,wy⟩
   ·simp only [Value.agg.injEq,Array.mk.injEq,List.cons.injEq,Value.int.injEq,Value.pointer.injEq,true_and,and_true] at ex ey
    obtain ⟨rfl,rfl,rfl⟩:=ex
    obtain ⟨rfl,rfl,rfl⟩:=ey
    obtain ⟨wx1,wx2⟩:=wx
    obtain ⟨wy1,wy2⟩:=wy
    have dx:=x.den_nz
    have dy:=y.den_nz
    have e1:i64.wrap ((x.den:Int) - 1 + 1)=x.den:=by rw [i64w (by omega)]; omega
    have e2:i64.wrap ((y.den:Int) - 1 + 1)=y.den:=by rw [i64w (by omega)]; omega
    rw [e1,e2]
    intro V1 l1
    refine (c_frac_times _ _ wx1 wy1).mono ?_
    rintro r V2 l2 ⟨z1,rfl,hz1⟩
    refine ⟨_,_,rfl,fun V3 l3=>(c_frac_times _ _ (by omega) (by omega)).mono ?_⟩
    rintro r V4 l4 ⟨z2,rfl,hz2⟩
    refine ⟨_,_,rfl,fun t1=>⟨fun t2 V5 l5=>?_,fun _=>⟨(),by (try dsimp only); and_intros <;> trivial,trivial⟩⟩,fun _=>⟨(),by (try dsimp only); and_intros <;> trivial,trivial⟩⟩
    have t1:=of_decide_eq_true t1
    have t2:=of_decide_eq_true t2
    rw [hz1 t1,hz2 t2]
    have hd:((x.den:Int) * (y.den:Int))=((x.den * y.den:Nat):Int):=(Int.natCast_mul ..).symm
    rw [hd] at t2 ⊢
    refine (c_frac_lowest _ _ t1 (by rwa [Int.natAbs_natCast] at t2) (Nat.mul_ne_zero dx dy)).mono ?_
    rintro r V6 l6 h6
    rw [← hxy] at h6
    obtain ⟨n,d,p,rfl⟩:=h6.shape
    exact ⟨_,_,_,rfl,fun V7 l7=>h6.le l7⟩
   ·simp only [Value.agg.injEq,Array.mk.injEq,List.cons.injEq,Value.int.injEq,Value.pointer.injEq,true_and,and_true] at ey
    obtain ⟨rfl,rfl,rfl⟩:=ey
    cases hs
  ·simp only [Value.agg.injEq,Array.mk.injEq,List.cons.injEq,Value.int.injEq,Value.pointer.injEq,true_and,and_true] at ex
   obtain ⟨rfl,rfl,rfl⟩:=ex
   cases hr
 ·have l9:=l8.trans l9'
  refine (c_R_Num (hx.le l9) hk (by omega)).mono ?_
  rintro r V10 l10 ⟨p1,n1,c1,rfl,g1⟩
  refine ⟨_,_,_,_,rfl,fun V11 l11=>(c_R_Num (hy.le (l9.trans (l10.trans l11))) hm (by omega)).mono ?_⟩
  rintro r V12 l12 ⟨p2,n2,c2,rfl,g2⟩
  refine ⟨_,_,_,_,rfl,fun V13 l13=>(c_integer_Mul _ _ (g1.le (l11.trans (l12.trans l13))) (g2.le l13) (by omega)).mono ?_⟩
  rintro r V14 l14 h14
  rw [ival_digs,ival_digs] at h14
  obtain ⟨p3,n3,c3,rfl,g3⟩:=h14
  have L14:=l9.trans (l10.trans (l11.trans (l12.trans (l13.trans l14))))
  refine ⟨_,_,_,_,rfl,fun V15 l15=>(c_R_Den (hx.le (L14.trans l15)) hk (by omega)).mono ?_⟩
  rintro r V16 l16 ⟨p4,n4,c4,rfl,g4⟩
  refine ⟨_,_,_,rfl,fun V17 l17=>(c_R_Den (hy.le (L14.trans (l15.trans (l16.trans l17)))) hm (by omega)).mono ?_⟩
  rintro r V18 l18 ⟨p5,n5,c5,rfl,g5⟩
  refine ⟨_,_,_,rfl,fun V19 l19=>(c_nat_Mul (g4.le (l17.trans (l18.trans l19))) (g5.le l19) (by omega)).mono ?_⟩
  rintro r V20 l20 ⟨p6,n6,c6,rfl,g6⟩
  rw [val_digs,val_digs] at g6
  refine ⟨_,_,_,rfl,fun V21 l21=>(c_frac_reduce _ (g3.le (l15.trans (l16.trans (l17.trans (l18.trans (l19.trans (l20.trans l21))))))) (g6.le l21) (by omega) (by omega)).mono ?_⟩
  rintro r V22 l22 h22
  rw [ival_digs,val_digs,← hxy] at h22
  obtain ⟨n,d,p,rfl⟩:=h22.shape
  exact ⟨_,_,_,rfl,fun V23 l23=>h22.le l23⟩
 ·skip
  refine (c_R_Num (hx.le l9) hk (by omega)).mono ?_
  rintro r V10 l10 ⟨p1,n1,c1,rfl,g1⟩
  refine ⟨_,_,_,_,rfl,fun V11 l11=>(c_R_Num (hy.le (l9.trans (l10.trans l11))) hm (by omega)).mono ?_⟩
  rintro r V12 l12 ⟨p2,n2,c2,rfl,g2⟩
  refine ⟨_,_,_,_,rfl,fun V13 l13=>(c_integer_Mul _ _ (g1.le (l11.trans (l12.trans l13))) (g2.le l13) (by omega)).mono ?_⟩
  rintro r V14 l14 h14
  rw [ival_digs,ival_digs] at h14
  obtain ⟨p3,n3,c3,rfl,g3⟩:=h14
  have L14:=l9.trans (l10.trans (l11.trans (l12.trans (l13.trans l14))))
  refine ⟨_,_,_,_,rfl,fun V15 l15=>(c_R_Den (hx.le (L14.trans l15)) hk (by omega)).mono ?_⟩
  rintro r V16 l16 ⟨p4,n4,c4,rfl,g4⟩
  refine ⟨_,_,_,rfl,fun V17 l17=>(c_R_Den (hy.le (L14.trans (l15.trans (l16.trans l17)))) hm (by omega)).mono ?_⟩
  rintro r V18 l18 ⟨p5,n5,c5,rfl,g5⟩
  refine ⟨_,_,_,rfl,fun V19 l19=>(c_nat_Mul (g4.le (l17.trans (l18.trans l19))) (g5.le l19) (by omega)).mono ?_⟩
  rintro r V20 l20 ⟨p6,n6,c6,rfl,g6⟩
  rw [val_digs,val_digs] at g6
  refine ⟨_,_,_,rfl,fun V21 l21=>(c_frac_reduce _ (g3.le (l15.trans (l16.trans (l17.trans (l18.trans (l19.trans (l20.trans l21))))))) (g6.le l21) (by omega) (by omega)).mono ?_⟩
  rintro r V22 l22 h22
  rw [ival_digs,val_digs,← hxy] at h22
  obtain ⟨n,d,p,rfl⟩:=h22.shape
  exact ⟨_,_,_,rfl,fun V23 l23=>h22.le l23⟩
theorem inv_neg {q:Rat} (h:q.num < 0):(q⁻¹).num=-(q.den:Int)/\(q⁻¹).den=q.num.natAbs:=by
 show (Rat.inv q).num=_/\(Rat.inv q).den=_
 unfold Rat.inv
 rw [dif_pos h]
 exact ⟨rfl,rfl⟩
theorem inv_pos {q:Rat} (h:0 < q.num):(q⁻¹).num=(q.den:Int)/\(q⁻¹).den=q.num.natAbs:=by
 show (Rat.inv q).num=_/\(Rat.inv q).den=_
 unfold Rat.inv
 rw [dif_neg (by omega),dif_pos h]
 exact ⟨rfl,rfl⟩
theorem inv_zero {q:Rat} (h:q.num=0):q⁻¹=0:=by
 have:q=0:=Rat.num_eq_zero.1 h
 subst this
 exact Rat.inv_zero
theorem sz_inv {k:Nat} {q:Rat} (h:Sz k q):Sz k q⁻¹:=by
 rcases Int.lt_trichotomy q.num 0 with h0 | h0 | h0
 ·obtain ⟨e1,e2⟩:=inv_neg h0
  refine ⟨?_,?_⟩
  ·rw [e1,Int.natAbs_neg]; exact h.2
  ·rw [e2]; exact h.1
 ·rw [inv_zero h0]
  exact ⟨Nat.two_pow_pos _,Nat.lt_of_le_of_lt (Nat.pos_of_ne_zero q.den_nz) h.2⟩
 ·obtain ⟨e1,e2⟩:=inv_pos h0
  exact ⟨by rw [e1]; exact h.2,by rw [e2]; exact h.1⟩
theorem c_R_Inv {V:View} {v:Value} {q:Rat} (h:RR V v q) {k:Nat} (hs:Sz k q) (hk:k<=1099511627776):Acts prog 285 #[v] V fun r V'=>RR V' r q⁻¹:=by
 rcases h with ⟨rfl,hw⟩ | ⟨a,b,p,n,c,p',n',c',rfl,h1,h2,h3,h4,h5,hw⟩
 ·obtain ⟨w1,w2⟩:=hw
  have hd:=q.den_nz
  refine vc_frac_R_Inv _ _ _ V _ ⟨(fun h0=>nomatch h0),fun _=>⟨fun g V4 l4=>?_,fun g=>⟨fun g2 V5 l5=>?_,fun g2 V6 l6=>?_⟩⟩⟩
  ·have g:=of_decide_eq_true g
   obtain ⟨e1,e2⟩:=inv_neg g
   refine .inl ⟨?_,?_⟩
   ·rw [e1,e2,i64w (x:=(q.den:Int) - 1 + 1) (by omega),i64w (x:=0 - q.num) (by omega),i64w (x:=0 - ((q.den:Int) - 1 + 1)) (by omega),i64w (by omega)]
    congr 4
    ·omega
    ·congr 1; omega
   ·unfold Wd; rw [e1,e2,Int.natAbs_neg]; exact ⟨w2,w1⟩
  ·have g2:q.num=0:=by simpa using g2
   rw [inv_zero g2]
   exact .inl ⟨rfl,by decide,by decide⟩
  ·have g:¬ q.num < 0:=of_decide_eq_false g
   have g2:q.num≠0:=by simpa using g2
   obtain ⟨e1,e2⟩:=inv_pos (q:=q) (by omega)
   refine .inl ⟨?_,?_⟩
   ·rw [e1,e2,i64w (x:=(q.den:Int) - 1 + 1) (by omega),i64w (by omega)]
    congr 4
    ·omega
    ·congr 1; omega
   ·unfold Wd; rw [e1,e2]; exact ⟨w2,w1⟩
 ·obtain ⟨rfl,hn⟩:=h4.inv
  have q1:=digs_len_bits hs.1
  have q2:=digs_len_bits hs.2
  refine vc_frac_R_Inv _ _ _ V _ ⟨fun _=>⟨rfl,rfl,rfl,decide (q.num < 0),⟨a.add 0,by simp [addrAdd,Addr.add],h1⟩,rfl,rfl,p',n',c',⟨a.add 2,rfl,h3⟩,rfl,rfl,rfl,p,n,c,⟨a.add 1,by simp [addrAdd,Addr.add],h2⟩,fun V1 l1=>(c_frac_reduce _ (h5.le l1) (hn.le l1) (by omega) (by omega)).mono ?_⟩,fun h0=>nomatch h0⟩
  rintro r V2 l2 h
  have e:mkRat (ival (decide (q.num < 0)) (digs q.den)) (val (digs q.num.natAbs))=q⁻¹:=by
   rw [val_digs]
   have hv:ival (decide (q.num < 0)) (digs q.den)=if q.num < 0 then -(q.den:Int) else (q.den:Int):=by
    unfold ival
    rw [val_digs]
    by_cases g:q.num < 0 <;> simp [g]
   rw [hv]
   rcases Int.lt_trichotomy q.num 0 with h0 | h0 | h0
   ·obtain ⟨e1,e2⟩:=inv_neg h0
    rw [if_pos h0,← e1,← e2,Rat.mkRat_self]
   ·rw [inv_zero h0,h0]; simp
   ·obtain ⟨e1,e2⟩:=inv_pos h0
    rw [if_neg (by omega),← e1,← e2,Rat.mkRat_self]
  rw [e] at h
  obtain ⟨u,v,w,rfl⟩:=h.shape
  exact ⟨_,_,_,rfl,fun V3 l3=>h.le l3⟩
end Go.Proofs.Tryz
/- By program: the conditions of the functions, from their loaded code. -/
namespace Go.Proofs.Tryz
open Go.Eng
open Go.Value renaming int→I,pointer→P,slice→S,agg→A,bool→B,tuple→T
open Go.IntKind renaming i64→J,u64→U,u32→W
set_option maxRecDepth 100000
theorem vc_geo_PtOf (a:Bool) (b:OA) (c d:Nat) (e:OA) (f g:Nat) (i:Bool) (k:OA) (l m:Nat) (n:OA) (o p:Nat) (V:View) (R:VR) (h:(Ca V 156 #[A #[B a,S b c d,S e f g]] fun y z=>∃q,∃r,∃s,y=A #[I J q,I J r,P s]/\(Ca z 156 #[A #[B i,S k l m,S n o p]] fun a0 a1=>∃t,∃u,∃w,a0=A #[I J t,I J u,P w]/\(Rt a1 R (A #[I J q,I J r,P s,I J t,I J u,P w]))))):
 Acts prog 75 #[A #[B a,S b c d,S e f g,B i,S k l m,S n o p]] V R:=
 fd (LF:=LF0) (RF:=[1000015]) [] [] func75 h
theorem vc_geo_Pt_Add (a b:Int) (c:OA) (d e:Int) (f:OA) (g i:Int) (k:OA) (l m:Int) (n:OA) (V:View) (R:VR) (h:(Ca V 243 #[A #[I J a,I J b,P c],A #[I J g,I J i,P k]] fun w x=>∃o,∃p,∃q,w=A #[I J o,I J p,P q]/\(Ca x 243 #[A #[I J d,I J e,P f],A #[I J l,I J m,P n]] fun y z=>∃r,∃s,∃t,y=A #[I J r,I J s,P t]/\(Rt z R (A #[I J o,I J p,P q,I J r,I J s,P t]))))):
 Acts prog 231 #[A #[I J a,I J b,P c,I J d,I J e,P f],A #[I J g,I J i,P k,I J l,I J m,P n]] V R:=
 fd (LF:=LF0) (RF:=[1000015]) [] [] func231 h
theorem vc_geo_Pt_Scale (d e:Int) (f:OA) (g i:Int) (k:OA) (a b:Int) (c:OA) (V:View) (R:VR) (h:(Ca V 242 #[A #[I J d,I J e,P f],A #[I J a,I J b,P c]] fun s t=>∃l,∃m,∃n,s=A #[I J l,I J m,P n]/\(Ca t 242 #[A #[I J g,I J i,P k],A #[I J a,I J b,P c]] fun u w=>∃o,∃p,∃q,u=A #[I J o,I J p,P q]/\(Rt w R (A #[I J l,I J m,P n,I J o,I J p,P q]))))):
 Acts prog 284 #[A #[I J d,I J e,P f,I J g,I J i,P k],A #[I J a,I J b,P c]] V R:=
 fd (LF:=LF0) (RF:=[1000015]) [] [] func284 h
theorem vc_geo_Pt_Turn (a b:Int) (c:OA) (d e:Int) (f:OA) (V:View) (R:VR) (h:(Ca V 269 #[A #[I J d,I J e,P f]] fun m n=>∃g,∃i,∃k,m=A #[I J g,I J i,P k]/\(Rt n R (A #[I J g,I J i,P k,I J a,I J b,P c])))):
 Acts prog 232 #[A #[I J a,I J b,P c,I J d,I J e,P f]] V R:=
 fd (LF:=LF0) (RF:=[1000015]) [] [] func232 h
theorem vc_geo_Pt_Dot (a b:Int) (c:OA) (d e:Int) (f:OA) (g i:Int) (k:OA) (l m:Int) (n:OA) (V:View) (R:VR) (h:(Ca V 242 #[A #[I J a,I J b,P c],A #[I J g,I J i,P k]] fun z a0=>∃o,∃p,∃q,z=A #[I J o,I J p,P q]/\(Ca a0 242 #[A #[I J d,I J e,P f],A #[I J l,I J m,P n]] fun a1 a2=>∃r,∃s,∃t,a1=A #[I J r,I J s,P t]/\(Ca a2 243 #[A #[I J o,I J p,P q],A #[I J r,I J s,P t]] fun a3 a4=>∃u,∃w,∃x,a3=A #[I J u,I J w,P x]/\(Rt a4 R (A #[I J u,I J w,P x])))))):
 Acts prog 164 #[A #[I J a,I J b,P c,I J d,I J e,P f],A #[I J g,I J i,P k,I J l,I J m,P n]] V R:=
 fd (LF:=LF0) (RF:=[1000015]) [] [] func164 h
theorem vc_geo_Pt_Cross (a b:Int) (c:OA) (d e:Int) (f:OA) (g i:Int) (k:OA) (l m:Int) (n:OA) (V:View) (R:VR) (h:(Ca V 242 #[A #[I J a,I J b,P c],A #[I J l,I J m,P n]] fun z a0=>∃o,∃p,∃q,z=A #[I J o,I J p,P q]/\(Ca a0 242 #[A #[I J d,I J e,P f],A #[I J g,I J i,P k]] fun a1 a2=>∃r,∃s,∃t,a1=A #[I J r,I J s,P t]/\(Ca a2 273 #[A #[I J o,I J p,P q],A #[I J r,I J s,P t]] fun a3 a4=>∃u,∃w,∃x,a3=A #[I J u,I J w,P x]/\(Rt a4 R (A #[I J u,I J w,P x])))))):
 Acts prog 230 #[A #[I J a,I J b,P c,I J d,I J e,P f],A #[I J g,I J i,P k,I J l,I J m,P n]] V R:=
 fd (LF:=LF0) (RF:=[1000015]) [] [] func230 h
theorem vc_geo_Ln_Normal (a b:Int) (c:OA) (d e:Int) (f:OA) (i k:Int) (l:OA) (V:View) (R:VR) (h:(Rt V R (A #[I J a,I J b,P c,I J d,I J e,P f]))):
 Acts prog 163 #[A #[I J a,I J b,P c,I J d,I J e,P f,I J i,I J k,P l]] V R:=
 fd (LF:=LF0) (RF:=[1000015]) [] [] func163 h
theorem vc_geo_Ln_Dir (a b:Int) (c:OA) (d e:Int) (f:OA) (m n:Int) (o:OA) (V:View) (R:VR) (h:(Ca V 269 #[A #[I J a,I J b,P c]] fun p q=>∃g,∃i,∃k,p=A #[I J g,I J i,P k]/\(Rt q R (A #[I J d,I J e,P f,I J g,I J i,P k])))):
 Acts prog 237 #[A #[I J a,I J b,P c,I J d,I J e,P f,I J m,I J n,P o]] V R:=
 fd (LF:=LF0) (RF:=[1000015]) [] [] func237 h
theorem vc_geo_Ln_Value (d e:Int) (f:OA) (g i:Int) (k:OA) (a b:Int) (c:OA) (l m:Int) (n:OA) (o p:Int) (q:OA) (V:View) (R:VR) (h:(Ca V 163 #[A #[I J d,I J e,P f,I J g,I J i,P k,I J a,I J b,P c]] fun a5 a6=>∃r,∃s,∃t,∃u,∃w,∃x,a5=A #[I J r,I J s,P t,I J u,I J w,P x]/\(Ca a6 164 #[A #[I J r,I J s,P t,I J u,I J w,P x],A #[I J l,I J m,P n,I J o,I J p,P q]] fun a7 a8=>∃y,∃z,∃a0,a7=A #[I J y,I J z,P a0]/\(Ca a8 243 #[A #[I J y,I J z,P a0],A #[I J a,I J b,P c]] fun a9 b0=>∃a1,∃a2,∃a3,a9=A #[I J a1,I J a2,P a3]/\(Rt b0 R (A #[I J a1,I J a2,P a3])))))):
 Acts prog 241 #[A #[I J d,I J e,P f,I J g,I J i,P k,I J a,I J b,P c],A #[I J l,I J m,P n,I J o,I J p,P q]] V R:=
 fd (LF:=LF0) (RF:=[1000015]) [] [] func241 h
theorem vc_geo_Ln_Side (a b:Int) (c:OA) (d e:Int) (f:OA) (g i:Int) (k:OA) (l m:Int) (n:OA) (o p:Int) (q:OA) (V:View) (R:VR) (h:(Ca V 241 #[A #[I J a,I J b,P c,I J d,I J e,P f,I J g,I J i,P k],A #[I J l,I J m,P n,I J o,I J p,P q]] fun x y=>∃r,∃s,∃t,x=A #[I J r,I J s,P t]/\(Ca y 165 #[A #[I J r,I J s,P t]] fun z a0=>∃u,z=I J u/\(Rt a0 R (I J u))))):
 Acts prog 162 #[A #[I J a,I J b,P c,I J d,I J e,P f,I J g,I J i,P k],A #[I J l,I J m,P n,I J o,I J p,P q]] V R:=
 fd (LF:=LF0) (RF:=[1000015]) [] [] func162 h
end Go.Proofs.Tryz
/- Contracts of points and lines of package geo (printed by straight.py). -/
namespace Go.Proofs.Tryz
open Go.Eng Go.Big
/-- A point of package geo. -/
def RPt (V:View) (v:Value) (x y:Rat):Prop:=∃(x1 x2:Int) (p:OA) (y1 y2:Int) (q:OA),v=.agg #[.int .i64 x1,.int .i64 x2,.pointer p,.int .i64 y1,.int .i64 y2,.pointer q] /\
 RR V (.agg #[.int .i64 x1,.int .i64 x2,.pointer p]) x/\RR V (.agg #[.int .i64 y1,.int .i64 y2,.pointer q]) y
theorem RPt.le {V V':View} {v:Value} {x y:Rat} (h:RPt V v x y) (l:V.Le V'):RPt V' v x y:=by
 obtain ⟨x1,x2,p,y1,y2,q,e,h1,h2⟩:=h
 exact ⟨x1,x2,p,y1,y2,q,e,h1.le l,h2.le l⟩
theorem c_geo_Pt_Add {V:View} {p:Value} {p_0 p_1:Rat} {q:Value} {q_0 q_1:Rat} (hp:RPt V p p_0 p_1) (hq:RPt V q q_0 q_1) {k:Nat} (sp_0:Sz k p_0) (sp_1:Sz k p_1) (sq_0:Sz k q_0) (sq_1:Sz k q_1) (hk:2 * k + 1 < 274877906944) :
  Acts prog 231 #[p,q] V fun r V'=>RPt V' r ((p_0) + (q_0)) ((p_1) + (q_1)):=by
 have hp0:=hp
 obtain ⟨p0,p1,p2,p3,p4,p5,rfl,hp_0,hp_1⟩:=hp
 have hq0:=hq
 obtain ⟨q0,q1,q2,q3,q4,q5,rfl,hq_0,hq_1⟩:=hq
 refine vc_geo_Pt_Add p0 p1 p2 p3 p4 p5 q0 q1 q2 q3 q4 q5 V _ fun V1 l1=>(c_R_Add (hp_0.le (l1)) (hq_0.le (l1)) sp_0 sq_0 (by omega)).mono ?_
 rintro r V2 l2 g1
 have g10:=g1
 obtain ⟨w0a,w0b,w0c,rfl⟩:=g1.shape
 have z1_0:Sz (2 * k + 1) ((p_0) + (q_0)):=Sz.mono (Sz.add sp_0 sq_0) (by omega)
 refine ⟨_,_,_,rfl,fun V3 l3=>(c_R_Add (hp_1.le (l1.trans (l2.trans (l3)))) (hq_1.le (l1.trans (l2.trans (l3)))) sp_1 sq_1 (by omega)).mono ?_⟩
 rintro r V4 l4 g2
 have g20:=g2
 obtain ⟨w1a,w1b,w1c,rfl⟩:=g2.shape
 have z2_0:Sz (2 * k + 1) ((p_1) + (q_1)):=Sz.mono (Sz.add sp_1 sq_1) (by omega)
 exact ⟨_,_,_,rfl,fun V5 l5=>⟨_,_,_,_,_,_,rfl,(g10.le (l3.trans (l4.trans (l5)))),(g20.le (l5))⟩⟩
theorem z_geo_Pt_Add_0 {p_0 p_1 q_0 q_1:Rat} {k:Nat} (sp_0:Sz k p_0) (sp_1:Sz k p_1) (sq_0:Sz k q_0) (sq_1:Sz k q_1):Sz (2 * k + 1) ((p_0) + (q_0)):=by
 have z1_0:Sz (2 * k + 1) ((p_0) + (q_0)):=Sz.mono (Sz.add sp_0 sq_0) (by omega)
 have z2_0:Sz (2 * k + 1) ((p_1) + (q_1)):=Sz.mono (Sz.add sp_1 sq_1) (by omega)
 exact Sz.mono z1_0 (by omega)
theorem z_geo_Pt_Add_1 {p_0 p_1 q_0 q_1:Rat} {k:Nat} (sp_0:Sz k p_0) (sp_1:Sz k p_1) (sq_0:Sz k q_0) (sq_1:Sz k q_1):Sz (2 * k + 1) ((p_1) + (q_1)):=by
 have z1_0:Sz (2 * k + 1) ((p_0) + (q_0)):=Sz.mono (Sz.add sp_0 sq_0) (by omega)
 have z2_0:Sz (2 * k + 1) ((p_1) + (q_1)):=Sz.mono (Sz.add sp_1 sq_1) (by omega)
 exact Sz.mono z2_0 (by omega)
theorem c_geo_Pt_Scale {V:View} {p:Value} {p_0 p_1:Rat} {c:Value} {c_0:Rat} (hp:RPt V p p_0 p_1) (hc:RR V c c_0) {k:Nat} (sp_0:Sz k p_0) (sp_1:Sz k p_1) (sc_0:Sz k c_0) (hk:2 * k + 1 < 274877906944) :
  Acts prog 284 #[p,c] V fun r V'=>RPt V' r ((p_0) * (c_0)) ((p_1) * (c_0)):=by
 have hp0:=hp
 obtain ⟨p0,p1,p2,p3,p4,p5,rfl,hp_0,hp_1⟩:=hp
 have hc0:=hc
 obtain ⟨c0,c1,c2,rfl⟩:=hc.shape
 refine vc_geo_Pt_Scale p0 p1 p2 p3 p4 p5 c0 c1 c2 V _ fun V1 l1=>(c_R_Mul (hp_0.le (l1)) (hc0.le (l1)) sp_0 sc_0 (by omega)).mono ?_
 rintro r V2 l2 g1
 have g10:=g1
 obtain ⟨w0a,w0b,w0c,rfl⟩:=g1.shape
 have z1_0:Sz (2 * k + 1) ((p_0) * (c_0)):=Sz.mono (Sz.mul sp_0 sc_0) (by omega)
 refine ⟨_,_,_,rfl,fun V3 l3=>(c_R_Mul (hp_1.le (l1.trans (l2.trans (l3)))) (hc0.le (l1.trans (l2.trans (l3)))) sp_1 sc_0 (by omega)).mono ?_⟩
 rintro r V4 l4 g2
 have g20:=g2
 obtain ⟨w1a,w1b,w1c,rfl⟩:=g2.shape
 have z2_0:Sz (2 * k + 1) ((p_1) * (c_0)):=Sz.mono (Sz.mul sp_1 sc_0) (by omega)
 exact ⟨_,_,_,rfl,fun V5 l5=>⟨_,_,_,_,_,_,rfl,(g10.le (l3.trans (l4.trans (l5)))),(g20.le (l5))⟩⟩
theorem z_geo_Pt_Scale_0 {p_0 p_1 c_0:Rat} {k:Nat} (sp_0:Sz k p_0) (sp_1:Sz k p_1) (sc_0:Sz k c_0):Sz (2 * k + 1) ((p_0) * (c_0)):=by
 have z1_0:Sz (2 * k + 1) ((p_0) * (c_0)):=Sz.mono (Sz.mul sp_0 sc_0) (by omega)
 have z2_0:Sz (2 * k + 1) ((p_1) * (c_0)):=Sz.mono (Sz.mul sp_1 sc_0) (by omega)
 exact Sz.mono z1_0 (by omega)
theorem z_geo_Pt_Scale_1 {p_0 p_1 c_0:Rat} {k:Nat} (sp_0:Sz k p_0) (sp_1:Sz k p_1) (sc_0:Sz k c_0):Sz (2 * k + 1) ((p_1) * (c_0)):=by
 have z1_0:Sz (2 * k + 1) ((p_0) * (c_0)):=Sz.mono (Sz.mul sp_0 sc_0) (by omega)
 have z2_0:Sz (2 * k + 1) ((p_1) * (c_0)):=Sz.mono (Sz.mul sp_1 sc_0) (by omega)
 exact Sz.mono z2_0 (by omega)
theorem c_geo_Pt_Turn {V:View} {p:Value} {p_0 p_1:Rat} (hp:RPt V p p_0 p_1) {k:Nat} (sp_0:Sz k p_0) (sp_1:Sz k p_1) (hk:1 * k + 1 < 274877906944) :
  Acts prog 232 #[p] V fun r V'=>RPt V' r (-(p_1)) (p_0):=by
 have hp0:=hp
 obtain ⟨p0,p1,p2,p3,p4,p5,rfl,hp_0,hp_1⟩:=hp
 refine vc_geo_Pt_Turn p0 p1 p2 p3 p4 p5 V _ fun V1 l1=>(c_R_Neg (hp_1.le (l1)) sp_1 (by omega)).mono ?_
 rintro r V2 l2 g1
 have g10:=g1
 obtain ⟨w0a,w0b,w0c,rfl⟩:=g1.shape
 have z1_0:Sz (1 * k + 0) (-(p_1)):=Sz.mono (Sz.neg sp_1) (by omega)
 exact ⟨_,_,_,rfl,fun V3 l3=>⟨_,_,_,_,_,_,rfl,(g10.le (l3)),(hp_0.le (l1.trans (l2.trans (l3))))⟩⟩
theorem c_geo_Pt_Dot {V:View} {p:Value} {p_0 p_1:Rat} {q:Value} {q_0 q_1:Rat} (hp:RPt V p p_0 p_1) (hq:RPt V q q_0 q_1) {k:Nat} (sp_0:Sz k p_0) (sp_1:Sz k p_1) (sq_0:Sz k q_0) (sq_1:Sz k q_1) (hk:4 * k + 3 < 274877906944) :
  Acts prog 164 #[p,q] V fun r V'=>RR V' r (((p_0) * (q_0)) + ((p_1) * (q_1))):=by
 have hp0:=hp
 obtain ⟨p0,p1,p2,p3,p4,p5,rfl,hp_0,hp_1⟩:=hp
 have hq0:=hq
 obtain ⟨q0,q1,q2,q3,q4,q5,rfl,hq_0,hq_1⟩:=hq
 refine vc_geo_Pt_Dot p0 p1 p2 p3 p4 p5 q0 q1 q2 q3 q4 q5 V _ fun V1 l1=>(c_R_Mul (hp_0.le (l1)) (hq_0.le (l1)) sp_0 sq_0 (by omega)).mono ?_
 rintro r V2 l2 g1
 have g10:=g1
 obtain ⟨w0a,w0b,w0c,rfl⟩:=g1.shape
 have z1_0:Sz (2 * k + 1) ((p_0) * (q_0)):=Sz.mono (Sz.mul sp_0 sq_0) (by omega)
 refine ⟨_,_,_,rfl,fun V3 l3=>(c_R_Mul (hp_1.le (l1.trans (l2.trans (l3)))) (hq_1.le (l1.trans (l2.trans (l3)))) sp_1 sq_1 (by omega)).mono ?_⟩
 rintro r V4 l4 g2
 have g20:=g2
 obtain ⟨w1a,w1b,w1c,rfl⟩:=g2.shape
 have z2_0:Sz (2 * k + 1) ((p_1) * (q_1)):=Sz.mono (Sz.mul sp_1 sq_1) (by omega)
 refine ⟨_,_,_,rfl,fun V5 l5=>(c_R_Add (g10.le (l3.trans (l4.trans (l5)))) (g20.le (l5)) z1_0 z2_0 (by omega)).mono ?_⟩
 rintro r V6 l6 g3
 have g30:=g3
 obtain ⟨w2a,w2b,w2c,rfl⟩:=g3.shape
 have z3_0:Sz (4 * k + 3) (((p_0) * (q_0)) + ((p_1) * (q_1))):=Sz.mono (Sz.add z1_0 z2_0) (by omega)
 exact ⟨_,_,_,rfl,fun V7 l7=>(g30.le (l7))⟩
theorem z_geo_Pt_Dot_0 {p_0 p_1 q_0 q_1:Rat} {k:Nat} (sp_0:Sz k p_0) (sp_1:Sz k p_1) (sq_0:Sz k q_0) (sq_1:Sz k q_1):Sz (4 * k + 3) (((p_0) * (q_0)) + ((p_1) * (q_1))):=by
 have z1_0:Sz (2 * k + 1) ((p_0) * (q_0)):=Sz.mono (Sz.mul sp_0 sq_0) (by omega)
 have z2_0:Sz (2 * k + 1) ((p_1) * (q_1)):=Sz.mono (Sz.mul sp_1 sq_1) (by omega)
 have z3_0:Sz (4 * k + 3) (((p_0) * (q_0)) + ((p_1) * (q_1))):=Sz.mono (Sz.add z1_0 z2_0) (by omega)
 exact Sz.mono z3_0 (by omega)
theorem c_geo_Pt_Cross {V:View} {p:Value} {p_0 p_1:Rat} {q:Value} {q_0 q_1:Rat} (hp:RPt V p p_0 p_1) (hq:RPt V q q_0 q_1) {k:Nat} (sp_0:Sz k p_0) (sp_1:Sz k p_1) (sq_0:Sz k q_0) (sq_1:Sz k q_1) (hk:4 * k + 3 < 274877906944) :
  Acts prog 230 #[p,q] V fun r V'=>RR V' r (((p_0) * (q_1)) - ((p_1) * (q_0))):=by
 have hp0:=hp
 obtain ⟨p0,p1,p2,p3,p4,p5,rfl,hp_0,hp_1⟩:=hp
 have hq0:=hq
 obtain ⟨q0,q1,q2,q3,q4,q5,rfl,hq_0,hq_1⟩:=hq
 refine vc_geo_Pt_Cross p0 p1 p2 p3 p4 p5 q0 q1 q2 q3 q4 q5 V _ fun V1 l1=>(c_R_Mul (hp_0.le (l1)) (hq_1.le (l1)) sp_0 sq_1 (by omega)).mono ?_
 rintro r V2 l2 g1
 have g10:=g1
 obtain ⟨w0a,w0b,w0c,rfl⟩:=g1.shape
 have z1_0:Sz (2 * k + 1) ((p_0) * (q_1)):=Sz.mono (Sz.mul sp_0 sq_1) (by omega)
 refine ⟨_,_,_,rfl,fun V3 l3=>(c_R_Mul (hp_1.le (l1.trans (l2.trans (l3)))) (hq_0.le (l1.trans (l2.trans (l3)))) sp_1 sq_0 (by omega)).mono ?_⟩
 rintro r V4 l4 g2
 have g20:=g2
 obtain ⟨w1a,w1b,w1c,rfl⟩:=g2.shape
 have z2_0:Sz (2 * k + 1) ((p_1) * (q_0)):=Sz.mono (Sz.mul sp_1 sq_0) (by omega)
 refine ⟨_,_,_,rfl,fun V5 l5=>(c_R_Sub (g10.le (l3.trans (l4.trans (l5)))) (g20.le (l5)) z1_0 z2_0 (by omega)).mono ?_⟩
 rintro r V6 l6 g3
 have g30:=g3
 obtain ⟨w2a,w2b,w2c,rfl⟩:=g3.shape
 have z3_0:Sz (4 * k + 3) (((p_0) * (q_1)) - ((p_1) * (q_0))):=Sz.mono (Sz.sub z1_0 z2_0) (by omega)
 exact ⟨_,_,_,rfl,fun V7 l7=>(g30.le (l7))⟩
theorem z_geo_Pt_Cross_0 {p_0 p_1 q_0 q_1:Rat} {k:Nat} (sp_0:Sz k p_0) (sp_1:Sz k p_1) (sq_0:Sz k q_0) (sq_1:Sz k q_1):Sz (4 * k + 3) (((p_0) * (q_1)) - ((p_1) * (q_0))):=by
 have z1_0:Sz (2 * k + 1) ((p_0) * (q_1)):=Sz.mono (Sz.mul sp_0 sq_1) (by omega)
 have z2_0:Sz (2 * k + 1) ((p_1) * (q_0)):=Sz.mono (Sz.mul sp_1 sq_0) (by omega)
 have z3_0:Sz (4 * k + 3) (((p_0) * (q_1)) - ((p_1) * (q_0))):=Sz.mono (Sz.sub z1_0 z2_0) (by omega)
 exact Sz.mono z3_0 (by omega)
theorem c_geo_Ln_Dir {V:View} {l:Value} {l_0 l_1 l_2:Rat} (hl:RLn V l l_0 l_1 l_2) {k:Nat} (sl_0:Sz k l_0) (sl_1:Sz k l_1) (sl_2:Sz k l_2) (hk:1 * k + 1 < 274877906944) :
  Acts prog 237 #[l] V fun r V'=>RPt V' r (l_1) (-(l_0)):=by
 have hl0:=hl
 obtain ⟨l0,l1,l2,l3,l4,l5,l6,l7,l8,rfl,hl_0,hl_1,hl_2⟩:=hl
 refine vc_geo_Ln_Dir l0 l1 l2 l3 l4 l5 l6 l7 l8 V _ fun V1 l1=>(c_R_Neg (hl_0.le (l1)) sl_0 (by omega)).mono ?_
 rintro r V2 l2 g1
 have g10:=g1
 obtain ⟨w0a,w0b,w0c,rfl⟩:=g1.shape
 have z1_0:Sz (1 * k + 0) (-(l_0)):=Sz.mono (Sz.neg sl_0) (by omega)
 exact ⟨_,_,_,rfl,fun V3 l3=>⟨_,_,_,_,_,_,rfl,(hl_1.le (l1.trans (l2.trans (l3)))),(g10.le (l3))⟩⟩
theorem z_geo_Ln_Dir_0 {l_0 l_1 l_2:Rat} {k:Nat} (sl_0:Sz k l_0) (sl_1:Sz k l_1) (sl_2:Sz k l_2):Sz (1 * k + 0) (l_1):=by
 have z1_0:Sz (1 * k + 0) (-(l_0)):=Sz.mono (Sz.neg sl_0) (by omega)
 exact Sz.mono sl_1 (by omega)
theorem z_geo_Ln_Dir_1 {l_0 l_1 l_2:Rat} {k:Nat} (sl_0:Sz k l_0) (sl_1:Sz k l_1) (sl_2:Sz k l_2):Sz (1 * k + 0) (-(l_0)):=by
 have z1_0:Sz (1 * k + 0) (-(l_0)):=Sz.mono (Sz.neg sl_0) (by omega)
 exact Sz.mono z1_0 (by omega)
theorem c_geo_Ln_Normal {V:View} {l:Value} {l_0 l_1 l_2:Rat} (hl:RLn V l l_0 l_1 l_2) {k:Nat} (sl_0:Sz k l_0) (sl_1:Sz k l_1) (sl_2:Sz k l_2) (hk:1 * k + 1 < 274877906944) :
  Acts prog 163 #[l] V fun r V'=>RPt V' r (l_0) (l_1):=by
 have hl0:=hl
 obtain ⟨l0,l1,l2,l3,l4,l5,l6,l7,l8,rfl,hl_0,hl_1,hl_2⟩:=hl
 exact vc_geo_Ln_Normal l0 l1 l2 l3 l4 l5 l6 l7 l8 V _ fun V1 l1=>⟨_,_,_,_,_,_,rfl,(hl_0.le (l1)),(hl_1.le (l1))⟩
theorem z_geo_Ln_Normal_0 {l_0 l_1 l_2:Rat} {k:Nat} (sl_0:Sz k l_0) (sl_1:Sz k l_1) (sl_2:Sz k l_2):Sz (1 * k + 0) (l_0):=by
 exact Sz.mono sl_0 (by omega)
theorem z_geo_Ln_Normal_1 {l_0 l_1 l_2:Rat} {k:Nat} (sl_0:Sz k l_0) (sl_1:Sz k l_1) (sl_2:Sz k l_2):Sz (1 * k + 0) (l_1):=by
 exact Sz.mono sl_1 (by omega)
theorem c_geo_Ln_Value {V:View} {l:Value} {l_0 l_1 l_2:Rat} {p:Value} {p_0 p_1:Rat} (hl:RLn V l l_0 l_1 l_2) (hp:RPt V p p_0 p_1) {k:Nat} (sl_0:Sz k l_0) (sl_1:Sz k l_1) (sl_2:Sz k l_2) (sp_0:Sz k p_0) (sp_1:Sz k p_1) (hk:5 * k + 4 < 274877906944) :
  Acts prog 241 #[l,p] V fun r V'=>RR V' r ((((l_0) * (p_0)) + ((l_1) * (p_1))) + (l_2)):=by
 have hl0:=hl
 obtain ⟨l0,l1,l2,l3,l4,l5,l6,l7,l8,rfl,hl_0,hl_1,hl_2⟩:=hl
 have hp0:=hp
 obtain ⟨p0,p1,p2,p3,p4,p5,rfl,hp_0,hp_1⟩:=hp
 refine vc_geo_Ln_Value l0 l1 l2 l3 l4 l5 l6 l7 l8 p0 p1 p2 p3 p4 p5 V _ fun V1 l1=>(c_geo_Ln_Normal (hl0.le (l1)) (Sz.mono sl_0 (by omega):Sz (1 * k + 0) _) (Sz.mono sl_1 (by omega):Sz (1 * k + 0) _) (Sz.mono sl_2 (by omega):Sz (1 * k + 0) _) (by omega)).mono ?_
 rintro r V2 l2 g1
 have g10:=g1
 obtain ⟨w0_0,w0_1,w0_2,w0_3,w0_4,w0_5,rfl,g1p0,g1p1⟩:=g1
 have z1_0:Sz (1 * k + 0) (l_0):=Sz.mono ((z_geo_Ln_Normal_0 (Sz.mono sl_0 (by omega):Sz (1 * k + 0) _) (Sz.mono sl_1 (by omega):Sz (1 * k + 0) _) (Sz.mono sl_2 (by omega):Sz (1 * k + 0) _))) (by omega)
 have z1_1:Sz (1 * k + 0) (l_1):=Sz.mono ((z_geo_Ln_Normal_1 (Sz.mono sl_0 (by omega):Sz (1 * k + 0) _) (Sz.mono sl_1 (by omega):Sz (1 * k + 0) _) (Sz.mono sl_2 (by omega):Sz (1 * k + 0) _))) (by omega)
 refine ⟨_,_,_,_,_,_,rfl,fun V3 l3=>(c_geo_Pt_Dot (g10.le (l3)) (hp0.le (l1.trans (l2.trans (l3)))) (Sz.mono z1_0 (by omega):Sz (1 * k + 0) _) (Sz.mono z1_1 (by omega):Sz (1 * k + 0) _) (Sz.mono sp_0 (by omega):Sz (1 * k + 0) _) (Sz.mono sp_1 (by omega):Sz (1 * k + 0) _) (by omega)).mono ?_⟩
 rintro r V4 l4 g2
 have g20:=g2
 obtain ⟨w1a,w1b,w1c,rfl⟩:=g2.shape
 have z2_0:Sz (4 * k + 3) (((l_0) * (p_0)) + ((l_1) * (p_1))):=Sz.mono ((z_geo_Pt_Dot_0 (Sz.mono z1_0 (by omega):Sz (1 * k + 0) _) (Sz.mono z1_1 (by omega):Sz (1 * k + 0) _) (Sz.mono sp_0 (by omega):Sz (1 * k + 0) _) (Sz.mono sp_1 (by omega):Sz (1 * k + 0) _))) (by omega)
 refine ⟨_,_,_,rfl,fun V5 l5=>(c_R_Add (g20.le (l5)) (hl_2.le (l1.trans (l2.trans (l3.trans (l4.trans (l5)))))) z2_0 sl_2 (by omega)).mono ?_⟩
 rintro r V6 l6 g3
 have g30:=g3
 obtain ⟨w2a,w2b,w2c,rfl⟩:=g3.shape
 have z3_0:Sz (5 * k + 4) ((((l_0) * (p_0)) + ((l_1) * (p_1))) + (l_2)):=Sz.mono (Sz.add z2_0 sl_2) (by omega)
 exact ⟨_,_,_,rfl,fun V7 l7=>(g30.le (l7))⟩
theorem z_geo_Ln_Value_0 {l_0 l_1 l_2 p_0 p_1:Rat} {k:Nat} (sl_0:Sz k l_0) (sl_1:Sz k l_1) (sl_2:Sz k l_2) (sp_0:Sz k p_0) (sp_1:Sz k p_1):Sz (5 * k + 4) ((((l_0) * (p_0)) + ((l_1) * (p_1))) + (l_2)):=by
 have z1_0:Sz (1 * k + 0) (l_0):=Sz.mono ((z_geo_Ln_Normal_0 (Sz.mono sl_0 (by omega):Sz (1 * k + 0) _) (Sz.mono sl_1 (by omega):Sz (1 * k + 0) _) (Sz.mono sl_2 (by omega):Sz (1 * k + 0) _))) (by omega)
 have z1_1:Sz (1 * k + 0) (l_1):=Sz.mono ((z_geo_Ln_Normal_1 (Sz.mono sl_0 (by omega):Sz (1 * k + 0) _) (Sz.mono sl_1 (by omega):Sz (1 * k + 0) _) (Sz.mono sl_2 (by omega):Sz (1 * k + 0) _))) (by omega)
 have z2_0:Sz (4 * k + 3) (((l_0) * (p_0)) + ((l_1) * (p_1))):=Sz.mono ((z_geo_Pt_Dot_0 (Sz.mono z1_0 (by omega):Sz (1 * k + 0) _) (Sz.mono z1_1 (by omega):Sz (1 * k + 0) _) (Sz.mono sp_0 (by omega):Sz (1 * k + 0) _) (Sz.mono sp_1 (by omega):Sz (1 * k + 0) _))) (by omega)
 have z3_0:Sz (5 * k + 4) ((((l_0) * (p_0)) + ((l_1) * (p_1))) + (l_2)):=Sz.mono (Sz.add z2_0 sl_2) (by omega)
 exact Sz.mono z3_0 (by omega)
theorem z_geo_Ln_Base_0 {l_0 l_1 l_2:Rat} {k:Nat} (sl_0:Sz k l_0) (sl_1:Sz k l_1) (sl_2:Sz k l_2):Sz (10 * k + 9) ((l_0) * (((-(l_2)) * (((l_0) * (l_0)) + ((l_1) * (l_1)))⁻¹))):=by
 have z1_0:Sz (1 * k + 0) (l_0):=Sz.mono ((z_geo_Ln_Normal_0 (Sz.mono sl_0 (by omega):Sz (1 * k + 0) _) (Sz.mono sl_1 (by omega):Sz (1 * k + 0) _) (Sz.mono sl_2 (by omega):Sz (1 * k + 0) _))) (by omega)
 have z1_1:Sz (1 * k + 0) (l_1):=Sz.mono ((z_geo_Ln_Normal_1 (Sz.mono sl_0 (by omega):Sz (1 * k + 0) _) (Sz.mono sl_1 (by omega):Sz (1 * k + 0) _) (Sz.mono sl_2 (by omega):Sz (1 * k + 0) _))) (by omega)
 have z2_0:Sz (1 * k + 0) (-(l_2)):=Sz.mono (Sz.neg sl_2) (by omega)
 have z3_0:Sz (4 * k + 3) (((l_0) * (l_0)) + ((l_1) * (l_1))):=Sz.mono ((z_geo_Pt_Dot_0 (Sz.mono z1_0 (by omega):Sz (1 * k + 0) _) (Sz.mono z1_1 (by omega):Sz (1 * k + 0) _) (Sz.mono z1_0 (by omega):Sz (1 * k + 0) _) (Sz.mono z1_1 (by omega):Sz (1 * k + 0) _))) (by omega)
 have z4_0:Sz (5 * k + 4) ((-(l_2)) * (((l_0) * (l_0)) + ((l_1) * (l_1)))⁻¹):=Sz.mono (Sz.mul z2_0 (sz_inv z3_0)) (by omega)
 have z5_0:Sz (10 * k + 9) ((l_0) * (((-(l_2)) * (((l_0) * (l_0)) + ((l_1) * (l_1)))⁻¹))):=Sz.mono ((z_geo_Pt_Scale_0 (Sz.mono z1_0 (by omega):Sz (5 * k + 4) _) (Sz.mono z1_1 (by omega):Sz (5 * k + 4) _) (Sz.mono z4_0 (by omega):Sz (5 * k + 4) _))) (by omega)
 have z5_1:Sz (10 * k + 9) ((l_1) * (((-(l_2)) * (((l_0) * (l_0)) + ((l_1) * (l_1)))⁻¹))):=Sz.mono ((z_geo_Pt_Scale_1 (Sz.mono z1_0 (by omega):Sz (5 * k + 4) _) (Sz.mono z1_1 (by omega):Sz (5 * k + 4) _) (Sz.mono z4_0 (by omega):Sz (5 * k + 4) _))) (by omega)
 exact Sz.mono z5_0 (by omega)
theorem z_geo_Ln_Base_1 {l_0 l_1 l_2:Rat} {k:Nat} (sl_0:Sz k l_0) (sl_1:Sz k l_1) (sl_2:Sz k l_2):Sz (10 * k + 9) ((l_1) * (((-(l_2)) * (((l_0) * (l_0)) + ((l_1) * (l_1)))⁻¹))):=by
 have z1_0:Sz (1 * k + 0) (l_0):=Sz.mono ((z_geo_Ln_Normal_0 (Sz.mono sl_0 (by omega):Sz (1 * k + 0) _) (Sz.mono sl_1 (by omega):Sz (1 * k + 0) _) (Sz.mono sl_2 (by omega):Sz (1 * k + 0) _))) (by omega)
 have z1_1:Sz (1 * k + 0) (l_1):=Sz.mono ((z_geo_Ln_Normal_1 (Sz.mono sl_0 (by omega):Sz (1 * k + 0) _) (Sz.mono sl_1 (by omega):Sz (1 * k + 0) _) (Sz.mono sl_2 (by omega):Sz (1 * k + 0) _))) (by omega)
 have z2_0:Sz (1 * k + 0) (-(l_2)):=Sz.mono (Sz.neg sl_2) (by omega)
 have z3_0:Sz (4 * k + 3) (((l_0) * (l_0)) + ((l_1) * (l_1))):=Sz.mono ((z_geo_Pt_Dot_0 (Sz.mono z1_0 (by omega):Sz (1 * k + 0) _) (Sz.mono z1_1 (by omega):Sz (1 * k + 0) _) (Sz.mono z1_0 (by omega):Sz (1 * k + 0) _) (Sz.mono z1_1 (by omega):Sz (1 * k + 0) _))) (by omega)
 have z4_0:Sz (5 * k + 4) ((-(l_2)) * (((l_0) * (l_0)) + ((l_1) * (l_1)))⁻¹):=Sz.mono (Sz.mul z2_0 (sz_inv z3_0)) (by omega)
 have z5_0:Sz (10 * k + 9) ((l_0) * (((-(l_2)) * (((l_0) * (l_0)) + ((l_1) * (l_1)))⁻¹))):=Sz.mono ((z_geo_Pt_Scale_0 (Sz.mono z1_0 (by omega):Sz (5 * k + 4) _) (Sz.mono z1_1 (by omega):Sz (5 * k + 4) _) (Sz.mono z4_0 (by omega):Sz (5 * k + 4) _))) (by omega)
 have z5_1:Sz (10 * k + 9) ((l_1) * (((-(l_2)) * (((l_0) * (l_0)) + ((l_1) * (l_1)))⁻¹))):=Sz.mono ((z_geo_Pt_Scale_1 (Sz.mono z1_0 (by omega):Sz (5 * k + 4) _) (Sz.mono z1_1 (by omega):Sz (5 * k + 4) _) (Sz.mono z4_0 (by omega):Sz (5 * k + 4) _))) (by omega)
 exact Sz.mono z5_1 (by omega)
theorem z_geo_Ln_At_0 {l_0 l_1 l_2 t_0:Rat} {k:Nat} (sl_0:Sz k l_0) (sl_1:Sz k l_1) (sl_2:Sz k l_2) (st_0:Sz k t_0):Sz (20 * k + 19) ((((l_0) * (((-(l_2)) * (((l_0) * (l_0)) + ((l_1) * (l_1)))⁻¹)))) + (((l_1) * (t_0)))):=by
 have z1_0:Sz (10 * k + 9) ((l_0) * (((-(l_2)) * (((l_0) * (l_0)) + ((l_1) * (l_1)))⁻¹))):=Sz.mono ((z_geo_Ln_Base_0 (Sz.mono sl_0 (by omega):Sz (1 * k + 0) _) (Sz.mono sl_1 (by omega):Sz (1 * k + 0) _) (Sz.mono sl_2 (by omega):Sz (1 * k + 0) _))) (by omega)
 have z1_1:Sz (10 * k + 9) ((l_1) * (((-(l_2)) * (((l_0) * (l_0)) + ((l_1) * (l_1)))⁻¹))):=Sz.mono ((z_geo_Ln_Base_1 (Sz.mono sl_0 (by omega):Sz (1 * k + 0) _) (Sz.mono sl_1 (by omega):Sz (1 * k + 0) _) (Sz.mono sl_2 (by omega):Sz (1 * k + 0) _))) (by omega)
 have z2_0:Sz (1 * k + 0) (l_1):=Sz.mono ((z_geo_Ln_Dir_0 (Sz.mono sl_0 (by omega):Sz (1 * k + 0) _) (Sz.mono sl_1 (by omega):Sz (1 * k + 0) _) (Sz.mono sl_2 (by omega):Sz (1 * k + 0) _))) (by omega)
 have z2_1:Sz (1 * k + 0) (-(l_0)):=Sz.mono ((z_geo_Ln_Dir_1 (Sz.mono sl_0 (by omega):Sz (1 * k + 0) _) (Sz.mono sl_1 (by omega):Sz (1 * k + 0) _) (Sz.mono sl_2 (by omega):Sz (1 * k + 0) _))) (by omega)
 have z3_0:Sz (2 * k + 1) ((l_1) * (t_0)):=Sz.mono ((z_geo_Pt_Scale_0 (Sz.mono z2_0 (by omega):Sz (1 * k + 0) _) (Sz.mono z2_1 (by omega):Sz (1 * k + 0) _) (Sz.mono st_0 (by omega):Sz (1 * k + 0) _))) (by omega)
 have z3_1:Sz (2 * k + 1) (((-(l_0))) * (t_0)):=Sz.mono ((z_geo_Pt_Scale_1 (Sz.mono z2_0 (by omega):Sz (1 * k + 0) _) (Sz.mono z2_1 (by omega):Sz (1 * k + 0) _) (Sz.mono st_0 (by omega):Sz (1 * k + 0) _))) (by omega)
 have z4_0:Sz (20 * k + 19) ((((l_0) * (((-(l_2)) * (((l_0) * (l_0)) + ((l_1) * (l_1)))⁻¹)))) + (((l_1) * (t_0)))):=Sz.mono ((z_geo_Pt_Add_0 (Sz.mono z1_0 (by omega):Sz (10 * k + 9) _) (Sz.mono z1_1 (by omega):Sz (10 * k + 9) _) (Sz.mono z3_0 (by omega):Sz (10 * k + 9) _) (Sz.mono z3_1 (by omega):Sz (10 * k + 9) _))) (by omega)
 have z4_1:Sz (20 * k + 19) ((((l_1) * (((-(l_2)) * (((l_0) * (l_0)) + ((l_1) * (l_1)))⁻¹)))) + ((((-(l_0))) * (t_0)))):=Sz.mono ((z_geo_Pt_Add_1 (Sz.mono z1_0 (by omega):Sz (10 * k + 9) _) (Sz.mono z1_1 (by omega):Sz (10 * k + 9) _) (Sz.mono z3_0 (by omega):Sz (10 * k + 9) _) (Sz.mono z3_1 (by omega):Sz (10 * k + 9) _))) (by omega)
 exact Sz.mono z4_0 (by omega)
theorem z_geo_Ln_At_1 {l_0 l_1 l_2 t_0:Rat} {k:Nat} (sl_0:Sz k l_0) (sl_1:Sz k l_1) (sl_2:Sz k l_2) (st_0:Sz k t_0):Sz (20 * k + 19) ((((l_1) * (((-(l_2)) * (((l_0) * (l_0)) + ((l_1) * (l_1)))⁻¹)))) + ((((-(l_0))) * (t_0)))):=by
 have z1_0:Sz (10 * k + 9) ((l_0) * (((-(l_2)) * (((l_0) * (l_0)) + ((l_1) * (l_1)))⁻¹))):=Sz.mono ((z_geo_Ln_Base_0 (Sz.mono sl_0 (by omega):Sz (1 * k + 0) _) (Sz.mono sl_1 (by omega):Sz (1 * k + 0) _) (Sz.mono sl_2 (by omega):Sz (1 * k + 0) _))) (by omega)
 have z1_1:Sz (10 * k + 9) ((l_1) * (((-(l_2)) * (((l_0) * (l_0)) + ((l_1) * (l_1)))⁻¹))):=Sz.mono ((z_geo_Ln_Base_1 (Sz.mono sl_0 (by omega):Sz (1 * k + 0) _) (Sz.mono sl_1 (by omega):Sz (1 * k + 0) _) (Sz.mono sl_2 (by omega):Sz (1 * k + 0) _))) (by omega)
 have z2_0:Sz (1 * k + 0) (l_1):=Sz.mono ((z_geo_Ln_Dir_0 (Sz.mono sl_0 (by omega):Sz (1 * k + 0) _) (Sz.mono sl_1 (by omega):Sz (1 * k + 0) _) (Sz.mono sl_2 (by omega):Sz (1 * k + 0) _))) (by omega)
 have z2_1:Sz (1 * k + 0) (-(l_0)):=Sz.mono ((z_geo_Ln_Dir_1 (Sz.mono sl_0 (by omega):Sz (1 * k + 0) _) (Sz.mono sl_1 (by omega):Sz (1 * k + 0) _) (Sz.mono sl_2 (by omega):Sz (1 * k + 0) _))) (by omega)
 have z3_0:Sz (2 * k + 1) ((l_1) * (t_0)):=Sz.mono ((z_geo_Pt_Scale_0 (Sz.mono z2_0 (by omega):Sz (1 * k + 0) _) (Sz.mono z2_1 (by omega):Sz (1 * k + 0) _) (Sz.mono st_0 (by omega):Sz (1 * k + 0) _))) (by omega)
 have z3_1:Sz (2 * k + 1) (((-(l_0))) * (t_0)):=Sz.mono ((z_geo_Pt_Scale_1 (Sz.mono z2_0 (by omega):Sz (1 * k + 0) _) (Sz.mono z2_1 (by omega):Sz (1 * k + 0) _) (Sz.mono st_0 (by omega):Sz (1 * k + 0) _))) (by omega)
 have z4_0:Sz (20 * k + 19) ((((l_0) * (((-(l_2)) * (((l_0) * (l_0)) + ((l_1) * (l_1)))⁻¹)))) + (((l_1) * (t_0)))):=Sz.mono ((z_geo_Pt_Add_0 (Sz.mono z1_0 (by omega):Sz (10 * k + 9) _) (Sz.mono z1_1 (by omega):Sz (10 * k + 9) _) (Sz.mono z3_0 (by omega):Sz (10 * k + 9) _) (Sz.mono z3_1 (by omega):Sz (10 * k + 9) _))) (by omega)
 have z4_1:Sz (20 * k + 19) ((((l_1) * (((-(l_2)) * (((l_0) * (l_0)) + ((l_1) * (l_1)))⁻¹)))) + ((((-(l_0))) * (t_0)))):=Sz.mono ((z_geo_Pt_Add_1 (Sz.mono z1_0 (by omega):Sz (10 * k + 9) _) (Sz.mono z1_1 (by omega):Sz (10 * k + 9) _) (Sz.mono z3_0 (by omega):Sz (10 * k + 9) _) (Sz.mono z3_1 (by omega):Sz (10 * k + 9) _))) (by omega)
 exact Sz.mono z4_1 (by omega)
end Go.Proofs.Tryz
/- By program: the conditions of the functions, from their loaded code. -/
namespace Go.Proofs.Tryz
open Go.Eng
open Go.Value renaming int→I,pointer→P,slice→S,agg→A,bool→B,tuple→T
open Go.IntKind renaming i64→J,u64→U,u32→W
set_option maxRecDepth 100000
theorem vc_ref01_ToQ (a:Bool) (b:OA) (c d:Nat) (e:OA) (f g:Nat) (V:View) (R:VR) (h:(Ca V 129 #[A #[B a,S b c d]] fun u w=>∃i,∃k l m,u=A #[B i,S k l m]/\(Ca w 104 #[A #[B a,S b c d,S e f g]] fun x y=>∃n o p,x=S n o p/\(Ca y 157 #[S n o p] fun z a0=>∃q r s,z=S q r s/\(Rt a0 R (A #[B i,S k l m,S q r s])))))):
 Acts prog 77 #[A #[B a,S b c d,S e f g]] V R:=
 fd (LF:=LF0) (RF:=[1000015]) [] [] func77 h
theorem vc_ref04_ToP (a:Bool) (b:OA) (c d:Nat) (e:OA) (f g:Nat) (i:Bool) (k:OA) (l m:Nat) (n:OA) (o p:Nat) (V:View) (R:VR) (h:(Ca V 77 #[A #[B a,S b c d,S e f g]] fun a6 a7=>∃q,∃r s t,∃u w x,a6=A #[B q,S r s t,S u w x]/\(Ca a7 77 #[A #[B i,S k l m,S n o p]] fun a8 a9=>∃y,∃z a0 a1,∃a2 a3 a4,a8=A #[B y,S z a0 a1,S a2 a3 a4]/\(Rt a9 R (A #[B q,S r s t,S u w x,B y,S z a0 a1,S a2 a3 a4]))))):
 Acts prog 20 #[A #[B a,S b c d,S e f g,B i,S k l m,S n o p]] V R:=
 fd (LF:=LF0) (RF:=[1000015]) [] [] func20 h
theorem vc_ref04_Dot (a:Bool) (b:OA) (c d:Nat) (e:OA) (f g:Nat) (i:Bool) (k:OA) (l m:Nat) (n:OA) (o p:Nat) (q:Bool) (r:OA) (s t:Nat) (u:OA) (w x:Nat) (y:Bool) (z:OA) (a0 a1:Nat) (a2:OA) (a3 a4:Nat) (V:View) (R:VR) (h:(Ca V 150 #[A #[B a,S b c d,S e f g],A #[B q,S r s t,S u w x]] fun c7 c8=>∃a5,∃a6 a7 a8,∃a9 b0 b1,c7=A #[B a5,S a6 a7 a8,S a9 b0 b1]/\(Ca c8 150 #[A #[B i,S k l m,S n o p],A #[B y,S z a0 a1,S a2 a3 a4]] fun c9 d0=>∃b2,∃b3 b4 b5,∃b6 b7 b8,c9=A #[B b2,S b3 b4 b5,S b6 b7 b8]/\(Ca d0 36 #[A #[B a5,S a6 a7 a8,S a9 b0 b1],A #[B b2,S b3 b4 b5,S b6 b7 b8]] fun d1 d2=>∃b9,∃c0 c1 c2,∃c3 c4 c5,d1=A #[B b9,S c0 c1 c2,S c3 c4 c5]/\(Rt d2 R (A #[B b9,S c0 c1 c2,S c3 c4 c5])))))):
 Acts prog 172 #[A #[B a,S b c d,S e f g,B i,S k l m,S n o p],A #[B q,S r s t,S u w x,B y,S z a0 a1,S a2 a3 a4]] V R:=
 fd (LF:=LF0) (RF:=[1000015]) [] [] func172 h
theorem vc_ref04_Dir (a:Bool) (b:OA) (c d:Nat) (e:Bool) (f:OA) (g i:Nat) (a7:Bool) (a8:OA) (a9 b0:Nat) (V:View) (R:VR) (h:(Ca V 82 #[A #[B e,S f g i]] fun b1 b2=>∃k,∃l m n,∃o p q,b1=A #[B k,S l m n,S o p q]/\(Ca b2 82 #[A #[B a,S b c d]] fun b3 b4=>∃r,∃s t u,∃w x y,b3=A #[B r,S s t u,S w x y]/\(Ca b4 83 #[A #[B r,S s t u,S w x y]] fun b5 b6=>∃z,∃a0 a1 a2,∃a3 a4 a5,b5=A #[B z,S a0 a1 a2,S a3 a4 a5]/\(Rt b6 R (A #[B k,S l m n,S o p q,B z,S a0 a1 a2,S a3 a4 a5])))))):
 Acts prog 26 #[A #[B a,S b c d,B e,S f g i,B a7,S a8 a9 b0]] V R:=
 fd (LF:=LF0) (RF:=[1000015]) [] [] func26 h
theorem vc_ref04_q (a:Bool) (b:OA) (c d:Nat) (V:View) (R:VR) (h:(Rt V R (A #[B a,S b c d,S none 0 0]))):
 Acts prog 82 #[A #[B a,S b c d]] V R:=
 fd (LF:=LF0) (RF:=[1000015]) [] [] func82 h
theorem vc_ref04_Value (a:Bool) (b:OA) (c d:Nat) (e:Bool) (f:OA) (g i:Nat) (k:Bool) (l:OA) (m n:Nat) (o:Bool) (p:OA) (q r:Nat) (s:OA) (t u:Nat) (w:Bool) (x:OA) (y z:Nat) (a0:OA) (a1 a2:Nat) (V:View) (R:VR) (h:(Ca V 82 #[A #[B a,S b c d]] fun f3 f4=>∃a3,∃a4 a5 a6,∃a7 a8 a9,f3=A #[B a3,S a4 a5 a6,S a7 a8 a9]/\(Ca f4 150 #[A #[B a3,S a4 a5 a6,S a7 a8 a9],A #[B o,S p q r,S s t u]] fun f5 f6=>∃b0,∃b1 b2 b3,∃b4 b5 b6,f5=A #[B b0,S b1 b2 b3,S b4 b5 b6]/\(Ca f6 82 #[A #[B e,S f g i]] fun f7 f8=>∃b7,∃b8 b9 c0,∃c1 c2 c3,f7=A #[B b7,S b8 b9 c0,S c1 c2 c3]/\(Ca f8 150 #[A #[B b7,S b8 b9 c0,S c1 c2 c3],A #[B w,S x y z,S a0 a1 a2]] fun f9 g0=>∃c4,∃c5 c6 c7,∃c8 c9 d0,f9=A #[B c4,S c5 c6 c7,S c8 c9 d0]/\(Ca g0 36 #[A #[B b0,S b1 b2 b3,S b4 b5 b6],A #[B c4,S c5 c6 c7,S c8 c9 d0]] fun g1 g2=>∃d1,∃d2 d3 d4,∃d5 d6 d7,g1=A #[B d1,S d2 d3 d4,S d5 d6 d7]/\(Ca g2 82 #[A #[B k,S l m n]] fun g3 g4=>∃d8,∃d9 e0 e1,∃e2 e3 e4,g3=A #[B d8,S d9 e0 e1,S e2 e3 e4]/\(Ca g4 36 #[A #[B d1,S d2 d3 d4,S d5 d6 d7],A #[B d8,S d9 e0 e1,S e2 e3 e4]] fun g5 g6=>∃e5,∃e6 e7 e8,∃e9 f0 f1,g5=A #[B e5,S e6 e7 e8,S e9 f0 f1]/\(Rt g6 R (A #[B e5,S e6 e7 e8,S e9 f0 f1])))))))))):
 Acts prog 94 #[A #[B a,S b c d,B e,S f g i,B k,S l m n],A #[B o,S p q r,S s t u,B w,S x y z,S a0 a1 a2]] V R:=
 fd (LF:=LF0) (RF:=[1000015]) [] [] func94 h
theorem vc_ref04_Side (a:Bool) (b:OA) (c d:Nat) (e:Bool) (f:OA) (g i:Nat) (k:Bool) (l:OA) (m n:Nat) (o:Bool) (p:OA) (q r:Nat) (s:OA) (t u:Nat) (w:Bool) (x:OA) (y z:Nat) (a0:OA) (a1 a2:Nat) (V:View) (R:VR) (h:(Ca V 94 #[A #[B a,S b c d,B e,S f g i,B k,S l m n],A #[B o,S p q r,S s t u,B w,S x y z,S a0 a1 a2]] fun b2 b3=>∃a3,∃a4 a5 a6,∃a7 a8 a9,b2=A #[B a3,S a4 a5 a6,S a7 a8 a9]/\(Ca b3 86 #[A #[B a3,S a4 a5 a6,S a7 a8 a9]] fun b4 b5=>∃b0,b4=I J b0/\(Rt b5 R (I J b0))))):
 Acts prog 85 #[A #[B a,S b c d,B e,S f g i,B k,S l m n],A #[B o,S p q r,S s t u,B w,S x y z,S a0 a1 a2]] V R:=
 fd (LF:=LF0) (RF:=[1000015]) [] [] func85 h
theorem vc_ref04_Base (a:Bool) (b:OA) (c d:Nat) (e:Bool) (f:OA) (g i:Nat) (k:Bool) (l:OA) (m n:Nat) (V:View) (R:VR) (h:(Ca V 26 #[A #[B a,S b c d,B e,S f g i,B k,S l m n]] fun g0 g1=>∃o,∃p q r,∃s t u,∃w,∃x y z,∃a0 a1 a2,g0=A #[B o,S p q r,S s t u,B w,S x y z,S a0 a1 a2]/\(Ca g1 82 #[A #[B k,S l m n]] fun g2 g3=>∃b0,∃b1 b2 b3,∃b4 b5 b6,g2=A #[B b0,S b1 b2 b3,S b4 b5 b6]/\(Ca g3 172 #[A #[B o,S p q r,S s t u,B w,S x y z,S a0 a1 a2],A #[B o,S p q r,S s t u,B w,S x y z,S a0 a1 a2]] fun g4 g5=>∃b7,∃b8 b9 c0,∃c1 c2 c3,g4=A #[B b7,S b8 b9 c0,S c1 c2 c3]/\(Ca g5 95 #[A #[B b0,S b1 b2 b3,S b4 b5 b6],A #[B b7,S b8 b9 c0,S c1 c2 c3]] fun g6 g7=>∃c4,∃c5 c6 c7,∃c8 c9 d0,g6=A #[B c4,S c5 c6 c7,S c8 c9 d0]/\(Ca g7 83 #[A #[B c4,S c5 c6 c7,S c8 c9 d0]] fun g8 g9=>∃a3,∃a4 a5 a6,∃a7 a8 a9,g8=A #[B a3,S a4 a5 a6,S a7 a8 a9]/\(Ca g9 82 #[A #[B a,S b c d]] fun i0 i1=>∃d1,∃d2 d3 d4,∃d5 d6 d7,i0=A #[B d1,S d2 d3 d4,S d5 d6 d7]/\(Ca i1 150 #[A #[B a3,S a4 a5 a6,S a7 a8 a9],A #[B d1,S d2 d3 d4,S d5 d6 d7]] fun i2 i3=>∃d8,∃d9 e0 e1,∃e2 e3 e4,i2=A #[B d8,S d9 e0 e1,S e2 e3 e4]/\(Ca i3 82 #[A #[B e,S f g i]] fun i4 i5=>∃e5,∃e6 e7 e8,∃e9 f0 f1,i4=A #[B e5,S e6 e7 e8,S e9 f0 f1]/\(Ca i5 150 #[A #[B a3,S a4 a5 a6,S a7 a8 a9],A #[B e5,S e6 e7 e8,S e9 f0 f1]] fun i6 i7=>∃f2,∃f3 f4 f5,∃f6 f7 f8,i6=A #[B f2,S f3 f4 f5,S f6 f7 f8]/\(Rt i7 R (A #[B d8,S d9 e0 e1,S e2 e3 e4,B f2,S f3 f4 f5,S f6 f7 f8])))))))))))):
 Acts prog 99 #[A #[B a,S b c d,B e,S f g i,B k,S l m n]] V R:=
 fd (LF:=LF0) (RF:=[1000015]) [] [] func99 h
theorem vc_ref04_At (a:Bool) (b:OA) (c d:Nat) (e:Bool) (f:OA) (g i:Nat) (k:Bool) (l:OA) (m n:Nat) (o:Bool) (p:OA) (q r:Nat) (s:OA) (t u:Nat) (V:View) (R:VR) (h:(Ca V 99 #[A #[B a,S b c d,B e,S f g i,B k,S l m n]] fun d9 e0=>∃w,∃x y z,∃a0 a1 a2,∃a3,∃a4 a5 a6,∃a7 a8 a9,d9=A #[B w,S x y z,S a0 a1 a2,B a3,S a4 a5 a6,S a7 a8 a9]/\(Ca e0 26 #[A #[B a,S b c d,B e,S f g i,B k,S l m n]] fun e1 e2=>∃b0,∃b1 b2 b3,∃b4 b5 b6,∃b7,∃b8 b9 c0,∃c1 c2 c3,e1=A #[B b0,S b1 b2 b3,S b4 b5 b6,B b7,S b8 b9 c0,S c1 c2 c3]/\(Ca e2 90 #[A #[B w,S x y z,S a0 a1 a2,B a3,S a4 a5 a6,S a7 a8 a9],A #[B o,S p q r,S s t u],A #[B b0,S b1 b2 b3,S b4 b5 b6,B b7,S b8 b9 c0,S c1 c2 c3]] fun e3 e4=>∃c4,∃c5 c6 c7,∃c8 c9 d0,∃d1,∃d2 d3 d4,∃d5 d6 d7,e3=A #[B c4,S c5 c6 c7,S c8 c9 d0,B d1,S d2 d3 d4,S d5 d6 d7]/\(Rt e4 R (A #[B c4,S c5 c6 c7,S c8 c9 d0,B d1,S d2 d3 d4,S d5 d6 d7])))))):
 Acts prog 35 #[A #[B a,S b c d,B e,S f g i,B k,S l m n],A #[B o,S p q r,S s t u]] V R:=
 fd (LF:=LF0) (RF:=[1000015]) [] [] func35 h
theorem vc_ref04_Rev (a:Bool) (b:OA) (c d:Nat) (e:Bool) (f:OA) (g i:Nat) (k:Bool) (l:OA) (m n:Nat) (V:View) (R:VR) (h:(Ca V 123 #[A #[B a,S b c d]] fun a2 a3=>∃o,∃p q r,a2=A #[B o,S p q r]/\(Ca a3 123 #[A #[B e,S f g i]] fun a4 a5=>∃s,∃t u w,a4=A #[B s,S t u w]/\(Ca a5 123 #[A #[B k,S l m n]] fun a6 a7=>∃x,∃y z a0,a6=A #[B x,S y z a0]/\(Rt a7 R (A #[B o,S p q r,B s,S t u w,B x,S y z a0])))))):
 Acts prog 53 #[A #[B a,S b c d,B e,S f g i,B k,S l m n]] V R:=
 fd (LF:=LF0) (RF:=[1000015]) [] [] func53 h
end Go.Proofs.Tryz
/- Contracts of the reference's num: Over; ref04's q. -/
namespace Go.Proofs.Tryz
open Go.Eng Go.Big
theorem c_num_Over {V:View} {v w:Value} {x y:Rat} (hx:RQ V v x) (hy:RQ V w y) (hy0:y.num≠0) {k m:Nat} (hk:Sz k x) (hm:Sz m y) (hkm:k + m < 274877906944) :
  Acts prog 95 #[v,w] V fun r V'=>RQ V' r (x * y⁻¹):=by
 obtain ⟨p,n,c,p',n',c',rfl,hx1,hx2⟩:=hx
 obtain ⟨q,i,e,q',i',e',rfl,hy1,hy2⟩:=hy
 have hmi:=sz_inv hm
 have q1:=digs_len_bits hk.1
 have q2:=digs_len_bits hk.2
 have q3:=digs_len_bits hm.1
 have q4:=digs_len_bits hmi.1
 have iv:(y⁻¹).num=(if decide (y.num < 0)=true then -((y.den:Nat):Int) else ((y.den:Nat):Int))/\(y⁻¹).den=y.num.natAbs:=by
  rcases Int.lt_or_gt_of_ne hy0 with h | h
  ·rw [if_pos (decide_eq_true h)]; exact inv_neg h
  ·rw [if_neg (fun hh=>by have:=of_decide_eq_true hh; omega)]; exact inv_pos h
 have hxy:x * y⁻¹=mkRat (x.num * (y⁻¹).num) (x.den * (y⁻¹).den):=Rat.mul_def' x y⁻¹
 have b1:(x.num * (y⁻¹).num).natAbs < 2 ^ (k + m):=by rw [Int.natAbs_mul]; exact pow_mul_lt hk.1 hmi.1
 have b2:x.den * (y⁻¹).den < 2 ^ (k + m):=pow_mul_lt hk.2 hmi.2
 refine vc_num_Over _ p n c p' n' c' _ q i e q' i' e' V _ fun V1 l1=>(c_num_Den y _ (hy2.le l1)).mono ?_
 rintro r V2 l2 ⟨p1,n1,c1,rfl,g1⟩
 refine ⟨_,_,_,rfl,fun V3 l3=>(c_num_Make _ (g1.le l3)).mono ?_⟩
 rw [← iv.1]
 rintro r V4 l4 ⟨p4,n4,c4,rfl,g4⟩
 refine ⟨_,_,_,_,rfl,fun V5 l5=>(c_num_Mul x.num (y⁻¹).num (hx1.le (l1.trans (l2.trans (l3.trans (l4.trans l5))))) (g4.le l5) (by omega)).mono ?_⟩
 rintro r V6 l6 ⟨p6,n6,c6,rfl,g6⟩
 have l06:=l1.trans (l2.trans (l3.trans (l4.trans (l5.trans l6))))
 refine ⟨_,_,_,_,rfl,fun V7 l7=>(c_num_Den x _ (hx2.le (l06.trans l7))).mono ?_⟩
 rintro r V8 l8 ⟨p8,n8,c8,rfl,g8⟩
 refine ⟨_,_,_,rfl,fun V9 l9=>(c_num_Product (g8.le l9) (hy1.le (l06.trans (l7.trans (l8.trans l9)))) (by omega)).mono ?_⟩
 rintro r V10 l10 ⟨p10,n10,c10,rfl,g10⟩
 rw [val_digs,val_digs,← iv.2] at g10
 refine ⟨_,_,_,rfl,fun V11 l11=>(c_num_Frac _ (g6.le (l7.trans (l8.trans (l9.trans (l10.trans l11))))) (g10.le l11) (Nat.le_trans (digs_len_bits b1) (by omega)) (Nat.le_trans (digs_len_bits b2) (by omega)) (Nat.mul_ne_zero x.den_nz (y⁻¹).den_nz)).mono ?_⟩
 rw [hxy]
 rintro r V22 l22 ⟨p21,n21,c21,p22,n22,c22,rfl,g21,g22⟩
 exact ⟨_,_,_,_,_,_,_,rfl,fun V23 l23=>⟨_,_,_,_,_,_,rfl,g21.le l23,g22.le l23⟩⟩
theorem c_ref04_q {V:View} (z:Int) {p:OA} {n c:Nat} (h:RD V p n c (digs z.natAbs)) :
  Acts prog 82 #[.agg #[.bool (decide (z < 0)),.slice p n c]] V fun r V'=>RQ V' r (z:Rat):=
 vc_ref04_q _ p n c V _ fun V1 l1=>rq_of (z:=z) (d:=1) rfl rfl (h.le l1) RD.nil rfl
end Go.Proofs.Tryz
/- Contracts of points and lines of the reference (printed by straight_ref.py). -/
namespace Go.Proofs.Tryz
open Go.Eng Go.Big
theorem c_num_Opp' {V:View} {v:Value} {q:Rat} (h:RQ V v q) {k:Nat} (_s:Sz k q) (_hk:k<=1099511627776):Acts prog 83 #[v] V fun r V'=>RQ V' r (-q):=by
 obtain ⟨p,n,c,p',n',c',rfl,h1,h2⟩:=h
 exact c_num_Opp q h1 h2
theorem c_ref04_q' {V:View} {z:Int} {p:OA} {n c:Nat} (h:RD V p n c (digs z.natAbs)) {k:Nat} (_s:Sz k (z:Rat)) (_hk:k<=1099511627776) :
  Acts prog 82 #[.agg #[.bool (decide (z < 0)),.slice p n c]] V fun r V'=>RQ V' r (z:Rat):=c_ref04_q z h
theorem c_ref04_Dir {V:View} {l:Value} {l_0 l_1 l_2:Int} (hl:RL V l l_0 l_1 l_2) {k:Nat} (sl_0:Sz k ((l_0:Int):Rat)) (sl_1:Sz k ((l_1:Int):Rat)) (sl_2:Sz k ((l_2:Int):Rat)) (hk:1 * k + 1 < 274877906944) :
  Acts prog 26 #[l] V fun r V'=>RP V' r (((l_1:Int):Rat)) (-(((l_0:Int):Rat))):=by
 have hl0:=hl
 obtain ⟨l0,l1,l2,l3,l4,l5,l6,l7,l8,rfl,hl_0,hl_1,hl_2⟩:=hl
 refine vc_ref04_Dir _ l0 l1 l2 _ l3 l4 l5 _ l6 l7 l8 V _ fun V1 l1=>(c_ref04_q' (hl_1.le (l1)) sl_1 (by omega)).mono ?_
 rintro r V2 l2 g1
 have g10:=g1
 obtain ⟨w0a,w0b,w0c,w0d,w0e,w0f,rfl⟩:=g1.shape
 have z1_0:Sz (1 * k + 0) (((l_1:Int):Rat)):=Sz.mono (sl_1) (by omega)
 refine ⟨_,_,_,_,_,_,_,rfl,fun V3 l3=>(c_ref04_q' (hl_0.le (l1.trans (l2.trans (l3)))) sl_0 (by omega)).mono ?_⟩
 rintro r V4 l4 g2
 have g20:=g2
 obtain ⟨w1a,w1b,w1c,w1d,w1e,w1f,rfl⟩:=g2.shape
 have z2_0:Sz (1 * k + 0) (((l_0:Int):Rat)):=Sz.mono (sl_0) (by omega)
 refine ⟨_,_,_,_,_,_,_,rfl,fun V5 l5=>(c_num_Opp' (g20.le (l5)) z2_0 (by omega)).mono ?_⟩
 rintro r V6 l6 g3
 have g30:=g3
 obtain ⟨w2a,w2b,w2c,w2d,w2e,w2f,rfl⟩:=g3.shape
 have z3_0:Sz (1 * k + 0) (-(((l_0:Int):Rat))):=Sz.mono (Sz.neg z2_0) (by omega)
 exact ⟨_,_,_,_,_,_,_,rfl,fun V7 l7=>⟨_,_,_,_,_,_,_,_,_,_,_,_,rfl,(g10.le (l3.trans (l4.trans (l5.trans (l6.trans (l7)))))),(g30.le (l7))⟩⟩
theorem z_ref04_Dir_0 {l_0:Int} {l_1:Int} {l_2:Int} {k:Nat} (sl_0:Sz k ((l_0:Int):Rat)) (sl_1:Sz k ((l_1:Int):Rat)) (sl_2:Sz k ((l_2:Int):Rat)):Sz (1 * k + 0) (((l_1:Int):Rat)):=by
 have z1_0:Sz (1 * k + 0) (((l_1:Int):Rat)):=Sz.mono (sl_1) (by omega)
 have z2_0:Sz (1 * k + 0) (((l_0:Int):Rat)):=Sz.mono (sl_0) (by omega)
 have z3_0:Sz (1 * k + 0) (-(((l_0:Int):Rat))):=Sz.mono (Sz.neg z2_0) (by omega)
 exact Sz.mono z1_0 (by omega)
theorem z_ref04_Dir_1 {l_0:Int} {l_1:Int} {l_2:Int} {k:Nat} (sl_0:Sz k ((l_0:Int):Rat)) (sl_1:Sz k ((l_1:Int):Rat)) (sl_2:Sz k ((l_2:Int):Rat)):Sz (1 * k + 0) (-(((l_0:Int):Rat))):=by
 have z1_0:Sz (1 * k + 0) (((l_1:Int):Rat)):=Sz.mono (sl_1) (by omega)
 have z2_0:Sz (1 * k + 0) (((l_0:Int):Rat)):=Sz.mono (sl_0) (by omega)
 have z3_0:Sz (1 * k + 0) (-(((l_0:Int):Rat))):=Sz.mono (Sz.neg z2_0) (by omega)
 exact Sz.mono z3_0 (by omega)
theorem c_ref04_Dot {V:View} {p:Value} {p_0 p_1:Rat} {q:Value} {q_0 q_1:Rat} (hp:RP V p p_0 p_1) (hq:RP V q q_0 q_1) {k:Nat} (sp_0:Sz k p_0) (sp_1:Sz k p_1) (sq_0:Sz k q_0) (sq_1:Sz k q_1) (hk:4 * k + 3 < 274877906944) :
  Acts prog 172 #[p,q] V fun r V'=>RQ V' r (((p_0) * (q_0)) + ((p_1) * (q_1))):=by
 have hp0:=hp
 obtain ⟨p0,p1,p2,p3,p4,p5,p6,p7,p8,p9,p10,p11,rfl,hp_0,hp_1⟩:=hp
 have hq0:=hq
 obtain ⟨q0,q1,q2,q3,q4,q5,q6,q7,q8,q9,q10,q11,rfl,hq_0,hq_1⟩:=hq
 refine vc_ref04_Dot _ p0 p1 p2 p3 p4 p5 _ p6 p7 p8 p9 p10 p11 _ q0 q1 q2 q3 q4 q5 _ q6 q7 q8 q9 q10 q11 V _ fun V1 l1=>(c_num_Times (hp_0.le (l1)) (hq_0.le (l1)) sp_0 sq_0 (by omega)).mono ?_
 rintro r V2 l2 g1
 have g10:=g1
 obtain ⟨w0a,w0b,w0c,w0d,w0e,w0f,rfl⟩:=g1.shape
 have z1_0:Sz (2 * k + 1) ((p_0) * (q_0)):=Sz.mono (Sz.mul sp_0 sq_0) (by omega)
 refine ⟨_,_,_,_,_,_,_,rfl,fun V3 l3=>(c_num_Times (hp_1.le (l1.trans (l2.trans (l3)))) (hq_1.le (l1.trans (l2.trans (l3)))) sp_1 sq_1 (by omega)).mono ?_⟩
 rintro r V4 l4 g2
 have g20:=g2
 obtain ⟨w1a,w1b,w1c,w1d,w1e,w1f,rfl⟩:=g2.shape
 have z2_0:Sz (2 * k + 1) ((p_1) * (q_1)):=Sz.mono (Sz.mul sp_1 sq_1) (by omega)
 refine ⟨_,_,_,_,_,_,_,rfl,fun V5 l5=>(c_num_Plus (g10.le (l3.trans (l4.trans (l5)))) (g20.le (l5)) z1_0 z2_0 (by omega)).mono ?_⟩
 rintro r V6 l6 g3
 have g30:=g3
 obtain ⟨w2a,w2b,w2c,w2d,w2e,w2f,rfl⟩:=g3.shape
 have z3_0:Sz (4 * k + 3) (((p_0) * (q_0)) + ((p_1) * (q_1))):=Sz.mono (Sz.add z1_0 z2_0) (by omega)
 exact ⟨_,_,_,_,_,_,_,rfl,fun V7 l7=>(g30.le (l7))⟩
theorem z_ref04_Dot_0 {p_0:Rat} {p_1:Rat} {q_0:Rat} {q_1:Rat} {k:Nat} (sp_0:Sz k p_0) (sp_1:Sz k p_1) (sq_0:Sz k q_0) (sq_1:Sz k q_1):Sz (4 * k + 3) (((p_0) * (q_0)) + ((p_1) * (q_1))):=by
 have z1_0:Sz (2 * k + 1) ((p_0) * (q_0)):=Sz.mono (Sz.mul sp_0 sq_0) (by omega)
 have z2_0:Sz (2 * k + 1) ((p_1) * (q_1)):=Sz.mono (Sz.mul sp_1 sq_1) (by omega)
 have z3_0:Sz (4 * k + 3) (((p_0) * (q_0)) + ((p_1) * (q_1))):=Sz.mono (Sz.add z1_0 z2_0) (by omega)
 exact Sz.mono z3_0 (by omega)
theorem c_ref04_Value {V:View} {l:Value} {l_0 l_1 l_2:Int} {p:Value} {p_0 p_1:Rat} (hl:RL V l l_0 l_1 l_2) (hp:RP V p p_0 p_1) {k:Nat} (sl_0:Sz k ((l_0:Int):Rat)) (sl_1:Sz k ((l_1:Int):Rat)) (sl_2:Sz k ((l_2:Int):Rat)) (sp_0:Sz k p_0) (sp_1:Sz k p_1) (hk:5 * k + 4 < 274877906944) :
  Acts prog 94 #[l,p] V fun r V'=>RQ V' r ((((((l_0:Int):Rat)) * (p_0)) + ((((l_1:Int):Rat)) * (p_1))) + (((l_2:Int):Rat))):=by
 have hl0:=hl
 obtain ⟨l0,l1,l2,l3,l4,l5,l6,l7,l8,rfl,hl_0,hl_1,hl_2⟩:=hl
 have hp0:=hp
 obtain ⟨p0,p1,p2,p3,p4,p5,p6,p7,p8,p9,p10,p11,rfl,hp_0,hp_1⟩:=hp
 refine vc_ref04_Value _ l0 l1 l2 _ l3 l4 l5 _ l6 l7 l8 _ p0 p1 p2 p3 p4 p5 _ p6 p7 p8 p9 p10 p11 V _ fun V1 l1=>(c_ref04_q' (hl_0.le (l1)) sl_0 (by omega)).mono ?_
 rintro r V2 l2 g1
 have g10:=g1
 obtain ⟨w0a,w0b,w0c,w0d,w0e,w0f,rfl⟩:=g1.shape
 have z1_0:Sz (1 * k + 0) (((l_0:Int):Rat)):=Sz.mono (sl_0) (by omega)
 refine ⟨_,_,_,_,_,_,_,rfl,fun V3 l3=>(c_num_Times (g10.le (l3)) (hp_0.le (l1.trans (l2.trans (l3)))) z1_0 sp_0 (by omega)).mono ?_⟩
 rintro r V4 l4 g2
 have g20:=g2
 obtain ⟨w1a,w1b,w1c,w1d,w1e,w1f,rfl⟩:=g2.shape
 have z2_0:Sz (2 * k + 1) ((((l_0:Int):Rat)) * (p_0)):=Sz.mono (Sz.mul z1_0 sp_0) (by omega)
 refine ⟨_,_,_,_,_,_,_,rfl,fun V5 l5=>(c_ref04_q' (hl_1.le (l1.trans (l2.trans (l3.trans (l4.trans (l5)))))) sl_1 (by omega)).mono ?_⟩
 rintro r V6 l6 g3
 have g30:=g3
 obtain ⟨w2a,w2b,w2c,w2d,w2e,w2f,rfl⟩:=g3.shape
 have z3_0:Sz (1 * k + 0) (((l_1:Int):Rat)):=Sz.mono (sl_1) (by omega)
 refine ⟨_,_,_,_,_,_,_,rfl,fun V7 l7=>(c_num_Times (g30.le (l7)) (hp_1.le (l1.trans (l2.trans (l3.trans (l4.trans (l5.trans (l6.trans (l7)))))))) z3_0 sp_1 (by omega)).mono ?_⟩
 rintro r V8 l8 g4
 have g40:=g4
 obtain ⟨w3a,w3b,w3c,w3d,w3e,w3f,rfl⟩:=g4.shape
 have z4_0:Sz (2 * k + 1) ((((l_1:Int):Rat)) * (p_1)):=Sz.mono (Sz.mul z3_0 sp_1) (by omega)
 refine ⟨_,_,_,_,_,_,_,rfl,fun V9 l9=>(c_num_Plus (g20.le (l5.trans (l6.trans (l7.trans (l8.trans (l9)))))) (g40.le (l9)) z2_0 z4_0 (by omega)).mono ?_⟩
 rintro r V10 l10 g5
 have g50:=g5
 obtain ⟨w4a,w4b,w4c,w4d,w4e,w4f,rfl⟩:=g5.shape
 have z5_0:Sz (4 * k + 3) (((((l_0:Int):Rat)) * (p_0)) + ((((l_1:Int):Rat)) * (p_1))):=Sz.mono (Sz.add z2_0 z4_0) (by omega)
 refine ⟨_,_,_,_,_,_,_,rfl,fun V11 l11=>(c_ref04_q' (hl_2.le (l1.trans (l2.trans (l3.trans (l4.trans (l5.trans (l6.trans (l7.trans (l8.trans (l9.trans (l10.trans (l11)))))))))))) sl_2 (by omega)).mono ?_⟩
 rintro r V12 l12 g6
 have g60:=g6
 obtain ⟨w5a,w5b,w5c,w5d,w5e,w5f,rfl⟩:=g6.shape
 have z6_0:Sz (1 * k + 0) (((l_2:Int):Rat)):=Sz.mono (sl_2) (by omega)
 refine ⟨_,_,_,_,_,_,_,rfl,fun V13 l13=>(c_num_Plus (g50.le (l11.trans (l12.trans (l13)))) (g60.le (l13)) z5_0 z6_0 (by omega)).mono ?_⟩
 rintro r V14 l14 g7
 have g70:=g7
 obtain ⟨w6a,w6b,w6c,w6d,w6e,w6f,rfl⟩:=g7.shape
 have z7_0:Sz (5 * k + 4) ((((((l_0:Int):Rat)) * (p_0)) + ((((l_1:Int):Rat)) * (p_1))) + (((l_2:Int):Rat))):=Sz.mono (Sz.add z5_0 z6_0) (by omega)
 exact ⟨_,_,_,_,_,_,_,rfl,fun V15 l15=>(g70.le (l15))⟩
theorem c_ref04_Base {V:View} {l:Value} {l_0 l_1 l_2:Int} (hl:RL V l l_0 l_1 l_2) (hd0:((((((l_1:Int):Rat))) * ((((l_1:Int):Rat)))) + (((-(((l_0:Int):Rat)))) * ((-(((l_0:Int):Rat)))))).num≠0) {k:Nat} (sl_0:Sz k ((l_0:Int):Rat)) (sl_1:Sz k ((l_1:Int):Rat)) (sl_2:Sz k ((l_2:Int):Rat)) (hk:6 * k + 5 < 274877906944) :
  Acts prog 99 #[l] V fun r V'=>RP V' r ((-((((l_2:Int):Rat)) * ((((((l_1:Int):Rat))) * ((((l_1:Int):Rat)))) + (((-(((l_0:Int):Rat)))) * ((-(((l_0:Int):Rat))))))⁻¹)) * (((l_0:Int):Rat))) ((-((((l_2:Int):Rat)) * ((((((l_1:Int):Rat))) * ((((l_1:Int):Rat)))) + (((-(((l_0:Int):Rat)))) * ((-(((l_0:Int):Rat))))))⁻¹)) * (((l_1:Int):Rat))):=by
 have hl0:=hl
 obtain ⟨l0,l1,l2,l3,l4,l5,l6,l7,l8,rfl,hl_0,hl_1,hl_2⟩:=hl
 refine vc_ref04_Base _ l0 l1 l2 _ l3 l4 l5 _ l6 l7 l8 V _ fun V1 l1=>(c_ref04_Dir (hl0.le (l1)) (Sz.mono sl_0 (by omega):Sz (1 * k + 0) _) (Sz.mono sl_1 (by omega):Sz (1 * k + 0) _) (Sz.mono sl_2 (by omega):Sz (1 * k + 0) _) (by omega)).mono ?_
 rintro r V2 l2 g1
 have g10:=g1
 obtain ⟨w0_0,w0_1,w0_2,w0_3,w0_4,w0_5,w0_6,w0_7,w0_8,w0_9,w0_10,w0_11,rfl,g1p0,g1p1⟩:=g1
 have z1_0:Sz (1 * k + 0) (((l_1:Int):Rat)):=Sz.mono ((z_ref04_Dir_0 (Sz.mono sl_0 (by omega):Sz (1 * k + 0) _) (Sz.mono sl_1 (by omega):Sz (1 * k + 0) _) (Sz.mono sl_2 (by omega):Sz (1 * k + 0) _))) (by omega)
 have z1_1:Sz (1 * k + 0) (-(((l_0:Int):Rat))):=Sz.mono ((z_ref04_Dir_1 (Sz.mono sl_0 (by omega):Sz (1 * k + 0) _) (Sz.mono sl_1 (by omega):Sz (1 * k + 0) _) (Sz.mono sl_2 (by omega):Sz (1 * k + 0) _))) (by omega)
 refine ⟨_,_,_,_,_,_,_,_,_,_,_,_,_,_,rfl,fun V3 l3=>(c_ref04_q' (hl_2.le (l1.trans (l2.trans (l3)))) sl_2 (by omega)).mono ?_⟩
 rintro r V4 l4 g2
 have g20:=g2
 obtain ⟨w1a,w1b,w1c,w1d,w1e,w1f,rfl⟩:=g2.shape
 have z2_0:Sz (1 * k + 0) (((l_2:Int):Rat)):=Sz.mono (sl_2) (by omega)
 refine ⟨_,_,_,_,_,_,_,rfl,fun V5 l5=>(c_ref04_Dot (g10.le (l3.trans (l4.trans (l5)))) (g10.le (l3.trans (l4.trans (l5)))) (Sz.mono z1_0 (by omega):Sz (1 * k + 0) _) (Sz.mono z1_1 (by omega):Sz (1 * k + 0) _) (Sz.mono z1_0 (by omega):Sz (1 * k + 0) _) (Sz.mono z1_1 (by omega):Sz (1 * k + 0) _) (by omega)).mono ?_⟩
 rintro r V6 l6 g3
 have g30:=g3
 obtain ⟨w2a,w2b,w2c,w2d,w2e,w2f,rfl⟩:=g3.shape
 have z3_0:Sz (4 * k + 3) ((((((l_1:Int):Rat))) * ((((l_1:Int):Rat)))) + (((-(((l_0:Int):Rat)))) * ((-(((l_0:Int):Rat)))))):=Sz.mono ((z_ref04_Dot_0 (Sz.mono z1_0 (by omega):Sz (1 * k + 0) _) (Sz.mono z1_1 (by omega):Sz (1 * k + 0) _) (Sz.mono z1_0 (by omega):Sz (1 * k + 0) _) (Sz.mono z1_1 (by omega):Sz (1 * k + 0) _))) (by omega)
 refine ⟨_,_,_,_,_,_,_,rfl,fun V7 l7=>(c_num_Over (g20.le (l5.trans (l6.trans (l7)))) (g30.le (l7)) hd0 z2_0 z3_0 (by omega)).mono ?_⟩
 rintro r V8 l8 g4
 have g40:=g4
 obtain ⟨w3a,w3b,w3c,w3d,w3e,w3f,rfl⟩:=g4.shape
 have z4_0:Sz (5 * k + 4) ((((l_2:Int):Rat)) * ((((((l_1:Int):Rat))) * ((((l_1:Int):Rat)))) + (((-(((l_0:Int):Rat)))) * ((-(((l_0:Int):Rat))))))⁻¹):=Sz.mono (Sz.mul z2_0 (sz_inv z3_0)) (by omega)
 refine ⟨_,_,_,_,_,_,_,rfl,fun V9 l9=>(c_num_Opp' (g40.le (l9)) z4_0 (by omega)).mono ?_⟩
 rintro r V10 l10 g5
 have g50:=g5
 obtain ⟨w4a,w4b,w4c,w4d,w4e,w4f,rfl⟩:=g5.shape
 have z5_0:Sz (5 * k + 4) (-((((l_2:Int):Rat)) * ((((((l_1:Int):Rat))) * ((((l_1:Int):Rat)))) + (((-(((l_0:Int):Rat)))) * ((-(((l_0:Int):Rat))))))⁻¹)):=Sz.mono (Sz.neg z4_0) (by omega)
 refine ⟨_,_,_,_,_,_,_,rfl,fun V11 l11=>(c_ref04_q' (hl_0.le (l1.trans (l2.trans (l3.trans (l4.trans (l5.trans (l6.trans (l7.trans (l8.trans (l9.trans (l10.trans (l11)))))))))))) sl_0 (by omega)).mono ?_⟩
 rintro r V12 l12 g6
 have g60:=g6
 obtain ⟨w5a,w5b,w5c,w5d,w5e,w5f,rfl⟩:=g6.shape
 have z6_0:Sz (1 * k + 0) (((l_0:Int):Rat)):=Sz.mono (sl_0) (by omega)
 refine ⟨_,_,_,_,_,_,_,rfl,fun V13 l13=>(c_num_Times (g50.le (l11.trans (l12.trans (l13)))) (g60.le (l13)) z5_0 z6_0 (by omega)).mono ?_⟩
 rintro r V14 l14 g7
 have g70:=g7
 obtain ⟨w6a,w6b,w6c,w6d,w6e,w6f,rfl⟩:=g7.shape
 have z7_0:Sz (6 * k + 5) ((-((((l_2:Int):Rat)) * ((((((l_1:Int):Rat))) * ((((l_1:Int):Rat)))) + (((-(((l_0:Int):Rat)))) * ((-(((l_0:Int):Rat))))))⁻¹)) * (((l_0:Int):Rat))):=Sz.mono (Sz.mul z5_0 z6_0) (by omega)
 refine ⟨_,_,_,_,_,_,_,rfl,fun V15 l15=>(c_ref04_q' (hl_1.le (l1.trans (l2.trans (l3.trans (l4.trans (l5.trans (l6.trans (l7.trans (l8.trans (l9.trans (l10.trans (l11.trans (l12.trans (l13.trans (l14.trans (l15)))))))))))))))) sl_1 (by omega)).mono ?_⟩
 rintro r V16 l16 g8
 have g80:=g8
 obtain ⟨w7a,w7b,w7c,w7d,w7e,w7f,rfl⟩:=g8.shape
 have z8_0:Sz (1 * k + 0) (((l_1:Int):Rat)):=Sz.mono (sl_1) (by omega)
 refine ⟨_,_,_,_,_,_,_,rfl,fun V17 l17=>(c_num_Times (g50.le (l11.trans (l12.trans (l13.trans (l14.trans (l15.trans (l16.trans (l17)))))))) (g80.le (l17)) z5_0 z8_0 (by omega)).mono ?_⟩
 rintro r V18 l18 g9
 have g90:=g9
 obtain ⟨w8a,w8b,w8c,w8d,w8e,w8f,rfl⟩:=g9.shape
 have z9_0:Sz (6 * k + 5) ((-((((l_2:Int):Rat)) * ((((((l_1:Int):Rat))) * ((((l_1:Int):Rat)))) + (((-(((l_0:Int):Rat)))) * ((-(((l_0:Int):Rat))))))⁻¹)) * (((l_1:Int):Rat))):=Sz.mono (Sz.mul z5_0 z8_0) (by omega)
 exact ⟨_,_,_,_,_,_,_,rfl,fun V19 l19=>⟨_,_,_,_,_,_,_,_,_,_,_,_,rfl,(g70.le (l15.trans (l16.trans (l17.trans (l18.trans (l19)))))),(g90.le (l19))⟩⟩
theorem z_ref04_Base_0 {l_0:Int} {l_1:Int} {l_2:Int} {k:Nat} (sl_0:Sz k ((l_0:Int):Rat)) (sl_1:Sz k ((l_1:Int):Rat)) (sl_2:Sz k ((l_2:Int):Rat)):Sz (6 * k + 5) ((-((((l_2:Int):Rat)) * ((((((l_1:Int):Rat))) * ((((l_1:Int):Rat)))) + (((-(((l_0:Int):Rat)))) * ((-(((l_0:Int):Rat))))))⁻¹)) * (((l_0:Int):Rat))):=by
 have z1_0:Sz (1 * k + 0) (((l_1:Int):Rat)):=Sz.mono ((z_ref04_Dir_0 (Sz.mono sl_0 (by omega):Sz (1 * k + 0) _) (Sz.mono sl_1 (by omega):Sz (1 * k + 0) _) (Sz.mono sl_2 (by omega):Sz (1 * k + 0) _))) (by omega)
 have z1_1:Sz (1 * k + 0) (-(((l_0:Int):Rat))):=Sz.mono ((z_ref04_Dir_1 (Sz.mono sl_0 (by omega):Sz (1 * k + 0) _) (Sz.mono sl_1 (by omega):Sz (1 * k + 0) _) (Sz.mono sl_2 (by omega):Sz (1 * k + 0) _))) (by omega)
 have z2_0:Sz (1 * k + 0) (((l_2:Int):Rat)):=Sz.mono (sl_2) (by omega)
 have z3_0:Sz (4 * k + 3) ((((((l_1:Int):Rat))) * ((((l_1:Int):Rat)))) + (((-(((l_0:Int):Rat)))) * ((-(((l_0:Int):Rat)))))):=Sz.mono ((z_ref04_Dot_0 (Sz.mono z1_0 (by omega):Sz (1 * k + 0) _) (Sz.mono z1_1 (by omega):Sz (1 * k + 0) _) (Sz.mono z1_0 (by omega):Sz (1 * k + 0) _) (Sz.mono z1_1 (by omega):Sz (1 * k + 0) _))) (by omega)
 have z4_0:Sz (5 * k + 4) ((((l_2:Int):Rat)) * ((((((l_1:Int):Rat))) * ((((l_1:Int):Rat)))) + (((-(((l_0:Int):Rat)))) * ((-(((l_0:Int):Rat))))))⁻¹):=Sz.mono (Sz.mul z2_0 (sz_inv z3_0)) (by omega)
 have z5_0:Sz (5 * k + 4) (-((((l_2:Int):Rat)) * ((((((l_1:Int):Rat))) * ((((l_1:Int):Rat)))) + (((-(((l_0:Int):Rat)))) * ((-(((l_0:Int):Rat))))))⁻¹)):=Sz.mono (Sz.neg z4_0) (by omega)
 have z6_0:Sz (1 * k + 0) (((l_0:Int):Rat)):=Sz.mono (sl_0) (by omega)
 have z7_0:Sz (6 * k + 5) ((-((((l_2:Int):Rat)) * ((((((l_1:Int):Rat))) * ((((l_1:Int):Rat)))) + (((-(((l_0:Int):Rat)))) * ((-(((l_0:Int):Rat))))))⁻¹)) * (((l_0:Int):Rat))):=Sz.mono (Sz.mul z5_0 z6_0) (by omega)
 have z8_0:Sz (1 * k + 0) (((l_1:Int):Rat)):=Sz.mono (sl_1) (by omega)
 have z9_0:Sz (6 * k + 5) ((-((((l_2:Int):Rat)) * ((((((l_1:Int):Rat))) * ((((l_1:Int):Rat)))) + (((-(((l_0:Int):Rat)))) * ((-(((l_0:Int):Rat))))))⁻¹)) * (((l_1:Int):Rat))):=Sz.mono (Sz.mul z5_0 z8_0) (by omega)
 exact Sz.mono z7_0 (by omega)
theorem z_ref04_Base_1 {l_0:Int} {l_1:Int} {l_2:Int} {k:Nat} (sl_0:Sz k ((l_0:Int):Rat)) (sl_1:Sz k ((l_1:Int):Rat)) (sl_2:Sz k ((l_2:Int):Rat)):Sz (6 * k + 5) ((-((((l_2:Int):Rat)) * ((((((l_1:Int):Rat))) * ((((l_1:Int):Rat)))) + (((-(((l_0:Int):Rat)))) * ((-(((l_0:Int):Rat))))))⁻¹)) * (((l_1:Int):Rat))):=by
 have z1_0:Sz (1 * k + 0) (((l_1:Int):Rat)):=Sz.mono ((z_ref04_Dir_0 (Sz.mono sl_0 (by omega):Sz (1 * k + 0) _) (Sz.mono sl_1 (by omega):Sz (1 * k + 0) _) (Sz.mono sl_2 (by omega):Sz (1 * k + 0) _))) (by omega)
 have z1_1:Sz (1 * k + 0) (-(((l_0:Int):Rat))):=Sz.mono ((z_ref04_Dir_1 (Sz.mono sl_0 (by omega):Sz (1 * k + 0) _) (Sz.mono sl_1 (by omega):Sz (1 * k + 0) _) (Sz.mono sl_2 (by omega):Sz (1 * k + 0) _))) (by omega)
 have z2_0:Sz (1 * k + 0) (((l_2:Int):Rat)):=Sz.mono (sl_2) (by omega)
 have z3_0:Sz (4 * k + 3) ((((((l_1:Int):Rat))) * ((((l_1:Int):Rat)))) + (((-(((l_0:Int):Rat)))) * ((-(((l_0:Int):Rat)))))):=Sz.mono ((z_ref04_Dot_0 (Sz.mono z1_0 (by omega):Sz (1 * k + 0) _) (Sz.mono z1_1 (by omega):Sz (1 * k + 0) _) (Sz.mono z1_0 (by omega):Sz (1 * k + 0) _) (Sz.mono z1_1 (by omega):Sz (1 * k + 0) _))) (by omega)
 have z4_0:Sz (5 * k + 4) ((((l_2:Int):Rat)) * ((((((l_1:Int):Rat))) * ((((l_1:Int):Rat)))) + (((-(((l_0:Int):Rat)))) * ((-(((l_0:Int):Rat))))))⁻¹):=Sz.mono (Sz.mul z2_0 (sz_inv z3_0)) (by omega)
 have z5_0:Sz (5 * k + 4) (-((((l_2:Int):Rat)) * ((((((l_1:Int):Rat))) * ((((l_1:Int):Rat)))) + (((-(((l_0:Int):Rat)))) * ((-(((l_0:Int):Rat))))))⁻¹)):=Sz.mono (Sz.neg z4_0) (by omega)
 have z6_0:Sz (1 * k + 0) (((l_0:Int):Rat)):=Sz.mono (sl_0) (by omega)
 have z7_0:Sz (6 * k + 5) ((-((((l_2:Int):Rat)) * ((((((l_1:Int):Rat))) * ((((l_1:Int):Rat)))) + (((-(((l_0:Int):Rat)))) * ((-(((l_0:Int):Rat))))))⁻¹)) * (((l_0:Int):Rat))):=Sz.mono (Sz.mul z5_0 z6_0) (by omega)
 have z8_0:Sz (1 * k + 0) (((l_1:Int):Rat)):=Sz.mono (sl_1) (by omega)
 have z9_0:Sz (6 * k + 5) ((-((((l_2:Int):Rat)) * ((((((l_1:Int):Rat))) * ((((l_1:Int):Rat)))) + (((-(((l_0:Int):Rat)))) * ((-(((l_0:Int):Rat))))))⁻¹)) * (((l_1:Int):Rat))):=Sz.mono (Sz.mul z5_0 z8_0) (by omega)
 exact Sz.mono z9_0 (by omega)
theorem c_ref04_At {V:View} {l:Value} {l_0 l_1 l_2:Int} {t:Value} {t_0:Rat} (hl:RL V l l_0 l_1 l_2) (ht:RQ V t t_0) (hd0:((((((l_1:Int):Rat))) * ((((l_1:Int):Rat)))) + (((-(((l_0:Int):Rat)))) * ((-(((l_0:Int):Rat)))))).num≠0) {k:Nat} (sl_0:Sz k ((l_0:Int):Rat)) (sl_1:Sz k ((l_1:Int):Rat)) (sl_2:Sz k ((l_2:Int):Rat)) (st_0:Sz k t_0) (hk:18 * k + 16 < 274877906944) :
  Acts prog 35 #[l,t] V fun r V'=>RP V' r (((-((((l_2:Int):Rat)) * ((((((l_1:Int):Rat))) * ((((l_1:Int):Rat)))) + (((-(((l_0:Int):Rat)))) * ((-(((l_0:Int):Rat))))))⁻¹)) * (((l_0:Int):Rat))) + (t_0) * (((l_1:Int):Rat))) (((-((((l_2:Int):Rat)) * ((((((l_1:Int):Rat))) * ((((l_1:Int):Rat)))) + (((-(((l_0:Int):Rat)))) * ((-(((l_0:Int):Rat))))))⁻¹)) * (((l_1:Int):Rat))) + (t_0) * (-(((l_0:Int):Rat)))):=by
 have hl0:=hl
 obtain ⟨l0,l1,l2,l3,l4,l5,l6,l7,l8,rfl,hl_0,hl_1,hl_2⟩:=hl
 have ht0:=ht
 obtain ⟨t0,t1,t2,t3,t4,t5,rfl⟩:=ht.shape
 refine vc_ref04_At _ l0 l1 l2 _ l3 l4 l5 _ l6 l7 l8 _ t0 t1 t2 t3 t4 t5 V _ fun V1 l1=>(c_ref04_Base (hl0.le (l1)) hd0 (Sz.mono sl_0 (by omega):Sz (1 * k + 0) _) (Sz.mono sl_1 (by omega):Sz (1 * k + 0) _) (Sz.mono sl_2 (by omega):Sz (1 * k + 0) _) (by omega)).mono ?_
 rintro r V2 l2 g1
 have g10:=g1
 obtain ⟨w0_0,w0_1,w0_2,w0_3,w0_4,w0_5,w0_6,w0_7,w0_8,w0_9,w0_10,w0_11,rfl,g1p0,g1p1⟩:=g1
 have z1_0:Sz (6 * k + 5) ((-((((l_2:Int):Rat)) * ((((((l_1:Int):Rat))) * ((((l_1:Int):Rat)))) + (((-(((l_0:Int):Rat)))) * ((-(((l_0:Int):Rat))))))⁻¹)) * (((l_0:Int):Rat))):=Sz.mono ((z_ref04_Base_0 (Sz.mono sl_0 (by omega):Sz (1 * k + 0) _) (Sz.mono sl_1 (by omega):Sz (1 * k + 0) _) (Sz.mono sl_2 (by omega):Sz (1 * k + 0) _))) (by omega)
 have z1_1:Sz (6 * k + 5) ((-((((l_2:Int):Rat)) * ((((((l_1:Int):Rat))) * ((((l_1:Int):Rat)))) + (((-(((l_0:Int):Rat)))) * ((-(((l_0:Int):Rat))))))⁻¹)) * (((l_1:Int):Rat))):=Sz.mono ((z_ref04_Base_1 (Sz.mono sl_0 (by omega):Sz (1 * k + 0) _) (Sz.mono sl_1 (by omega):Sz (1 * k + 0) _) (Sz.mono sl_2 (by omega):Sz (1 * k + 0) _))) (by omega)
 refine ⟨_,_,_,_,_,_,_,_,_,_,_,_,_,_,rfl,fun V3 l3=>(c_ref04_Dir (hl0.le (l1.trans (l2.trans (l3)))) (Sz.mono sl_0 (by omega):Sz (1 * k + 0) _) (Sz.mono sl_1 (by omega):Sz (1 * k + 0) _) (Sz.mono sl_2 (by omega):Sz (1 * k + 0) _) (by omega)).mono ?_⟩
 rintro r V4 l4 g2
 have g20:=g2
 obtain ⟨w1_0,w1_1,w1_2,w1_3,w1_4,w1_5,w1_6,w1_7,w1_8,w1_9,w1_10,w1_11,rfl,g2p0,g2p1⟩:=g2
 have z2_0:Sz (1 * k + 0) (((l_1:Int):Rat)):=Sz.mono ((z_ref04_Dir_0 (Sz.mono sl_0 (by omega):Sz (1 * k + 0) _) (Sz.mono sl_1 (by omega):Sz (1 * k + 0) _) (Sz.mono sl_2 (by omega):Sz (1 * k + 0) _))) (by omega)
 have z2_1:Sz (1 * k + 0) (-(((l_0:Int):Rat))):=Sz.mono ((z_ref04_Dir_1 (Sz.mono sl_0 (by omega):Sz (1 * k + 0) _) (Sz.mono sl_1 (by omega):Sz (1 * k + 0) _) (Sz.mono sl_2 (by omega):Sz (1 * k + 0) _))) (by omega)
 refine ⟨_,_,_,_,_,_,_,_,_,_,_,_,_,_,rfl,fun V5 l5=>(c_ref04_Add (g10.le (l3.trans (l4.trans (l5)))) (ht0.le (l1.trans (l2.trans (l3.trans (l4.trans (l5)))))) (g20.le (l5)) (Sz.mono z1_0 (by omega):Sz (6 * k + 5) _) (Sz.mono z1_1 (by omega):Sz (6 * k + 5) _) (Sz.mono st_0 (by omega):Sz (6 * k + 5) _) (Sz.mono z2_0 (by omega):Sz (6 * k + 5) _) (Sz.mono z2_1 (by omega):Sz (6 * k + 5) _) (by omega)).mono ?_⟩
 rintro r V6 l6 g3
 have g30:=g3
 obtain ⟨w2_0,w2_1,w2_2,w2_3,w2_4,w2_5,w2_6,w2_7,w2_8,w2_9,w2_10,w2_11,rfl,g3p0,g3p1⟩:=g3
 have z3_0:Sz (18 * k + 17) (((-((((l_2:Int):Rat)) * ((((((l_1:Int):Rat))) * ((((l_1:Int):Rat)))) + (((-(((l_0:Int):Rat)))) * ((-(((l_0:Int):Rat))))))⁻¹)) * (((l_0:Int):Rat))) + (t_0) * (((l_1:Int):Rat))):=Sz.mono (Sz.add (Sz.mono z1_0 (by omega):Sz (6 * k + 5) _) (Sz.mul (Sz.mono st_0 (by omega):Sz (6 * k + 5) _) (Sz.mono z2_0 (by omega):Sz (6 * k + 5) _))) (by omega)
 have z3_1:Sz (18 * k + 17) (((-((((l_2:Int):Rat)) * ((((((l_1:Int):Rat))) * ((((l_1:Int):Rat)))) + (((-(((l_0:Int):Rat)))) * ((-(((l_0:Int):Rat))))))⁻¹)) * (((l_1:Int):Rat))) + (t_0) * (-(((l_0:Int):Rat)))):=Sz.mono (Sz.add (Sz.mono z1_1 (by omega):Sz (6 * k + 5) _) (Sz.mul (Sz.mono st_0 (by omega):Sz (6 * k + 5) _) (Sz.mono z2_1 (by omega):Sz (6 * k + 5) _))) (by omega)
 exact ⟨_,_,_,_,_,_,_,_,_,_,_,_,_,_,rfl,fun V7 l7=>⟨_,_,_,_,_,_,_,_,_,_,_,_,rfl,(g3p0.le (l7)),(g3p1.le (l7))⟩⟩
end Go.Proofs.Tryz
