/- A part of the proof (joined by program from: LocC, TreeR, LocD, RefJ, VLocR, LocE, VLinesR, RefK, DistP, RefL, VPlace). -/
import Derived.Test.YtcbcbdbheiopbaaGreatDoorL18
import Derived.Test.YtcbcbdbheiopbaaGreatDoorL14
import Derived.Test.YtcbcbdbheiopbaaGreatDoorL13
import Derived.Test.YtcbcbdbheiopbaaGreatDoorL16
import Derived.Test.YtcbcbdbheiopbaaGreatDoorL5
import Derived.Test.YtcbcbdbheiopbaaGreatDoorL17
import Derived.Test.YtcbcbdbheiopbaaGreatDoorL15
set_option linter.unusedVariables false
open Go.IntKind (i64 u64 u32)
/- Contracts: the class of a point (package bsp, package locate). -/
namespace Go.Proofs.Tryz
open Go.Eng Go.Big
theorem mkRat_mul' (n:Int) {d:Nat} (h:d≠0):mkRat n d * ((d:Nat):Rat)=(n:Rat):=by
 have hd:((d:Nat):Rat)≠0:=by exact_mod_cast h
 rw [Rat.mkRat_eq_div,Rat.div_def]
 exact Sec.inv_mul hd _
theorem gcdQ_pos {p:Rat × Rat} (h:Sec.nz p):gcdQ p.1 p.2 > 0:=by
 have hd:p.1.den * p.2.den≠0:=Nat.mul_ne_zero p.1.den_nz p.2.den_nz
 have e:=mkRat_mul' (Nat.gcd (p.1.num.natAbs * p.2.den) (p.2.num.natAbs * p.1.den):Nat) hd
 have hg:0 < Nat.gcd (p.1.num.natAbs * p.2.den) (p.2.num.natAbs * p.1.den):=by
  apply Nat.pos_of_ne_zero
  intro z
  rw [Nat.gcd_eq_zero_iff] at z
  have z1:p.1=0:=by
   rcases Nat.mul_eq_zero.1 z.1 with e | e
   ·exact Rat.num_eq_zero.1 (by omega)
   ·exact absurd e p.2.den_nz
  have z2:p.2=0:=by
   rcases Nat.mul_eq_zero.1 z.2 with e | e
   ·exact Rat.num_eq_zero.1 (by omega)
   ·exact absurd e p.1.den_nz
  unfold Sec.nz at h
  rcases h with h | h
  ·exact h z1
  ·exact h z2
 have d0:((p.1.den * p.2.den:Nat):Rat) > 0:=by exact_mod_cast Nat.pos_of_ne_zero hd
 have g0:(((Nat.gcd (p.1.num.natAbs * p.2.den) (p.2.num.natAbs * p.1.den):Nat):Int):Rat) > 0:=by exact_mod_cast hg
 show mkRat _ _ > 0
 generalize mkRat ((Nat.gcd (p.1.num.natAbs * p.2.den) (p.2.num.natAbs * p.1.den):Nat):Int) (p.1.den * p.2.den)=q at *
 by_cases hq:q > 0
 ·exact hq
 ·have:=Sec.mn (show -q ≥ 0 by grind) (show ((p.1.den * p.2.den:Nat):Rat) ≥ 0 by grind)
  grind
theorem prim_dir {p:Rat × Rat} (h:Sec.nz p):∃c:Rat,c > 0/\primV p=(c * p.1,c * p.2):=
 ⟨(gcdQ p.1 p.2)⁻¹,Rat.inv_pos.2 (gcdQ_pos h),Prod.ext (Rat.mul_comm ..) (Rat.mul_comm ..)⟩
theorem nz_dirL {l:L3} (h:¬ (l.1=0/\l.2.1=0)):Sec.nz (Sec.dirL l):=by
 unfold Sec.nz Sec.dirL
 by_cases e:l.2.1=0
 ·right
  intro e'
  have:(l.1:Rat)=0:=by grind
  exact h ⟨by exact_mod_cast this,e⟩
 ·left
  show (l.2.1:Rat)≠0
  exact_mod_cast e
/-- The class of a point: what the samples of any system of rays say that holds the lines through it. -/
def clsI (s a:Bool):Int:=if a then 2 else if s then 1 else 0
def ClassIs (t:Tr) (p:Rat × Rat) (c:Int):Prop:=∀D S,Sec.Ray D->Sec.Sms D S->Sec.Cov D (Sec.metL t p)->c=clsI (Sec.anyS t p S) (Sec.allS t p S)
theorem classIs_of {t:Tr} {p:Rat × Rat} {D S:List (Rat × Rat)} (h1:Sec.Ray D) (h2:Sec.Sms D S) (h3:Sec.Cov D (Sec.metL t p)):ClassIs t p (clsI (Sec.anyS t p S) (Sec.allS t p S)):=by
 intro D' S' g1 g2 g3
 obtain ⟨e1,e2⟩:=Sec.say_eq h1 h2 g1 g2 h3 g3
 rw [e1,e2]
theorem met_all {q:L3->Prop} {t:Tr} (h:t.All q) {p:Rat × Rat}:∀l ∈ Sec.metL t p,q l:=fun l hl=>lns_all h l (Sec.metL_val hl).2
theorem smpP_sm {u w:Rat × Rat} (h:Sec.cr u w ≥ 0):Sec.IsSm u w (smpP u w):=by
 unfold smpP
 by_cases g:Sec.cr u w > 0
 ·rw [if_pos g]
  exact .inl ⟨g,1,1,by decide,by decide,Prod.ext (by unfold Sec.lin; grind) (by unfold Sec.lin; grind)⟩
 ·rw [if_neg g]
  exact .inr ⟨by grind,1,by decide,Prod.ext (by unfold Sec.lin Sec.trn; grind) (by unfold Sec.lin Sec.trn; grind)⟩
theorem secsP_sms {D:List (Rat × Rat)} (h:Sec.Ray D):Sec.Sms D (secsP D):=by
 unfold secsP
 by_cases e:D=[]
 ·rw [if_pos e]; exact .inl ⟨e,rfl⟩
 ·rw [if_neg e]; exact Sec.sec_sms h (fun u _ w _ hc=>smpP_sm hc) e
theorem secsP_ne (D:List (Rat × Rat)):secsP D≠[]:=by
 unfold secsP
 by_cases e:D=[]
 ·rw [if_pos e]; simp
 ·rw [if_neg e]
  intro h
  have:=congrArg List.length h
  unfold Sec.secS at this
  rw [List.length_map,List.length_range] at this
  exact e (List.length_eq_zero_iff.1 this)
theorem secsP_len (D:List (Rat × Rat)):(secsP D).length<=D.length + 1:=by
 unfold secsP
 split
 ·simp
 ·unfold Sec.secS; simp
theorem raysL_len (M:List L3):(raysL M).length=2 * M.length:=by
 induction M with
 | nil=>rfl
 | cons l M ih=>
  have:raysL (l :: M)=rayL l++raysL M:=rfl
  rw [this,List.length_append,ih]
  simp [rayL]; omega
theorem metL_len:∀(t:Tr) (p:Rat × Rat),(Sec.metL t p).length<=t.size
 | .leaf _,_=>Nat.le_refl _
 | .node l a b,p=>by
  have:=metL_len a p
  have:=metL_len b p
  simp only [Sec.metL,List.length_append,Tr.size]
  have h1:(if valL l p.1 p.2=0 then [l] else []).length<=1:=by split <;> simp
  have h2:(if valL l p.1 p.2 ≥ 0 then Sec.metL a p else []).length<=a.size:=by
   split
   ·omega
   ·simp
  have h3:(if valL l p.1 p.2<=0 then Sec.metL b p else []).length<=b.size:=by
   split
   ·omega
   ·simp
  omega
/-- Rays of lines, sorted. -/
theorem ray_sys {M:List L3} (ho:∀l ∈ M,¬ (l.1=0/\l.2.1=0)) {m:List (Rat × Rat)} (pm:m.Perm (raysL M)) (pw:m.Pairwise fun x y=>¬ cCP y x < 0):Sec.Ray (cmpt eP m)/\Sec.Cov (cmpt eP m) M:=by
 have mem:∀r,r ∈ m↔∃l ∈ M,r=primV (Sec.dirL l) \/ r=negV (primV (Sec.dirL l)):=fun r=>by
  rw [pm.mem_iff]
  unfold raysL rayL
  simp only [List.mem_flatMap,List.mem_cons,List.not_mem_nil,or_false]
 have key:=Sec.ray_of (m:=m) pw ?_ ?_
 ·obtain ⟨k1,k2⟩:=key
  refine ⟨k1,fun l hl=>?_⟩
  obtain ⟨y,hy,c,c0,e⟩:=k2 (primV (Sec.dirL l)) ((mem _).2 ⟨l,hl,.inl rfl⟩)
  obtain ⟨d,d0,e'⟩:=prim_dir (nz_dirL (ho l hl))
  refine ⟨y,hy,c * d,Sec.mp c0 d0,?_⟩
  rw [e,e']
  exact Prod.ext (by show c * (d * _)=_; grind) (by show c * (d * _)=_; grind)
 ·intro r hr
  obtain ⟨l,hl,h⟩:=(mem r).1 hr
  have n0:=nz_dirL (ho l hl)
  obtain ⟨d,d0,e'⟩:=prim_dir n0
  have np:Sec.nz (primV (Sec.dirL l)):=by
   rw [e']
   unfold Sec.nz at n0 ⊢
   rcases n0 with n0 | n0
   ·exact .inl fun h=>by rcases Rat.mul_eq_zero.1 h with h | h; grind; exact n0 h
   ·exact .inr fun h=>by rcases Rat.mul_eq_zero.1 h with h | h; grind; exact n0 h
  rcases h with rfl | rfl
  ·exact np
  ·unfold Sec.nz negV at *
   rcases np with np | np
   ·exact .inl (by show -(primV (Sec.dirL l)).1≠0; grind)
   ·exact .inr (by show -(primV (Sec.dirL l)).2≠0; grind)
 ·intro r hr
  obtain ⟨l,hl,h⟩:=(mem r).1 hr
  rcases h with rfl | rfl
  ·exact ⟨_,(mem _).2 ⟨l,hl,.inr rfl⟩,1,by decide,by unfold negV; grind,by unfold negV; grind⟩
  ·exact ⟨_,(mem _).2 ⟨l,hl,.inl rfl⟩,1,by decide,by unfold negV; grind,by unfold negV; grind⟩
theorem anyS_take {t:Tr} {p:Rat × Rat} {S:List (Rat × Rat)} {i:Nat} (h:i < S.length):Sec.anyS t p (S.take (i + 1))=(Sec.anyS t p (S.take i) || (Sec.tow t p S[i]).1):=by
 unfold Sec.anyS
 rw [← List.take_append_getElem h,List.any_append]
 simp
theorem allS_take {t:Tr} {p:Rat × Rat} {S:List (Rat × Rat)} {i:Nat} (h:i < S.length):Sec.allS t p (S.take (i + 1))=(Sec.allS t p (S.take i) && (Sec.tow t p S[i]).1):=by
 unfold Sec.allS
 rw [← List.take_append_getElem h,List.all_append]
 simp
theorem all_any {t:Tr} {p:Rat × Rat} {S:List (Rat × Rat)} (h:S≠[]) (ha:Sec.allS t p S=true):Sec.anyS t p S=true:=by
 cases S with
 | nil=>exact absurd rfl h
 | cons x r=>
  unfold Sec.allS at ha
  unfold Sec.anyS
  simp only [List.all_cons,Bool.and_eq_true] at ha
  simp [ha.1]
theorem c_bsp_Class {pv:Value} {p:Rat × Rat} (s1:Sz 100000 p.1) (s2:Sz 100000 p.2) {t:Tr} {V:View} {q:OA} (h:RT V q t) (ha:t.All Bd) (ho:t.All fun l=>¬ (l.1=0/\l.2.1=0)) (hs:t.size < 25) (hso:∀n c,SortsP n c (raysL (Sec.metL t p))) (hp:RPt V pv p.1 p.2) :
  Acts prog 74 #[.pointer q,pv] V fun r V'=>∃c,r=.int .i64 c/\ClassIs t p c:=by
 have hp0:=hp
 obtain ⟨x1,x2,x3,y1,y2,y3,rfl,-⟩:=hp
 refine vc_bsp_T_Class q x1 x2 x3 y1 y2 y3 V _ fun V1 l1=>(c_bsp_rays s1 s2 t (V:=V1) (lb:=0) (n:=0) (c:=0) (vs:=[]) (o:=[]) (h.le l1) ha (hp0.le l1) (fun h=>absurd rfl h) (fun h=>absurd rfl h) GR.nil (fun h=>absurd rfl h) (by omega)).mono ?_
 rintro r V2 l2 ⟨bm,vm,n1,c1,a1,a2,rfl,a3,a4,a5⟩
 have a2':vm≠[]->V1.w.heap.size<=bm:=fun h=>(a2 h).elim id fun h=>absurd rfl h.1
 refine ⟨bm,vm,a1,fun h=>.inl (a2' h),none,n1,c1,rfl,fun V3 l3 bk4 e1 e2=>?_⟩
 have L3:V.Le V3:=l1.trans ((le_hideG l2 (View.Le.refl V1) fun h=>.inl (a2' h)).trans l3)
 rw [List.nil_append] at a3
 have few:(raysL (Sec.metL t p)).length < 50:=by
  have:=metL_len t p
  rw [raysL_len]; omega
 refine (c_Directions (V:=V3.lend [vb vm V3.w.heap.size bk4]) (lb:=bk4) e1 (fun h=>⟨by simp [vb_ne h],e2 h⟩) (a3.mono (V':=V3.lend _) fun _ _ g=>RCP.le g fun b o h=>l3 b o h) a4 few (hso _ _)).mono ?_
 rintro r V4 l4 ⟨bm',vm',n2,c2,m,b1,b2,rfl,row,rfl,b4,pm,pw⟩
 refine ⟨bm',vm',b1,b2,none,_,c2,rfl,fun V5 l5 bk8 e3=>?_⟩
 have L5:V.Le V5:=L3.trans ((le_hideG (V:=V3) (V':=V3) (fun b o h=>l4 b o h) (View.Le.refl V3) fun h=>(b2 h).imp id fun h'=>by rw [h'.2]; exact e2 h'.1).trans l5)
 have mlen:=pm.length_eq
 have clen:=cmpt_len (e:=eP) (l:=m)
 obtain ⟨ry,cv⟩:=ray_sys (met_all ho) pm pw
 refine (c_Sectors (D:=cmpt eP m) (Lst.of_mrow e3 (row.le fun _ _ g=>(RCP.le g fun b o h=>l5 b o h:RCP V5 _ _)) (by decide) b4) (by omega)).mono ?_
 rintro r V6 l6 ⟨q',n3,c3,rfl,hS⟩
 have ne:=secsP_ne (cmpt eP m)
 have sm:=secsP_sms ry
 have sl:=secsP_len (cmpt eP m)
 generalize secsP (cmpt eP m)=S at *
 have hl:=hS.len
 subst hl
 refine ⟨q',_,c3,rfl,fun _=>⟨fun z V'=>∃i:Nat,z.2.2=(i:Int)/\i<=S.length/\z.1=Sec.anyS t p (S.take i)/\z.2.1=Sec.allS t p (S.take i),fun z=>(S.length - z.2.2).toNat,⟨(false,true,0),by and_intros <;> rfl,0,rfl,Nat.zero_le _,rfl,rfl⟩,?_⟩⟩
 rintro ⟨z1,z2,z3⟩ V7 l7 ⟨i,e,hi,f1,f2⟩
 dsimp only at e f1 f2 ⊢
 subst e f1 f2
 have L7:=L5.trans (l6.trans l7)
 refine ⟨rfl,fun hlt=>?_,fun hlt V10 l10=>(c_Classes _ _).mono ?_⟩
 ·have hlt:i < S.length:=by have:=of_decide_eq_true hlt; omega
  have w1:i64.wrap ((i:Int) + 1)=((i + 1:Nat):Int):=by rw [i64w (by omega)]; rfl
  obtain ⟨ps,x,y,qq,x',y',qq',a,hadr,g0,g1,g2,g3,g4,g5,gu⟩:=lst_rpk (hS.le l7 fun _ _ g=>RPk.le g l7) hlt
  rw [w1]
  simp only [Int.toNat_natCast]
  refine ⟨ps,⟨by omega,by omega⟩,x,y,qq,x',y',qq',a,hadr,g0,g1,g2,g3,g4,g5,fun V8 l8=>(c_bsp_Toward (p:=p) (v:=S[i]) (s1.mono (by omega)) (s2.mono (by omega)) gu.2.1 gu.2.2 (h.le (L7.trans l8)) ha (hp0.le (L7.trans l8)) (gu.1.le l8)).mono ?_⟩
  rintro r V9 l9 rfl
  refine ⟨_,_,rfl,fun k=>⟨(true,_,((i + 1:Nat):Int)),by dsimp only; omega,by and_intros <;> first | rfl | trivial,i + 1,rfl,by omega,?_,?_⟩,fun k=>⟨(_,false,((i + 1:Nat):Int)),by dsimp only; omega,by and_intros <;> first | rfl | trivial,i + 1,rfl,by omega,?_,?_⟩⟩
  ·rw [anyS_take hlt,k,Bool.or_true]
  ·rw [allS_take hlt,k,Bool.and_true]; rfl
  ·rw [anyS_take hlt,k,Bool.or_false]; rfl
  ·rw [allS_take hlt,k,Bool.and_false]
 ·have hlt:i=S.length:=by have:=of_decide_eq_false hlt; omega
  subst hlt
  rintro r V11 l11 rfl
  refine ⟨_,rfl,fun V12 l12=>⟨_,rfl,?_⟩⟩
  rw [List.take_length]
  have:(if (Sec.anyS t p S && Sec.allS t p S)=true then (2:Int) else if Sec.anyS t p S=true then 1 else 0)=clsI (Sec.anyS t p S) (Sec.allS t p S):=by
   unfold clsI
   cases e:Sec.allS t p S
   ·simp
   ·rw [all_any ne e]; rfl
  rw [this]
  exact classIs_of ry sm cv
end Go.Proofs.Tryz
/- Plain: lists of nodes that are read well; trees that are laid out in order. -/
namespace Go.Proofs.Tryz
open Go.Eng Go.Big
theorem prt_bad (l:List Nd):∀(f:Nat) (n:Int) (s:RS),s.bad=true->(prt l f n s).2.bad=true
 | 0,_,_,h=>h
 | f + 1,n,s,h=>by
  simp only [prt]
  split
  ·exact h
  ·split
   ·exact h
   ·split
    ·rfl
    ·split
     ·split
      ·exact prt_bad l f _ _ (prt_bad l f _ _ h)
      ·rfl
     ·rfl
/-- Node n of the list stands for the tree. -/
def Rp (l:List Nd):Int->Tr->Prop
 | n,.leaf i=>n=(if i then -2 else -1)
 | n,.node ln a b=>∃(k:Nat) (x:Nd),n=(k:Int)/\l[k]?=some x/\x.ln=ln/\okL ln=true/\Rp l x.left a/\Rp l x.right b
/-- What is read well. -/
theorem prt_rp (l:List Nd):∀(f:Nat) (n:Int) (s:RS),s.seen.count false < f->(prt l f n s).2.bad=false->Rp l n (prt l f n s).1/\(prt l f n s).2.cnt=s.cnt + (prt l f n s).1.size
 | 0,_,_,h,_=>by omega
 | f + 1,n,s,hf,h=>by
  simp only [prt] at h ⊢
  by_cases n2:n=-2
  ·rw [if_pos n2]; exact ⟨n2,rfl⟩
  rw [if_neg n2] at h ⊢
  by_cases n1:n=-1
  ·rw [if_pos n1]; exact ⟨n1,rfl⟩
  rw [if_neg n1] at h ⊢
  by_cases n0:n < 0
  ·rw [if_pos n0] at h; cases h
  rw [if_neg n0] at h ⊢
  split at h
  ·rename_i x hx hs
   by_cases ho:okL x.ln=true
   ·rw [if_pos ho] at h ⊢
    dsimp only at h ⊢
    have hb:(prt l f x.left ⟨s.seen.set n.toNat true,s.cnt + 1,s.bad⟩).2.bad=false:=by
     cases e:(prt l f x.left ⟨s.seen.set n.toNat true,s.cnt + 1,s.bad⟩).2.bad
     ·rfl
     ·have:=prt_bad l f x.right _ e
      rw [h] at this; cases this
    have hc:=count_set hs
    obtain ⟨i1,i2⟩:=prt_rp l f x.left _ (by dsimp only; omega) hb
    have hm:=(prt_mono l f x.left ⟨s.seen.set n.toNat true,s.cnt + 1,s.bad⟩).1
    dsimp only at i2 hm
    obtain ⟨j1,j2⟩:=prt_rp l f x.right _ (by omega) h
    exact ⟨⟨n.toNat,x,by omega,hx,rfl,ho,i1,j1⟩,by simp only [Tr.size]; omega⟩
   ·rw [if_neg ho] at h; cases h
  ·cases h
theorem ofT_rp {l:List Nd} {root:Int} {t:Tr} (h:ofT l root=some t):Rp l root t/\l.length=t.size/\t.All fun x=>okL x=true:=by
 unfold ofT at h
 split at h
 ·cases h
 ·dsimp only at h
  split at h
  ·cases h
  ·rename_i hb
   cases h
   have hb':(prt l (l.length + 1) root ⟨List.replicate l.length false,0,false⟩).2.bad=false/\(prt l (l.length + 1) root ⟨List.replicate l.length false,0,false⟩).2.cnt=l.length:=by
    constructor
    ·cases e:(prt l (l.length + 1) root ⟨List.replicate l.length false,0,false⟩).2.bad
     ·rfl
     ·exact absurd (.inl e) hb
    ·by_cases e:(prt l (l.length + 1) root ⟨List.replicate l.length false,0,false⟩).2.cnt=l.length
     ·exact e
     ·exact absurd (.inr e) hb
   obtain ⟨h1,h2⟩:=prt_rp l (l.length + 1) root ⟨List.replicate l.length false,0,false⟩ (by simp) hb'.1
   have ok:∀{t:Tr} {n:Int},Rp l n t->t.All fun x=>okL x=true:=by
    intro t
    induction t with
    | leaf i=>intro n _; trivial
    | node ln a b iha ihb=>rintro n ⟨k,x,_,_,_,ho,ha,hb⟩; exact ⟨ho,iha ha,ihb hb⟩
   refine ⟨h1,?_,ok h1⟩
   have:=hb'.2
   rw [h2] at this
   dsimp only at this
   omega
end Go.Proofs.Tryz
/- Contracts: package locate. -/
namespace Go.Proofs.Tryz
open Go.Eng Go.Big
/-- A point of package api in any form, that is read as p. -/
def ApS (V:View) (w:Value) (p:Rat × Rat):Prop:=(∃b q n c q' n' c' d r m e r' m' e',w=.agg #[.bool b,.slice q n c,.slice q' n' c',.bool d,.slice r m e,.slice r' m' e']) /\
 ∀V1,V.Le V1->Acts prog 75 #[w] V1 fun r V'=>RPt V' r p.1 p.2
theorem ApS.le {V V':View} {w:Value} {p:Rat × Rat} (h:ApS V w p) (l:V.Le V'):ApS V' w p:=⟨h.1,fun V1 l1=>h.2 V1 (l.trans l1)⟩
theorem ApS.of {V:View} {w:Value} {p:Rat × Rat} (h:RAP V w p.1 p.2) {k:Nat} (s1:Sz k p.1) (s2:Sz k p.2) (hk:k<=1099511627776):ApS V w p:=by
 refine ⟨?_,fun V1 l1=>c_geo_PtOf (h.le l1) s1 s2 hk⟩
 obtain ⟨b,q,n,c,q',n',c',d,r,m,e,r',m',e',rfl,-⟩:=h
 exact ⟨_,_,_,_,_,_,_,_,_,_,_,_,_,_,rfl⟩
theorem ApS.raw {V:View} {b d:Bool} {q q' r r':OA} {n c n' c' m e m' e':Nat} {xs ys us vs:List Nat} (h1:RD V q n c xs) (h2:RD V q' n' c' ys) (h3:RD V r m e us) (h4:RD V r' m' e' vs) (k1:xs.length<=1000000) (k2:ys.length<=1000000) (k3:us.length<=1000000) (k4:vs.length<=1000000) :
  ApS V (.agg #[.bool b,.slice q n c,.slice q' n' c',.bool d,.slice r m e,.slice r' m' e']) (mkRat (ival b xs) (val ys),mkRat (ival d us) (val vs)):=by
 refine ⟨⟨_,_,_,_,_,_,_,_,_,_,_,_,_,_,rfl⟩,fun V0 l0=>?_⟩
 refine vc_geo_PtOf b q n c q' n' c' d r m e r' m' e' V0 _ fun V1 l1=>(c_frac_Of' b (h1.le (l0.trans l1)) (h2.le (l0.trans l1)) (by omega) (by omega)).mono ?_
 rintro r V2 l2 g
 have g0:=g
 obtain ⟨x1,x2,x3,rfl⟩:=g.shape
 refine ⟨_,_,_,rfl,fun V3 l3=>(c_frac_Of' d (h3.le (l0.trans (l1.trans (l2.trans l3)))) (h4.le (l0.trans (l1.trans (l2.trans l3)))) (by omega) (by omega)).mono ?_⟩
 rintro r V4 l4 g'
 have g0':=g'
 obtain ⟨y1,y2,y3,rfl⟩:=g'.shape
 exact ⟨_,_,_,rfl,fun V5 l5=>⟨_,_,_,_,_,_,rfl,g0.le (l3.trans (l4.trans l5)),g0'.le l5⟩⟩
theorem ApS.zero {V:View}:ApS V (.agg #[.bool false,.slice none 0 0,.slice none 0 0,.bool false,.slice none 0 0,.slice none 0 0]) (0,0):=by
 have e:mkRat (ival false []) (val [])=0:=by decide
 have:=@ApS.raw V false false none none none none 0 0 0 0 0 0 0 0 [] [] [] [] RD.nil RD.nil RD.nil RD.nil (by decide) (by decide) (by decide) (by decide)
 rw [e] at this
 exact this
theorem okL_ne {l:L3} (h:okL l=true):¬ (l.1=0/\l.2.1=0):=by
 unfold okL at h
 rw [Bool.and_eq_true,decide_eq_true_iff] at h
 exact h.1
theorem c_locate_Class {V:View} {v w:Value} {root:Int} {l:List Nd} (hb:∀x ∈ l,Bd x.ln) (h:AT V v root l) {p:Rat × Rat} (hp:ApS V w p) (s1:Sz 100000 p.1) (s2:Sz 100000 p.2) (hs:∀t,ofT l root=some t->t.size < 25) (hso:∀t,ofT l root=some t->∀n c,SortsP n c (raysL (Sec.metL t p)))
  {y:Value} (hy:Sent V 0 y) :
  Acts prog 18 #[v,w] V fun r V'=>(ofT l root=none->r=.tuple #[.int .i64 0,y])/\∀t,ofT l root=some t->∃c,r=.tuple #[.int .i64 c,.nilIface]/\ClassIs t p c:=by
 have h0:=h
 obtain ⟨q,n,c,rfl,-⟩:=h
 have hp0:=hp
 obtain ⟨⟨b,q1,n1,c1,q2,n2,c2,d,r,m,e,r',m',e',rfl⟩,hp1⟩:=hp
 refine vc_locate_Class root q n c b q1 n1 c1 q2 n2 c2 d r m e r' m' e' V _ fun V1 l1=>(c_bsp_Of' hb (h0.le l1)).mono ?_
 rintro r V2 l2 ⟨a,rfl,ha⟩
 have l02:=l1.trans l2
 refine ⟨_,_,rfl,fun g=>⟨y,⟨_,rfl,hy.le l02⟩,fun V3 l3=>?_⟩,fun g V4 l4=>(hp1 V4 (l02.trans l4)).mono ?_⟩
 ·have g:ofT l root=none:=by cases e:ofT l root with
   | none=>rfl
   | some t=>rw [e] at g; cases g
  exact ⟨fun _=>rfl,fun t ht=>by rw [g] at ht; cases ht⟩
 ·cases e:ofT l root with
  | none=>rw [e] at g; cases g
  | some t=>
   rintro r V5 l5 gp
   have gp0:=gp
   obtain ⟨_,_,_,_,_,_,rfl,-⟩:=gp
   have ok:=(ofT_rp e).2.2
   refine ⟨_,_,_,_,_,_,rfl,fun V6 l6=>(c_bsp_Class s1 s2 ((ha t e).le (l4.trans (l5.trans l6))) (ofT_all hb e) (ok.imp fun _ h=>okL_ne h) (hs t e) (hso t e) (gp0.le l6)).mono ?_⟩
   rintro r V7 l7 ⟨c,rfl,hc⟩
   exact ⟨c,rfl,fun V8 l8=>⟨(fun h=>by cases h),fun t' ht=>by cases ht; exact ⟨c,rfl,hc⟩⟩⟩
/-- What Toward and Leaf return: the code of a leaf, or 0. -/
def codeI (x:Bool × Bool):Int:=if x.2 then (if x.1 then -2 else -1) else 0
theorem c_locate_Toward {V:View} {v w u:Value} {root:Int} {l:List Nd} (hb:∀x ∈ l,Bd x.ln) (h:AT V v root l) {p d:Rat × Rat} (hp:ApS V w p) (hd:ApS V u d) (s1:Sz 300000 p.1) (s2:Sz 300000 p.2) (s3:Sz 300000 d.1) (s4:Sz 300000 d.2)
  {y:Value} (hy:Sent V 0 y) :
  Acts prog 28 #[v,w,u] V fun r V'=>(ofT l root=none->r=.tuple #[.int .i64 0,.bool false,y])/\∀t,ofT l root=some t->r=.tuple #[.int .i64 (codeI (Sec.tow t p d)),.bool (Sec.tow t p d).2,.nilIface]:=by
 have h0:=h
 obtain ⟨q,n,c,rfl,-⟩:=h
 obtain ⟨⟨b,q1,n1,c1,q2,n2,c2,d1,r,m,e,r',m',e',rfl⟩,hp1⟩:=hp
 obtain ⟨⟨b',q3,n3,c3,q4,n4,c4,d2,q5,n5,c5,q6,n6,c6,rfl⟩,hd1⟩:=hd
 refine vc_locate_Toward root q n c b q1 n1 c1 q2 n2 c2 d1 r m e r' m' e' b' q3 n3 c3 q4 n4 c4 d2 q5 n5 c5 q6 n6 c6 V _ fun V1 l1=>(c_bsp_Of' hb (h0.le l1)).mono ?_
 rintro r V2 l2 ⟨a,rfl,ha⟩
 have l02:=l1.trans l2
 refine ⟨_,_,rfl,fun g=>⟨y,⟨_,rfl,hy.le l02⟩,fun V3 l3=>?_⟩,fun g V4 l4=>(hp1 V4 (l02.trans l4)).mono ?_⟩
 ·have g:ofT l root=none:=by cases e:ofT l root with
   | none=>rfl
   | some t=>rw [e] at g; cases g
  exact ⟨fun _=>rfl,fun t ht=>by rw [g] at ht; cases ht⟩
 ·cases e:ofT l root with
  | none=>rw [e] at g; cases g
  | some t=>
   rintro r V5 l5 gp
   have gp0:=gp
   obtain ⟨_,_,_,_,_,_,rfl,-⟩:=gp
   refine ⟨_,_,_,_,_,_,rfl,fun V6 l6=>(hd1 V6 (l02.trans (l4.trans (l5.trans l6)))).mono ?_⟩
   rintro r V7 l7 gd
   have gd0:=gd
   obtain ⟨_,_,_,_,_,_,rfl,-⟩:=gd
   refine ⟨_,_,_,_,_,_,rfl,fun V8 l8=>(c_bsp_Toward s1 s2 s3 s4 ((ha t e).le (l4.trans (l5.trans (l6.trans (l7.trans l8))))) (ofT_all hb e) (gp0.le (l6.trans (l7.trans l8))) (gd0.le l8)).mono ?_⟩
   rintro r V9 l9 rfl
   have key:∀z:Int,codeI (Sec.tow t p d)=z->∀b,(Sec.tow t p d).2=b->(some t=none->Value.tuple #[.int .i64 z,.bool b,.nilIface]=.tuple #[.int .i64 0,.bool false,y])/\∀t',some t=some t'->Value.tuple #[.int .i64 z,.bool b,.nilIface]=.tuple #[.int .i64 (codeI (Sec.tow t' p d)),.bool (Sec.tow t' p d).2,.nilIface]:=by
    rintro z rfl b rfl
    exact ⟨(fun h=>by cases h),fun t' ht=>by cases ht; rfl⟩
   refine ⟨_,_,rfl,fun k V10 l10=>key _ ?_ _ ?_,fun k=>⟨fun k' V11 l11=>key _ ?_ _ ?_,fun k' V12 l12=>key _ ?_ _ ?_⟩⟩ <;> simp_all [codeI]
theorem c_locate_Leaf {V:View} {v w:Value} {root:Int} {l:List Nd} (hb:∀x ∈ l,Bd x.ln) (h:AT V v root l) {p:Rat × Rat} (hp:ApS V w p) (s1:Sz 300000 p.1) (s2:Sz 300000 p.2) {y:Value} (hy:Sent V 0 y) :
  Acts prog 27 #[v,w] V fun r V'=>(ofT l root=none->r=.tuple #[.int .i64 0,.bool false,y])/\∀t,ofT l root=some t->r=.tuple #[.int .i64 (codeI (Sec.tow t p (0,0))),.bool (Sec.tow t p (0,0)).2,.nilIface]:=by
 have h0:=h
 obtain ⟨q,n,c,rfl,-⟩:=h
 have hp0:=hp
 obtain ⟨⟨b,q1,n1,c1,q2,n2,c2,d1,r,m,e,r',m',e',rfl⟩,hp1⟩:=hp
 refine vc_locate_Leaf root q n c b q1 n1 c1 q2 n2 c2 d1 r m e r' m' e' V _ fun V1 l1=>(c_locate_Toward (d:=(0,0)) hb (h0.le l1) (hp0.le l1) ApS.zero s1 s2 sz_zero' sz_zero' (hy.le l1)).mono ?_
 rintro r V2 l2 ⟨g1,g2⟩
 cases e:ofT l root with
 | none=>
  rw [g1 e]
  exact ⟨_,_,_,rfl,fun V3 l3=>⟨fun _=>rfl,fun t ht=>by cases ht⟩⟩
 | some t=>
  rw [g2 t e]
  exact ⟨_,_,_,rfl,fun V3 l3=>⟨(fun h=>by cases h),fun t' ht=>by cases ht; rfl⟩⟩
end Go.Proofs.Tryz
/- Contracts: Half, Mid, Sample, Cross of the reference; it reads right fragments. -/
namespace Go.Proofs.Tryz
open Go.Eng Go.Big
theorem c_ref04_Cross {V:View} {v w:Value} {x y x' y':Rat} (h:RP V v x y) (h':RP V w x' y') {k:Nat} (s1:Sz k x) (s2:Sz k y) (s3:Sz k x') (s4:Sz k y') (hk:4 * k + 4 < 274877906944) :
  Acts prog 87 #[v,w] V fun r V'=>RQ V' r (x * y' - y * x'):=by
 obtain ⟨_,_,_,_,_,_,_,_,_,_,_,_,rfl,h1,h2⟩:=h
 obtain ⟨_,_,_,_,_,_,_,_,_,_,_,_,rfl,h3,h4⟩:=h'
 refine vc_ref04_Cross _ _ _ _ _ _ _ _ _ _ _ _ _ _ _ _ _ _ _ _ _ _ _ _ _ _ _ _ V _ fun V1 l1=>(c_num_Times (h1.le l1) (h4.le l1) s1 s4 (by omega)).mono ?_
 rintro r V2 l2 g
 have g0:=g
 obtain ⟨_,_,_,_,_,_,rfl⟩:=g.shape
 refine ⟨_,_,_,_,_,_,_,rfl,fun V3 l3=>(c_num_Times (h2.le (l1.trans (l2.trans l3))) (h3.le (l1.trans (l2.trans l3))) s2 s3 (by omega)).mono ?_⟩
 rintro r V4 l4 g'
 have g0':=g'
 obtain ⟨_,_,_,_,_,_,rfl⟩:=g'.shape
 refine ⟨_,_,_,_,_,_,_,rfl,fun V5 l5=>(c_num_Sub (g0.le (l3.trans (l4.trans l5))) (g0'.le l5) (s1.mul s4) (s2.mul s3) (by omega)).mono ?_⟩
 rintro r V6 l6 q
 have q0:=q
 obtain ⟨_,_,_,_,_,_,rfl⟩:=q.shape
 exact ⟨_,_,_,_,_,_,_,rfl,fun V7 l7=>q0.le l7⟩
/-- A right fragment of package api in normal form. -/
theorem RFa.raw {V:View} {v:Value} {l:L3} {s:Sp} (h:RFa V v l s) (ho:FOk l s) {k:Nat} (sl:SzL k l) (ss:s.sz k) (hk:k<=1000000):∃f:FW,RFw V v f/\f.ok=true/\f.ln=l/\f.sp=s/\f.short:=by
 obtain ⟨b1,p1,n1,c1,b2,p2,n2,c2,b3,p3,n3,c3,b,p,n,c,p',n',c',d,q,m,e,q',m',e',rfl,h1,h2⟩:=h
 obtain ⟨_,_,_,_,_,_,_,_,_,el,x1,x2,x3⟩:=h1
 have el:=congrArg Array.toList (Value.agg.inj el)
 simp only [List.cons.injEq,Value.bool.injEq,Value.slice.injEq,and_true] at el
 obtain ⟨rfl,⟨rfl,rfl,rfl⟩,rfl,⟨rfl,rfl,rfl⟩,rfl,rfl,rfl,rfl⟩:=el
 obtain ⟨_,_,_,_,_,_,_,_,_,_,_,_,_,_,es,y1,y2⟩:=h2
 have es:=congrArg Array.toList (Value.agg.inj es)
 simp only [List.cons.injEq,Value.bool.injEq,Value.slice.injEq,and_true] at es
 obtain ⟨rfl,⟨rfl,rfl,rfl⟩,⟨rfl,rfl,rfl⟩,rfl,⟨rfl,rfl,rfl⟩,⟨rfl,rfl,rfl⟩⟩:=es
 obtain ⟨ok,can,emp⟩:=ho
 obtain ⟨w1,us,vs,r1,o1,e1,z1⟩:=y1.raw can.1
 obtain ⟨w2,ws,ts,r2,o2,e2,z2⟩:=y2.raw can.2
 have i1:=r1
 have i2:=r2
 obtain ⟨_,_,_,_,_,_,f1,-,-⟩:=i1
 obtain ⟨_,_,_,_,_,_,f2,-,-⟩:=i2
 have f1:=congrArg Array.toList (Value.agg.inj f1)
 have f2:=congrArg Array.toList (Value.agg.inj f2)
 simp only [List.cons.injEq,Value.bool.injEq,Value.slice.injEq,and_true] at f1 f2
 obtain ⟨rfl,-⟩:=f1
 obtain ⟨rfl,-⟩:=f2
 have len:∀{z:Int},Sz k (z:Rat)->(digs z.natAbs).length<=1000000:=fun h=>Nat.le_trans (digs_len_bits h.1) hk
 have d1:=z1 k ss.1
 have d2:=z2 k ss.2
 refine ⟨⟨decide (l.1 < 0),digs l.1.natAbs,decide (l.2.1 < 0),digs l.2.1.natAbs,decide (l.2.2 < 0),digs l.2.2.natAbs,b,us,vs,d,ws,ts,s.a,s.b⟩,⟨_,_,_,_,_,_,_,_,_,_,_,_,_,_,_,_,_,_,_,_,_,rfl,⟨_,_,_,_,_,_,_,_,_,rfl,x1,x2,x3⟩,⟨_,_,_,_,_,_,_,_,_,_,_,_,rfl,r1,r2⟩⟩,?_,?_,?_,⟨len sl.1,len sl.2.1,len sl.2.2,Nat.le_trans d1.1 hk,Nat.le_trans d1.2 hk,Nat.le_trans d2.1 hk,Nat.le_trans d2.2 hk⟩⟩
 ·have e3:spW b us vs d ws ts s.a s.b=s:=by unfold spW; rw [e1,e2]
  unfold FW.ok okW
  dsimp only
  rw [okLn_okL,o1,o2,e3,emp]
  show okL l && true=true
  rw [ok]; rfl
 ·unfold FW.ln lnW
  dsimp only
  rw [ival_digs,ival_digs,ival_digs]
 ·unfold FW.sp spW
  dsimp only
  rw [e1,e2]
end Go.Proofs.Tryz
/- By program: the conditions of the functions, from their loaded code. -/
namespace Go.Proofs.Tryz
open Go.Eng
open Go.Value renaming int→I,pointer→P,slice→S,agg→A,bool→B,tuple→T
open Go.IntKind renaming i64→J,u64→U,u32→W
set_option maxRecDepth 100000
theorem vc_ref14_At (a0:OA) (d:Bool) (g:OA) (i k:Nat) (l:OA) (m n:Nat) (e:Bool) (o:OA) (p q:Nat) (r:OA) (s t:Nat) (V:View) (R:VR) (h:(∃x:(OA)->Nat->VP,(∃(a1:(OA)) (c8:Nat),(sm 0/\((a0:OA)=a1)/\s12 d g i k l m n e o p q r (sm s/\sm t))/\x a1 c8 V)/\∀(a:(OA)) (y:Nat) (b:View),V.Le b->x a y b->(true=true/\(a.isSome=true)/\(a.isSome=true)/\(∃z,(∃a2,addrAdd a 0=some a2/\b.at a2 (B z))/\(((!z)=true->(a.isSome=true)/\(a.isSome=true)/\(∃a3,∃a4 a5 a6,∃a7,∃a8 a9 b0,∃b1,∃b2 b3 b4,∃f,addrAdd a 2=some f/\b.at (f.add 0) (B a3)/\b.at (f.add 1) (S a4 a5 a6)/\b.at (f.add 2) (B a7)/\b.at (f.add 3) (S a8 a9 b0)/\b.at (f.add 4) (B b1)/\b.at (f.add 5) (S b2 b3 b4)/\(Ca b 85 #[A #[B a3,S a4 a5 a6,B a7,S a8 a9 b0,B b1,S b2 b3 b4],A #[B d,S g i k,S l m n,B e,S o p q,S r s t]] fun c9 u=>∃w,c9=I J w/\(((w == (1:Int))=true->(a.isSome=true)/\(a.isSome=true)/\(∃b5,(∃b6,addrAdd a 8=some b6/\u.at b6 (P b5))/\(∃(b7:(OA)) (b8:Nat),b8 < y/\(sm 0/\((b5:OA)=b7)/\s12 d g i k l m n e o p q r (sm s/\sm t))/\x b7 b8 u)))/\((w == (1:Int))=false->(((w == (-1:Int))=true->(a.isSome=true)/\(a.isSome=true)/\(∃b9,(∃c0,addrAdd a 9=some c0/\u.at c0 (P b9))/\(∃(c1:(OA)) (c2:Nat),c2 < y/\(sm 0/\((b9:OA)=c1)/\s12 d g i k l m n e o p q r (sm s/\sm t))/\x c1 c2 u)))/\((w == (-1:Int))=false->(Rt u R (T #[B false,B false])))))))))/\((!z)=false->(a.isSome=true)/\(a.isSome=true)/\(∃c4,(∃c5,addrAdd a 1=some c5/\b.at c5 (B c4))/\(Rt b R (T #[B c4,B true]))))))))):
 Acts prog 29 #[P a0,A #[B d,S g i k,S l m n,B e,S o p q,S r s t]] V R:=
 fd (LF:=LF0) (RF:=[1000015]) [(1,⟨(OA),true,[3],[3],fun c7=>[(0,.c (.v (P c7)))],fun c7=>[]⟩)] [] func29 h
theorem vc_ref14_Toward (b9:OA) (b:Bool) (k:OA) (l m:Nat) (n:OA) (o p:Nat) (d:Bool) (q:OA) (r s:Nat) (t:OA) (u w:Nat) (e:Bool) (x:OA) (y z:Nat) (a0:OA) (a1 a2:Nat) (f:Bool) (a3:OA) (a4 a5:Nat) (a6:OA) (a7 a8:Nat) (V:View) (R:VR) (h:(∃b4:(OA)->Nat->VP,(∃(c0:(OA)) (k2:Nat),(sm 0/\sm 0/\((b9:OA)=c0)/\s12 b k l m n o p d q r s t (s12 u w e x y z a0 a1 a2 f a3 a4 (s3 a5 a6 a7 (sm a8))))/\b4 c0 k2 V)/\∀(a:(OA)) (b6:Nat) (g:View),V.Le g->b4 a b6 g->(true=true/\(a.isSome=true)/\(a.isSome=true)/\(∃b7,(∃c1,addrAdd a 0=some c1/\g.at c1 (B b7))/\(((!b7)=true->(a.isSome=true)/\(a.isSome=true)/\(∃c2,∃c3 c4 c5,∃c6,∃c7 c8 c9,∃d0,∃d1 d2 d3,∃a9,addrAdd a 2=some a9/\g.at (a9.add 0) (B c2)/\g.at (a9.add 1) (S c3 c4 c5)/\g.at (a9.add 2) (B c6)/\g.at (a9.add 3) (S c7 c8 c9)/\g.at (a9.add 4) (B d0)/\g.at (a9.add 5) (S d1 d2 d3)/\(Ca g 85 #[A #[B c2,S c3 c4 c5,B c6,S c7 c8 c9,B d0,S d1 d2 d3],A #[B b,S k l m,S n o p,B d,S q r s,S t u w]] fun k3 i=>∃b5,k3=I J b5/\(∃b8:Int->VP,(((b5 == (0:Int))=true->(a.isSome=true)/\(a.isSome=true)/\(∃d4,∃d5 d6 d7,∃d8,∃d9 e0 e1,∃e2,∃e3 e4 e5,∃b0,addrAdd a 2=some b0/\i.at (b0.add 0) (B d4)/\i.at (b0.add 1) (S d5 d6 d7)/\i.at (b0.add 2) (B d8)/\i.at (b0.add 3) (S d9 e0 e1)/\i.at (b0.add 4) (B e2)/\i.at (b0.add 5) (S e3 e4 e5)/\(Ca i 26 #[A #[B d4,S d5 d6 d7,B d8,S d9 e0 e1,B e2,S e3 e4 e5]] fun k4 k5=>∃e6,∃e7 e8 e9,∃f0 f1 f2,∃f3,∃f4 f5 f6,∃f7 f8 f9,k4=A #[B e6,S e7 e8 e9,S f0 f1 f2,B f3,S f4 f5 f6,S f7 f8 f9]/\(Ca k5 87 #[A #[B e6,S e7 e8 e9,S f0 f1 f2,B f3,S f4 f5 f6,S f7 f8 f9],A #[B e,S x y z,S a0 a1 a2,B f,S a3 a4 a5,S a6 a7 a8]] fun k6 k7=>∃g0,∃g1 g2 g3,∃g4 g5 g6,k6=A #[B g0,S g1 g2 g3,S g4 g5 g6]/\(Ca k7 86 #[A #[B g0,S g1 g2 g3,S g4 g5 g6]] fun k8 k9=>∃g7,k8=I J g7/\(∃g8:Int,(s3 a 0 0 ((g7=g8)/\s12 b k l m n o p d q r s t (s12 u w e x y z a0 a1 a2 f a3 a4 (s3 a5 a6 a7 (sm a8)))))/\b8 g8 k9))))))/\((b5 == (0:Int))=false->(∃g9:Int,(s3 a 0 0 ((b5=g9)/\s12 b k l m n o p d q r s t (s12 u w e x y z a0 a1 a2 f a3 a4 (s3 a5 a6 a7 (sm a8)))))/\b8 g9 i)))/\∀(b2:Int) (b1:View),i.Le b1->b8 b2 b1->(true=true/\(((b2 == (1:Int))=true->(a.isSome=true)/\(a.isSome=true)/\(∃i0,(∃i1,addrAdd a 8=some i1/\b1.at i1 (P i0))/\(∃(i2:(OA)) (i3:Nat),i3 < b6/\(sm 0/\sm 0/\((i0:OA)=i2)/\s12 b k l m n o p d q r s t (s12 u w e x y z a0 a1 a2 f a3 a4 (s3 a5 a6 a7 (sm a8))))/\b4 i2 i3 b1)))/\((b2 == (1:Int))=false->(((b2 == (-1:Int))=true->(a.isSome=true)/\(a.isSome=true)/\(∃i4,(∃i5,addrAdd a 9=some i5/\b1.at i5 (P i4))/\(∃(i6:(OA)) (i7:Nat),i7 < b6/\(sm 0/\sm 0/\((i4:OA)=i6)/\s12 b k l m n o p d q r s t (s12 u w e x y z a0 a1 a2 f a3 a4 (s3 a5 a6 a7 (sm a8))))/\b4 i6 i7 b1)))/\((b2 == (-1:Int))=false->(Rt b1 R (T #[B false,B false])))))))))))/\((!b7)=false->(a.isSome=true)/\(a.isSome=true)/\(∃i9,(∃k0,addrAdd a 1=some k0/\g.at k0 (B i9))/\(Rt g R (T #[B i9,B true]))))))))):
 Acts prog 30 #[P b9,A #[B b,S k l m,S n o p,B d,S q r s,S t u w],A #[B e,S x y z,S a0 a1 a2,B f,S a3 a4 a5,S a6 a7 a8]] V R:=
 fd (LF:=LF0) (RF:=[1000015]) [(1,⟨(OA),true,[4,5],[4,5],fun b3=>[(0,.c (.v (P b3)))],fun b3=>[]⟩)] [(4,⟨Int,false,[0,4,5],[4,5],fun b3=>[(8,.c (.v (I J b3)))],fun b3=>[]⟩)] func30 h
end Go.Proofs.Tryz
/- Contracts of the reference: half, Angle, Opp, Primitive (directions); At, Toward (trees). -/
namespace Go.Proofs.Tryz
open Go.Eng Go.Big
theorem c_num_Sq {V:View} {v:Value} {q:Rat} (h:RQ V v q):Acts prog 86 #[v] V fun r V'=>r=.int .i64 q.num.sign:=by
 obtain ⟨_,_,_,_,_,_,rfl,h1,-⟩:=h
 exact c_num_S q h1
/-! the leaf of a point, and that into which a direction leads -/
theorem sdv_zero (l:L3) (p:Rat × Rat):Sec.sdv l p (0,0)=(valL l p.1 p.2).num.sign:=by
 unfold Sec.sdv
 by_cases h:(valL l p.1 p.2).num.sign=0
 ·rw [if_pos h,h]
  have:Sec.nv l (0,0)=0:=by unfold Sec.nv; show (l.1:Rat) * 0 + (l.2.1:Rat) * 0=0; grind
  rw [this]; rfl
 ·rw [if_neg h]
theorem c_ref14_At {pv:Value} {p:Rat × Rat} {k:Nat} (hk1:1000<=k) (hk:16 * k + 16 < 274877906944) (s1:Sz k p.1) (s2:Sz k p.2) {t:Tr} {V:View} {q:OA} (h:RW V q t) (ha:t.All Bd) (hp:RP V pv p.1 p.2) :
  Acts prog 29 #[.pointer q,pv] V fun r V'=>r=.tuple #[.bool (Sec.tow t p (0,0)).1,.bool (Sec.tow t p (0,0)).2]:=by
 have hp0:=hp
 obtain ⟨_,_,_,_,_,_,_,_,_,_,_,_,rfl,-⟩:=hp
 refine vc_ref14_At q _ _ _ _ _ _ _ _ _ _ _ _ _ _ V _ ⟨fun z k V'=>∃t',RW V' z t'/\t'.All Bd/\k=t'.size/\Sec.tow t' p (0,0)=Sec.tow t p (0,0),⟨q,t.size,by and_intros <;> rfl,t,h,ha,rfl,rfl⟩,?_⟩
 rintro z m V1 l1 ⟨t',h',ha',rfl,e⟩
 rw [← e]
 clear e h ha t
 cases t' with
 | leaf i=>
  obtain ⟨is,g0,g1⟩:=rw_leaf h'
  exact ⟨rfl,is,is,_,g0,(fun h=>by cases h),fun _=>⟨is,is,_,g1,fun V5 l5=>rfl⟩⟩
 | node ln a b=>
  obtain ⟨bb,i,b1,p1,n1,c1,b2,p2,n2,c2,b3,p3,n3,c3,pl,pr,rfl,hb,hl,hta,htb⟩:=h'
  obtain ⟨hbd,haa,hab⟩:=ha'
  have sl:=hbd.szl
  have ha2:∀j v,([.bool b1,.slice p1 n1 c1,.bool b2,.slice p2 n2 c2,.bool b3,.slice p3 n3 c3]:List Value)[j]?=some v->V1.at (((⟨bb,0,none⟩:Addr).add 2).add j) v:=by
   intro j v hv
   rw [addadd,add_zero']
   refine blk_at (xs:=[_,_,_,_,_,_,_,_,_,_]) hb ?_
   have hj:j < 6:=(List.getElem?_eq_some_iff.1 hv).1
   match j,hj,hv with
   | 0,_,h=>exact h
   | 1,_,h=>exact h
   | 2,_,h=>exact h
   | 3,_,h=>exact h
   | 4,_,h=>exact h
   | 5,_,h=>exact h
  refine ⟨rfl,rfl,rfl,false,rdc hb 0 rfl,fun _=>⟨rfl,rfl,b1,p1,n1,c1,b2,p2,n2,c2,b3,p3,n3,c3,(⟨bb,0,none⟩:Addr).add 2,rfl,ha2 0 _ rfl,ha2 1 _ rfl,ha2 2 _ rfl,ha2 3 _ rfl,ha2 4 _ rfl,ha2 5 _ rfl,fun V2 l2=>(r_Side (hl.le l2) (hp0.le (l1.trans l2)) (k:=k) ⟨sl.1.mono hk1,sl.2.1.mono hk1,sl.2.2.mono hk1⟩ s1 s2 hk).mono ?_⟩,(fun h=>by cases h)⟩
  rintro r V3 l3 rfl
  have l13:=l2.trans l3
  have es:=sdv_zero ln p
  refine ⟨_,rfl,fun e1=>⟨rfl,rfl,pl,rdc (l13 _ _ hb) 8 rfl,pl,a.size,by simp only [Tr.size]; omega,by and_intros <;> rfl,a,hta.le l13,haa,rfl,?_⟩,fun e1=>⟨fun e2=>⟨rfl,rfl,pr,rdc (l13 _ _ hb) 9 rfl,pr,b.size,by simp only [Tr.size]; omega,by and_intros <;> rfl,b,htb.le l13,hab,rfl,?_⟩,fun e2 V13 l13=>?_⟩⟩
  ·have e1:(valL ln p.1 p.2).num.sign=1:=by simpa using e1
   simp only [Sec.tow]; rw [es,if_pos e1]
  ·have e1:¬ (valL ln p.1 p.2).num.sign=1:=by simpa using e1
   have e2:(valL ln p.1 p.2).num.sign=-1:=by simpa using e2
   simp only [Sec.tow]; rw [es,if_neg e1,if_pos e2]
  ·have e1:¬ (valL ln p.1 p.2).num.sign=1:=by simpa using e1
   have e2:¬ (valL ln p.1 p.2).num.sign=-1:=by simpa using e2
   simp only [Sec.tow]; rw [es,if_neg e1,if_neg e2]
theorem c_ref14_Toward {pv vv:Value} {p v:Rat × Rat} {k:Nat} (hk1:1000<=k) (hk:16 * k + 16 < 274877906944) (s1:Sz k p.1) (s2:Sz k p.2) (s3:Sz k v.1) (s4:Sz k v.2) {t:Tr} {V:View} {q:OA} (h:RW V q t) (ha:t.All Bd) (hp:RP V pv p.1 p.2) (hv:RP V vv v.1 v.2) :
  Acts prog 30 #[.pointer q,pv,vv] V fun r V'=>r=.tuple #[.bool (Sec.tow t p v).1,.bool (Sec.tow t p v).2]:=by
 have hp0:=hp
 have hv0:=hv
 obtain ⟨_,_,_,_,_,_,_,_,_,_,_,_,rfl,-⟩:=hp
 obtain ⟨_,_,_,_,_,_,_,_,_,_,_,_,rfl,-⟩:=hv
 refine vc_ref14_Toward q _ _ _ _ _ _ _ _ _ _ _ _ _ _ _ _ _ _ _ _ _ _ _ _ _ _ _ _ V _ ⟨fun z k V'=>∃t',RW V' z t'/\t'.All Bd/\k=t'.size/\Sec.tow t' p v=Sec.tow t p v,⟨q,t.size,by and_intros <;> rfl,t,h,ha,rfl,rfl⟩,?_⟩
 rintro z m V1 l1 ⟨t',h',ha',rfl,e⟩
 rw [← e]
 clear e h ha t
 cases t' with
 | leaf i=>
  obtain ⟨is,g0,g1⟩:=rw_leaf h'
  exact ⟨rfl,is,is,_,g0,(fun h=>by cases h),fun _=>⟨is,is,_,g1,fun V5 l5=>rfl⟩⟩
 | node ln a b=>
  obtain ⟨bb,i,b1,p1,n1,c1,b2,p2,n2,c2,b3,p3,n3,c3,pl,pr,rfl,hb,hl,hta,htb⟩:=h'
  obtain ⟨hbd,haa,hab⟩:=ha'
  have sl:=hbd.szl
  have ha2:∀{W:View},V1.Le W->∀j v,([.bool b1,.slice p1 n1 c1,.bool b2,.slice p2 n2 c2,.bool b3,.slice p3 n3 c3]:List Value)[j]?=some v->W.at (((⟨bb,0,none⟩:Addr).add 2).add j) v:=by
   intro W hW j v hv
   rw [addadd,add_zero']
   refine blk_at (xs:=[_,_,_,_,_,_,_,_,_,_]) (hW _ _ hb) ?_
   have hj:j < 6:=(List.getElem?_eq_some_iff.1 hv).1
   match j,hj,hv with
   | 0,_,h=>exact h
   | 1,_,h=>exact h
   | 2,_,h=>exact h
   | 3,_,h=>exact h
   | 4,_,h=>exact h
   | 5,_,h=>exact h
  have l0:=View.Le.refl V1
  refine ⟨rfl,rfl,rfl,false,rdc hb 0 rfl,fun _=>⟨rfl,rfl,b1,p1,n1,c1,b2,p2,n2,c2,b3,p3,n3,c3,(⟨bb,0,none⟩:Addr).add 2,rfl,ha2 l0 0 _ rfl,ha2 l0 1 _ rfl,ha2 l0 2 _ rfl,ha2 l0 3 _ rfl,ha2 l0 4 _ rfl,ha2 l0 5 _ rfl,fun V2 l2=>(r_Side (hl.le l2) (hp0.le (l1.trans l2)) (k:=k) ⟨sl.1.mono hk1,sl.2.1.mono hk1,sl.2.2.mono hk1⟩ s1 s2 hk).mono ?_⟩,(fun h=>by cases h)⟩
  rintro r V3 l3 rfl
  have l13:=l2.trans l3
  refine ⟨_,rfl,fun z _=>z=Sec.sdv ln p v,⟨fun e0=>?_,fun e0=>?_⟩,?_⟩
  ·have e0:(valL ln p.1 p.2).num.sign=0:=by simpa using e0
   refine ⟨rfl,rfl,b1,p1,n1,c1,b2,p2,n2,c2,b3,p3,n3,c3,(⟨bb,0,none⟩:Addr).add 2,rfl,ha2 l13 0 _ rfl,ha2 l13 1 _ rfl,ha2 l13 2 _ rfl,ha2 l13 3 _ rfl,ha2 l13 4 _ rfl,ha2 l13 5 _ rfl,fun V4 l4=>(c_ref04_Dir (hl.le (l13.trans l4)) sl.1 sl.2.1 sl.2.2 (by omega)).mono ?_⟩
   rintro r V5 l5 gd
   have gd0:RP V5 r (Sec.dirL ln).1 (Sec.dirL ln).2:=gd
   obtain ⟨_,_,_,_,_,_,_,_,_,_,_,_,rfl,-⟩:=gd
   refine ⟨_,_,_,_,_,_,_,_,_,_,_,_,_,_,rfl,fun V6 l6=>(c_ref04_Cross (gd0.le l6) (hv0.le (l1.trans (l13.trans (l4.trans (l5.trans l6))))) (k:=k) (sl.2.1.mono hk1) (sl.1.neg.mono hk1) s3 s4 (by omega)).mono ?_⟩
   rintro r V7 l7 gc
   have gc0:=gc
   obtain ⟨_,_,_,_,_,_,rfl⟩:=gc.shape
   refine ⟨_,_,_,_,_,_,_,rfl,fun V8 l8=>(c_num_Sq (gc0.le l8)).mono ?_⟩
   rintro r V9 l9 rfl
   refine ⟨_,rfl,_,by and_intros <;> rfl,?_⟩
   unfold Sec.sdv
   rw [if_pos e0,Sec.nv_eq]; rfl
  ·have e0:¬ (valL ln p.1 p.2).num.sign=0:=fun h=>by rw [h] at e0; cases e0
   refine ⟨_,by and_intros <;> rfl,?_⟩
   unfold Sec.sdv
   rw [if_neg e0]
  ·rintro z V10 l10 rfl
   have l110:=l13.trans l10
   refine ⟨rfl,fun e1=>⟨rfl,rfl,pl,rdc (l110 _ _ hb) 8 rfl,pl,a.size,by simp only [Tr.size]; omega,by and_intros <;> rfl,a,hta.le l110,haa,rfl,?_⟩,fun e1=>⟨fun e2=>⟨rfl,rfl,pr,rdc (l110 _ _ hb) 9 rfl,pr,b.size,by simp only [Tr.size]; omega,by and_intros <;> rfl,b,htb.le l110,hab,rfl,?_⟩,fun e2 V13 l13=>?_⟩⟩
   ·have e1:Sec.sdv ln p v=1:=by simpa using e1
    simp only [Sec.tow]; rw [if_pos e1]
   ·have e1:¬ Sec.sdv ln p v=1:=by simpa using e1
    have e2:Sec.sdv ln p v=-1:=by simpa using e2
    simp only [Sec.tow]; rw [if_neg e1,if_pos e2]
   ·have e1:¬ Sec.sdv ln p v=1:=by simpa using e1
    have e2:¬ Sec.sdv ln p v=-1:=by simpa using e2
    simp only [Sec.tow]; rw [if_neg e1,if_neg e2]
end Go.Proofs.Tryz
/- By program: the conditions of the functions, from their loaded code. -/
namespace Go.Proofs.Tryz
open Go.Eng
open Go.Value renaming int→I,pointer→P,slice→S,agg→A,bool→B,tuple→T
open Go.IntKind renaming i64→J,u64→U,u32→W
set_option maxRecDepth 100000
theorem vc_ref14_lines (a:OA) (V:View) (R:VR) (h:(a.isSome=true)/\(a.isSome=true)/\(∃w,(∃a1,addrAdd a 0=some a1/\V.at a1 (B w))/\((w=true->(Rt V R (S none 0 0)))/\(w=false->(a.isSome=true)/\(a.isSome=true)/\(∃g,∃i k l,∃m,∃n o p,∃q,∃r s t,∃c,addrAdd a 2=some c/\V.at (c.add 0) (B g)/\V.at (c.add 1) (S i k l)/\V.at (c.add 2) (B m)/\V.at (c.add 3) (S n o p)/\V.at (c.add 4) (B q)/\V.at (c.add 5) (S r s t)/\(a.isSome=true)/\(a.isSome=true)/\(∃a3,(∃a4,addrAdd a 8=some a4/\V.at a4 (P a3))/\(a.isSome=true)/\(a.isSome=true)/\(∃a5,(∃a6,addrAdd a 9=some a6/\V.at a6 (P a5))/\(Ca V 81 #[P a3] fun b3 a7=>∃a8 b b4,b3=S a8 b b4/\(∃e:List Value,a7.sl a8 e/\e.length=b * 6/\((1 + b) * 96<=140737488355328/\1<=1/\1 * 6<=([B g,S i k l,B m,S n o p,B q,S r s t]:List Value).length/\e.length=b * 6/\(∀x ∈ e,x.oneCell'=true)/\∀(b7:Nat) (b8:C->Value) (y:List Value) (u:Nat),1 + b<=u->u * 6<=(1 + b) * 6 + y.length->(Ca a7 81 #[P a5] fun b5 a9=>∃b0 d b6,b5=S b0 d b6/\(∃f:List Value,a9.sl b0 f/\f.length=d * 6/\(((1 + b) + d) * 96<=140737488355328/\1 + b<=u/\u * 6<=(([B g,S i k l,B m,S n o p,B q,S r s t]:List Value).take (1 * 6)++e++y).length/\f.length=d * 6/\(∀x ∈ f,x.oneCell'=true)/\∀(b9:Nat) (c0:C->Value) (b1:List Value) (z:Nat),(1 + b) + d<=z->z * 6<=((1 + b) + d) * 6 + b1.length->(∀a0,a9.Le a0->∀b2:Nat,(a0.blk b2 (.cells ((([B g,S i k l,B m,S n o p,B q,S r s t]:List Value).take (1 * 6)++e++y).take ((1 + b) * 6)++f++b1).toArray 61 (0,0)))->R (S (some ⟨b2,0,none⟩) ((1 + b) + d) z) a0)))))))))))))):
 Acts prog 81 #[P a] V R:=
 fd (LF:=LF0) (RF:=[1000015]) [] [] func81 h
theorem vc_ref14_Lines (a:OA) (V:View) (R:VR) (h:(Ca V 81 #[P a] fun k l=>∃b c d,k=S b c d/\(Ca l 80 #[S b c d] fun m n=>∃e f g,m=S e f g/\(Rt n R (S e f g))))):
 Acts prog 24 #[P a] V R:=
 fd (LF:=LF0) (RF:=[1000015]) [] [] func24 h
theorem vc_ref04_Canon (a:Bool) (b:OA) (c d:Nat) (e:Bool) (f:OA) (g i:Nat) (k:Bool) (l:OA) (m n:Nat) (V:View) (R:VR) (h:(Ca V 166 #[A #[B a,S b c d]] fun c1 p=>∃o,c1=I J o/\(((decide (o < (0:Int)))=true->(Ca p 53 #[A #[B a,S b c d,B e,S f g i,B k,S l m n]] fun c2 c3=>∃r,∃s t u,∃w,∃x y z,∃a0,∃a1 a2 a3,c2=A #[B r,S s t u,B w,S x y z,B a0,S a1 a2 a3]/\(Rt c3 R (T #[A #[B r,S s t u,B w,S x y z,B a0,S a1 a2 a3],B true]))))/\((decide (o < (0:Int)))=false->(((o == (0:Int))=true->(Ca p 166 #[A #[B e,S f g i]] fun c4 a5=>∃q,c4=I J q/\(((decide (q < (0:Int)))=true->(Ca a5 53 #[A #[B a,S b c d,B e,S f g i,B k,S l m n]] fun c5 c6=>∃a6,∃a7 a8 a9,∃b0,∃b1 b2 b3,∃b4,∃b5 b6 b7,c5=A #[B a6,S a7 a8 a9,B b0,S b1 b2 b3,B b4,S b5 b6 b7]/\(Rt c6 R (T #[A #[B a6,S a7 a8 a9,B b0,S b1 b2 b3,B b4,S b5 b6 b7],B true]))))/\((decide (q < (0:Int)))=false->(Rt a5 R (T #[A #[B a,S b c d,B e,S f g i,B k,S l m n],B false]))))))/\((o == (0:Int))=false->(Rt p R (T #[A #[B a,S b c d,B e,S f g i,B k,S l m n],B false])))))))):
 Acts prog 160 #[A #[B a,S b c d,B e,S f g i,B k,S l m n]] V R:=
 fd (LF:=LF0) (RF:=[1000015]) [] [] func160 h
theorem vc_ref04_Distinct (u:OA) (d w:Nat) (V:View) (R:VR) (h:(∃(a6:(Nat × Nat × (List Value) × Int)->VP) (a7:(Nat × Nat × (List Value) × Int)->Nat),(∃a3,(s5 u d w (d:Int) (none:OA) (((0:Nat)=a3.1)/\((0:Nat)=a3.2.1)/\sm 0/\((0:Int)=a3.2.2.2)/\(a3.2.2.1=[])))/\a6 a3 V)/\∀(a:Nat × Nat × (List Value) × Int) (x:View),V.Le x->a6 a x->(true=true/\(((decide (a.2.2.2 < (d:Int)))=true->(u.isSome=true)/\(0<=a.2.2.2/\a.2.2.2 < (d:Int))/\(∃c0,∃c1 c2 c3,∃c4,∃c5 c6 c7,∃c8,∃c9 d0 d1,∃z,addrAdd u (a.2.2.2.toNat * 6)=some z/\x.at (z.add 0) (B c0)/\x.at (z.add 1) (S c1 c2 c3)/\x.at (z.add 2) (B c4)/\x.at (z.add 3) (S c5 c6 c7)/\x.at (z.add 4) (B c8)/\x.at (z.add 5) (S c9 d0 d1)/\(Ca x 160 #[A #[B c0,S c1 c2 c3,B c4,S c5 c6 c7,B c8,S c9 d0 d1]] fun g8 d2=>∃e,∃f g i,∃k,∃l m n,∃o,∃p q r,∃g9,g8=T #[A #[B e,S f g i,B k,S l m n,B o,S p q r],B g9]/\(∃(b1:Int->VP) (d3:Int->Nat),(∃d4:Int,(((a.1:Nat)=a.1)/\((a.2.1:Nat)=a.2.1)/\s6 0 u d w (d:Int) a.2.2.2 (((0:Int)=d4)/\s12 a.2.2.1 e f g i k l m n o p q (sm r)))/\b1 d4 d2)/\∀(b:Int) (a4:View),d2.Le a4->b1 b a4->(true=true/\(∃b2:Bool->VP,(((decide (b < ((a.1:Nat):Int)))=true->(0<=b/\b < ((a.1:Nat):Int))/\(a.1<=a.2.1)/\(∃d5,∃d6 d7 d8,∃d9,∃e0 e1 e2,∃e3,∃e4 e5 e6,((b.toNat * 6) + 6<=a.2.2.1.length/\(a.2.2.1.drop (b.toNat * 6)).take 6=[B d5,S d6 d7 d8,B d9,S e0 e1 e2,B e3,S e4 e5 e6])/\(Ca a4 145 #[A #[B d5,S d6 d7 d8,B d9,S e0 e1 e2,B e3,S e4 e5 e6],A #[B e,S f g i,B k,S l m n,B o,S p q r]] fun i0 i1=>∃e7,i0=I J e7/\(∃e8:Bool,(((a.1:Nat)=a.1)/\((a.2.1:Nat)=a.2.1)/\s7 0 b u d w (d:Int) a.2.2.2 (((decide (e7 < (0:Int)))=e8)/\s12 a.2.2.1 e f g i k l m n o p q (sm r)))/\b2 e8 i1))))/\((decide (b < ((a.1:Nat):Int)))=false->(∃e9:Bool,(((a.1:Nat)=a.1)/\((a.2.1:Nat)=a.2.1)/\s7 0 b u d w (d:Int) a.2.2.2 ((false=e9)/\s12 a.2.2.1 e f g i k l m n o p q (sm r)))/\b2 e9 a4)))/\∀(b3:Bool) (a0:View),a4.Le a0->b2 b3 a0->(true=true/\((b3=true->(∃b4:Int,d3 b4 < d3 b/\(((a.1:Nat)=a.1)/\((a.2.1:Nat)=a.2.1)/\s6 0 u d w (d:Int) a.2.2.2 (((J.wrap (b + (1:Int)))=b4)/\s12 a.2.2.1 e f g i k l m n o p q (sm r)))/\b1 b4 a0))/\(b3=false->(∃b5:Bool->VP,(((b == ((a.1:Nat):Int))=true->(∃f0:Bool,(((a.1:Nat)=a.1)/\((a.2.1:Nat)=a.2.1)/\s7 0 b u d w (d:Int) a.2.2.2 ((true=f0)/\s12 a.2.2.1 e f g i k l m n o p q (sm r)))/\b5 f0 a0))/\((b == ((a.1:Nat):Int))=false->(0<=b/\b < ((a.1:Nat):Int))/\(a.1<=a.2.1)/\(∃f1,∃f2 f3 f4,∃f5,∃f6 f7 f8,∃f9,∃g0 g1 g2,((b.toNat * 6) + 6<=a.2.2.1.length/\(a.2.2.1.drop (b.toNat * 6)).take 6=[B f1,S f2 f3 f4,B f5,S f6 f7 f8,B f9,S g0 g1 g2])/\(Ca a0 145 #[A #[B f1,S f2 f3 f4,B f5,S f6 f7 f8,B f9,S g0 g1 g2],A #[B e,S f g i,B k,S l m n,B o,S p q r]] fun i2 i3=>∃g3,i2=I J g3/\(∃g4:Bool,(((a.1:Nat)=a.1)/\((a.2.1:Nat)=a.2.1)/\s7 0 b u d w (d:Int) a.2.2.2 (((g3 != (0:Int))=g4)/\s12 a.2.2.1 e f g i k l m n o p q (sm r)))/\b5 g4 i3)))))/\∀(b6:Bool) (a8:View),a0.Le a8->b5 b6 a8->(true=true/\((b6=true->(∀a5,a8.Le a5->∀a9:Nat,(a.2.2.1≠[]->a5.blk a9 (.cells a.2.2.1.toArray 61 (0,0)))->∀i4:C->Value,(0<=b/\b<=((a.2.1:Nat):Int))/\(0<=b/\b<=((b.toNat:Nat):Int))/\(0<=b/\b<=((a.1:Nat):Int))/\(∃t:List Value,a5.sl (slA (mA a9 a.2.1) a.2.1 b.toNat 6) t/\t.length=(a.1 - b.toNat) * 6/\((1 + (a.1 - b.toNat)) * 96<=140737488355328/\1<=1/\1 * 6<=([B e,S f g i,B k,S l m n,B o,S p q r]:List Value).length/\t.length=(a.1 - b.toNat) * 6/\(∀b7 ∈ t,b7.oneCell'=true)/\∀(i5:Nat) (i6:C->Value) (y:List Value) (g5:Nat),1 + (a.1 - b.toNat)<=g5->g5 * 6<=(1 + (a.1 - b.toNat)) * 6 + y.length->(∃b8:List Value,a5.sl (mA a9 a.2.1) b8/\b8.length=b.toNat * 6/\b.toNat<=b.toNat/\((mA a9 a.2.1).isNone=true->b.toNat=0)/\((b.toNat + ((rowTake (([B e,S f g i,B k,S l m n,B o,S p q r]:List Value).take (1 * 6)++t++y) 0 ((1 + (a.1 - b.toNat)) * 6)).length / 6)) * 96<=140737488355328/\b.toNat < b.toNat + ((rowTake (([B e,S f g i,B k,S l m n,B o,S p q r]:List Value).take (1 * 6)++t++y) 0 ((1 + (a.1 - b.toNat)) * 6)).length / 6)/\(rowTake (([B e,S f g i,B k,S l m n,B o,S p q r]:List Value).take (1 * 6)++t++y) 0 ((1 + (a.1 - b.toNat)) * 6)).length=((rowTake (([B e,S f g i,B k,S l m n,B o,S p q r]:List Value).take (1 * 6)++t++y) 0 ((1 + (a.1 - b.toNat)) * 6)).length / 6) * 6/\(∀b7 ∈ (rowTake (([B e,S f g i,B k,S l m n,B o,S p q r]:List Value).take (1 * 6)++t++y) 0 ((1 + (a.1 - b.toNat)) * 6)),b7.oneCell'=true)/\∀(g6:List Value) (b0:Nat),b.toNat + ((rowTake (([B e,S f g i,B k,S l m n,B o,S p q r]:List Value).take (1 * 6)++t++y) 0 ((1 + (a.1 - b.toNat)) * 6)).length / 6)<=b0->b0 * 6<=(b.toNat + ((rowTake (([B e,S f g i,B k,S l m n,B o,S p q r]:List Value).take (1 * 6)++t++y) 0 ((1 + (a.1 - b.toNat)) * 6)).length / 6)) * 6 + g6.length->(∃a1:Nat × Nat × (List Value) × Int,a7 a1 < a7 a/\(s5 u d w (d:Int) 0 (((b.toNat + ((rowTake (([B e,S f g i,B k,S l m n,B o,S p q r]:List Value).take (1 * 6)++t++y) 0 ((1 + (a.1 - b.toNat)) * 6)).length / 6):Nat)=a1.1)/\((b0:Nat)=a1.2.1)/\((b0:Nat)≠0)/\((J.wrap (a.2.2.2 + (1:Int)))=a1.2.2.2)/\((b8++(rowTake (([B e,S f g i,B k,S l m n,B o,S p q r]:List Value).take (1 * 6)++t++y) 0 ((1 + (a.1 - b.toNat)) * 6))++g6)=a1.2.2.1)))/\a6 a1 a5)))))))/\(b6=false->(∃a2:Nat × Nat × (List Value) × Int,a7 a2 < a7 a/\(s4 u d w (d:Int) (((a.1:Nat)=a2.1)/\((a.2.1:Nat)=a2.2.1)/\((J.wrap (a.2.2.2 + (1:Int)))=a2.2.2.2)/\(a.2.2.1=a2.2.2.1)))/\a6 a2 a8))))))))))))))/\((decide (a.2.2.2 < (d:Int)))=false->(∀b9,x.Le b9->∀g7:Nat,(a.2.2.1≠[]->b9.blk g7 (.cells a.2.2.1.toArray 61 (0,0)))->R (S (mA g7 a.2.1) a.1 a.2.1) b9)))))):
 Acts prog 80 #[S u d w] V R:=
 fd (LF:=LF0) (RF:=[1000015,11000003]) [(3,⟨Nat × Nat × (List Value) × Int,false,[7,8],[],fun s=>[(3,.c (.msl 3 s.1 s.2.1)),(9,.c (.v (I J s.2.2.2)))],fun s=>[(3,⟨.mrow s.2.2.1,61⟩)]⟩),(7,⟨Int,false,[3,5,7,8,9],[3,5],fun s=>[(6,.c (.v (I J s)))],fun s=>[]⟩)] [(600007,⟨Bool,false,[3,5,6,7,8,9],[3,5],fun s=>[(30,.c (.v (B s)))],fun s=>[]⟩),(600009,⟨Bool,false,[3,5,6,7,8,9],[3,5],fun s=>[(45,.c (.v (B s)))],fun s=>[]⟩)] func80 h
end Go.Proofs.Tryz
/- Contracts of the reference: the lines of a tree, each once. -/
namespace Go.Proofs.Tryz
open Go.Eng Go.Big
/-- A line of integers, as an element of a list. -/
def RLv (V:View) (v:Value) (l:L3):Prop:=RL V v l.1 l.2.1 l.2.2
theorem RLv.le {V V':View} {v:Value} {l:L3} (h:RLv V v l) (e:V.Le V'):RLv V' v l:=RL.le h e
theorem rlv_shape {V:View} {v:Value} {l:L3} (h:RLv V v l):∃(b1:Bool) (p1:OA) (n1 c1:Nat) (b2:Bool) (p2:OA) (n2 c2:Nat) (b3:Bool) (p3:OA) (n3 c3:Nat),v=.agg #[.bool b1,.slice p1 n1 c1,.bool b2,.slice p2 n2 c2,.bool b3,.slice p3 n3 c3]:=by
 obtain ⟨_,_,_,_,_,_,_,_,_,e,-⟩:=h; exact ⟨_,_,_,_,_,_,_,_,_,_,_,_,e⟩
theorem rlv_one {V:View} {xs:List Value} {l:L3} (h:RLv V (.agg (List.toArray xs)) l):∀v ∈ xs,v.oneCell'=true:=by
 obtain ⟨_,_,_,_,_,_,_,_,_,_,_,_,e⟩:=rlv_shape h
 have e:=congrArg Array.toList (Value.agg.inj e)
 dsimp only at e
 subst e
 intro v hm
 simp only [List.mem_cons,List.not_mem_nil,or_false] at hm
 rcases hm with rfl | rfl | rfl | rfl | rfl | rfl <;> rfl
theorem one6 {b:Bool} {p:OA} {n c:Nat} {b':Bool} {p':OA} {n' c':Nat} {b'':Bool} {p'':OA} {n'' c'':Nat}:∀v ∈ ([.bool b,.slice p n c,.bool b',.slice p' n' c',.bool b'',.slice p'' n'' c'']:List Value),v.oneCell'=true:=by
 intro v hm
 simp only [List.mem_cons,List.not_mem_nil,or_false] at hm
 rcases hm with rfl | rfl | rfl | rfl | rfl | rfl <;> rfl
theorem c_ref14_lines:∀(t:Tr) {V:View} {p:OA},RW V p t->t.size<=1000000->Acts prog 81 #[.pointer p] V fun r V'=>∃q n c,r=.slice q n c/\Lst 6 RLv V' q n t.lns
 | .leaf i,V,p,h,hs=>by
  obtain ⟨s,e0,-⟩:=rw_leaf h
  exact vc_ref14_lines p V _ ⟨s,s,_,e0,fun _ V1 l1=>⟨_,_,_,rfl,Lst.nil⟩,(fun h=>nomatch h)⟩
 | .node ln a b,V,p,h,hs=>by
  have h0:=h
  obtain ⟨bb,i,b1,p1,n1,c1,b2,p2,n2,c2,b3,p3,n3,c3,pl,pr,rfl,hb,hl,ha,hbb⟩:=h
  have hat:∀j v,([.bool false,.bool i,.bool b1,.slice p1 n1 c1,.bool b2,.slice p2 n2 c2,.bool b3,.slice p3 n3 c3,.pointer pl,.pointer pr]:List Value)[j]?=some v->V.at ((⟨bb,0,none⟩:Addr).add j) v:=by
   intro j v hv; rw [add_zero']; exact blk_at (xs:=[_,_,_,_,_,_,_,_,_,_]) hb hv
  have ha2:∀j v,([.bool b1,.slice p1 n1 c1,.bool b2,.slice p2 n2 c2,.bool b3,.slice p3 n3 c3]:List Value)[j]?=some v->V.at (((⟨bb,0,none⟩:Addr).add 2).add j) v:=by
   intro j v hv
   rw [addadd]
   refine hat (2 + j) v ?_
   have hj:j < 6:=(List.getElem?_eq_some_iff.1 hv).1
   match j,hj,hv with
   | 0,_,h=>exact h
   | 1,_,h=>exact h
   | 2,_,h=>exact h
   | 3,_,h=>exact h
   | 4,_,h=>exact h
   | 5,_,h=>exact h
  simp only [Tr.size] at hs
  have la:=lns_len a
  have lb:=lns_len b
  refine vc_ref14_lines _ V _ ⟨rfl,rfl,false,rdc hb 0 rfl,(fun h=>nomatch h),fun _=>⟨rfl,rfl,_,_,_,_,_,_,_,_,_,_,_,_,(⟨bb,0,none⟩:Addr).add 2,rfl,ha2 0 _ rfl,ha2 1 _ rfl,ha2 2 _ rfl,ha2 3 _ rfl,ha2 4 _ rfl,ha2 5 _ rfl,rfl,rfl,pl,rdc hb 8 rfl,rfl,rfl,pr,rdc hb 9 rfl,fun V2 l2=>(c_ref14_lines a (ha.le l2) (by omega)).mono ?_⟩⟩
  rintro r V3 l3 ⟨q,n,c,rfl,g⟩
  obtain rfl:=g.len
  obtain ⟨xs,x1,x2,x3⟩:=lst_cells g (by decide)
  have oc:∀v ∈ xs,v.oneCell'=true:=fun v hv=>by
   obtain ⟨m,hm,rfl⟩:=List.mem_iff_getElem.1 hv
   exact row_one_cell x3 (by decide) (fun _ _=>rlv_one) (by omega) (List.getElem?_eq_getElem hm)
  have r1:Row 6 RLv V3 ([.bool b1,.slice p1 n1 c1,.bool b2,.slice p2 n2 c2,.bool b3,.slice p3 n3 c3]:List Value) [ln]:=row_one rfl (hl.le (l2.trans l3))
  refine ⟨_,_,_,rfl,xs,x1,x2,by omega,Nat.le_refl _,Nat.le_refl 6,x2,oc,fun bk J sp c' h1 h2 V4 l4=>(c_ref14_lines b (hbb.le (l2.trans (l3.trans l4))) (by omega)).mono ?_⟩
  rintro r V5 l5 ⟨q',n',c'',rfl,g'⟩
  obtain rfl:=g'.len
  obtain ⟨ys,y1,y2,y3⟩:=lst_cells g' (by decide)
  have oc':∀v ∈ ys,v.oneCell'=true:=fun v hv=>by
   obtain ⟨m,hm,rfl⟩:=List.mem_iff_getElem.1 hv
   exact row_one_cell y3 (by decide) (fun _ _=>rlv_one) (by omega) (List.getElem?_eq_getElem hm)
  have r2:=row_append (sp:=sp) r1 x3 (by decide)
  have hl2:([ln]++a.lns).length=1 + a.lns.length:=by simp; omega
  have r3:=row_append (sp:=[]) (r2.le fun _ _ g=>RLv.le g (l4.trans l5)) y3 (by decide)
  rw [hl2] at r3
  refine ⟨_,_,_,rfl,ys,y1,y2,by omega,h1,?_,y2,oc',fun bk2 J2 sp2 c3' h3 h4 V6 l6 bk3 hbk=>⟨_,_,_,rfl,?_⟩⟩
  ·simp only [List.length_append,List.length_take,List.length_cons,List.length_nil,x2]
   omega
  ·have r4:=row_append (sp:=sp2) (r2.le fun _ _ g=>RLv.le g (l4.trans l5)) y3 (by decide)
   rw [hl2] at r4
   have:=Lst.of_row hbk (r4.le fun _ _ g=>RLv.le g l6)
   have hl3:([ln]++a.lns++b.lns).length=1 + a.lns.length + b.lns.length:=by rw [List.length_append,hl2]
   rw [hl3] at this
   exact this
end Go.Proofs.Tryz
/- Plain: lines in order, each once. -/
namespace Go.Proofs.Tryz
open Go.Eng Go.Big
/-- x put into a list, each line once. -/
def insL (x:L3):List L3->List L3
 | []=>[x]
 | y :: r=>if cmpL y x < 0 then y :: insL x r else if y=x then y :: r else x :: y :: r
theorem insL_at {x:L3}:∀(o:List L3) (k:Nat),k<=o.length->(∀j (h:j < o.length),j < k->cmpL o[j] x < 0)->(∀h:k < o.length,¬ cmpL o[k] x < 0) ->
  insL x o=if (∃h:k < o.length,o[k]=x) then o else o.take k++x :: o.drop k:=by
 intro o
 induction o with
 | nil=>
  intro k hk _ _
  obtain rfl:k=0:=by simpa using hk
  simp [insL]
 | cons y r ih=>
  intro k hk hlt hge
  cases k with
  | zero=>
   have h0:¬ cmpL y x < 0:=hge (by simp)
   unfold insL
   rw [if_neg h0]
   by_cases e:y=x
   ·rw [if_pos e,if_pos ⟨by simp,e⟩]
   ·rw [if_neg e,if_neg (by rintro ⟨_,h⟩; exact e h)]
    rfl
  | succ k=>
   have h0:cmpL y x < 0:=hlt 0 (by simp) (by omega)
   unfold insL
   rw [if_pos h0,ih k (by simpa using hk) (fun j h hj=>hlt (j + 1) (by simpa using h) (by omega)) (fun h=>hge (by simpa using h))]
   by_cases e:∃h:k < r.length,r[k]=x
   ·obtain ⟨h1,h2⟩:=e
    rw [if_pos ⟨h1,h2⟩,if_pos ⟨by simpa using h1,h2⟩]
   ·rw [if_neg e,if_neg (by rintro ⟨h1,h2⟩; exact e ⟨by simpa using h1,h2⟩)]
    rfl
def distL (l:List L3):List L3:=l.foldl (fun o x=>insL (canL x) o) []
theorem distL_succ {l:List L3} {i:Nat} (h:i < l.length):distL (l.take (i + 1))=insL (canL l[i]) (distL (l.take i)):=by
 unfold distL
 rw [List.take_add_one,List.getElem?_eq_getElem h,List.foldl_append]
 rfl
theorem insL_len (x:L3):∀o:List L3,(insL x o).length<=o.length + 1
 | []=>by simp [insL]
 | y :: r=>by
  have:=insL_len x r
  unfold insL
  split
  ·simp; omega
  ·split <;> simp
theorem distL_len (l:List L3):(distL l).length<=l.length:=by
 have:∀(l o:List L3),(l.foldl (fun o x=>insL (canL x) o) o).length<=o.length + l.length:=by
  intro l
  induction l with
  | nil=>intro o; simp
  | cons x r ih=>
   intro o
   have h1:=ih (insL (canL x) o)
   have h2:=insL_len (canL x) o
   simp only [List.foldl_cons,List.length_cons]
   omega
 have:=this l []
 simpa [distL] using this
def ltL (a b:L3):Prop:=cmpL a b < 0
theorem lt_tr {a b c:L3} (h:ltL a b) (h':ltL b c):ltL a c:=by unfold ltL at *; rw [cmpL_lt] at *; omega
theorem lt_or {a b:L3} (h:¬ ltL a b) (hne:a≠b):ltL b a:=by
 have:¬ (a.1=b.1/\a.2.1=b.2.1/\a.2.2=b.2.2):=fun ⟨e1,e2,e3⟩=>hne (Prod.ext e1 (Prod.ext e2 e3))
 unfold ltL at *
 rw [cmpL_lt] at *
 omega
theorem insL_mem {x y:L3}:∀{o:List L3},y ∈ insL x o↔y=x \/ y ∈ o
 | []=>by simp [insL]
 | z :: r=>by
  unfold insL
  split
  ·simp only [List.mem_cons,insL_mem (o:=r)]
   constructor
   ·rintro (h | h | h) <;> simp [h]
   ·rintro (h | h | h) <;> simp [h]
  ·split
   ·rename_i e; subst e; simp
   ·simp
theorem insL_asc {x:L3}:∀{o:List L3},o.Pairwise ltL->(insL x o).Pairwise ltL
 | [],_=>List.pairwise_singleton _ _
 | z :: r,h=>by
  obtain ⟨h1,h2⟩:=List.pairwise_cons.1 h
  unfold insL
  split
  ·rename_i hz
   refine List.pairwise_cons.2 ⟨fun y hy=>?_,insL_asc h2⟩
   rcases insL_mem.1 hy with rfl | hy
   ·exact hz
   ·exact h1 y hy
  ·rename_i hz
   split
   ·exact h
   ·rename_i hne
    have hx:ltL x z:=lt_or hz hne
    refine List.pairwise_cons.2 ⟨fun y hy=>?_,h⟩
    rcases List.mem_cons.1 hy with rfl | hy
    ·exact hx
    ·exact lt_tr hx (h1 y hy)
theorem distL_spec (l:List L3):(distL l).Pairwise ltL/\∀x,x ∈ distL l↔x ∈ l.map canL:=by
 have:∀(l o:List L3),o.Pairwise ltL->(l.foldl (fun o x=>insL (canL x) o) o).Pairwise ltL/\∀x,x ∈ l.foldl (fun o x=>insL (canL x) o) o↔x ∈ o \/ x ∈ l.map canL:=by
  intro l
  induction l with
  | nil=>intro o h; exact ⟨h,fun x=>by simp⟩
  | cons y r ih=>
   intro o h
   obtain ⟨h1,h2⟩:=ih (insL (canL y) o) (insL_asc h)
   refine ⟨h1,fun x=>?_⟩
   rw [List.foldl_cons,h2 x,insL_mem,List.map_cons,List.mem_cons]
   constructor
   ·rintro ((h | h) | h) <;> simp [h]
   ·rintro (h | h | h) <;> simp [h]
 obtain ⟨h1,h2⟩:=this l [] List.Pairwise.nil
 exact ⟨h1,fun x=>by rw [distL,h2 x]; simp⟩
end Go.Proofs.Tryz
/- Contracts of the reference: canonical orientation, Distinct, ToLs, SameLs; the lines of a tree of package api. -/
namespace Go.Proofs.Tryz
open Go.Eng Go.Big
theorem c_ref04_Canon {V:View} {v:Value} {l:L3} (h:RLv V v l):Acts prog 160 #[v] V fun r V'=>∃w b,r=.tuple #[w,.bool b]/\RLv V' w (canL l):=by
 have h0:=h
 obtain ⟨p1,n1,c1,p2,n2,c2,p3,n3,c3,rfl,h1,h2,h3⟩:=h
 have rev:∀(V3:View),V.Le V3->(l.1 < 0 \/ l.1=0/\l.2.1 < 0)->Acts prog 53 #[.agg #[.bool (decide (l.1 < 0)),.slice p1 n1 c1,.bool (decide (l.2.1 < 0)),.slice p2 n2 c2,.bool (decide (l.2.2 < 0)),.slice p3 n3 c3]] V3 fun r V'=>RLv V' r (canL l):=fun V3 l3 hc=>by
  refine (c_ref04_Rev (a:=l.1) (b:=l.2.1) (c:=l.2.2) (h0.le l3)).mono ?_
  rintro r V4 l4 g
  unfold canL
  rw [if_pos hc]
  exact g
 refine vc_ref04_Canon _ _ _ _ _ _ _ _ _ _ _ _ V _ fun V1 l1=>(c_num_Sign l.1 (h1.le l1)).mono ?_
 rintro r V2 l2 rfl
 have L2:=l1.trans l2
 refine ⟨_,rfl,fun hc V3 l3=>(rev V3 (L2.trans l3) (.inl (Int.sign_neg_iff.1 (of_decide_eq_true hc)))).mono ?_,fun hc=>⟨fun h0' V6 l6=>(c_num_Sign l.2.1 (h2.le (L2.trans l6))).mono ?_,fun hne V12 l12=>?_⟩⟩
 ·rintro r V4 l4 g
  have g0:=g
  obtain ⟨_,_,_,_,_,_,_,_,_,_,_,_,rfl⟩:=rlv_shape g
  exact ⟨_,_,_,_,_,_,_,_,_,_,_,_,rfl,fun V5 l5=>⟨_,_,rfl,g0.le l5⟩⟩
 ·have hz:l.1=0:=Int.sign_eq_zero_iff_zero.1 (by simpa using h0')
  rintro r V7 l7 rfl
  have L7:=L2.trans (l6.trans l7)
  refine ⟨_,rfl,fun hd V8 l8=>(rev V8 (L7.trans l8) (.inr ⟨hz,Int.sign_neg_iff.1 (of_decide_eq_true hd)⟩)).mono ?_,fun hd V11 l11=>⟨_,_,rfl,?_⟩⟩
  ·rintro r V9 l9 g
   have g0:=g
   obtain ⟨_,_,_,_,_,_,_,_,_,_,_,_,rfl⟩:=rlv_shape g
   exact ⟨_,_,_,_,_,_,_,_,_,_,_,_,rfl,fun V10 l10=>⟨_,_,rfl,g0.le l10⟩⟩
  ·have hd:=of_decide_eq_false hd
   unfold canL
   rw [if_neg fun h=>hd (Int.sign_neg_iff.2 (h.elim (fun h=>by omega) (·.2)))]
   exact h0.le (L7.trans l11)
 ·have hc:=of_decide_eq_false hc
  have hne:¬ l.1=0:=fun e=>by rw [e] at hne; simp at hne
  refine ⟨_,_,rfl,?_⟩
  unfold canL
  rw [if_neg fun h=>h.elim (fun h=>hc (Int.sign_neg_iff.2 h)) (fun h=>hne h.1)]
  exact h0.le (L2.trans l12)
theorem row_rl {V:View} {vs:List Value} {ls:List L3} (h:Row 6 RLv V vs ls) {i:Nat} (hi:i < ls.length):∃b1 p1 n1 c1 b2 p2 n2 c2 b3 p3 n3 c3,i * 6 + 6<=vs.length/\(vs.drop (i * 6)).take 6=[Value.bool b1,.slice p1 n1 c1,.bool b2,.slice p2 n2 c2,.bool b3,.slice p3 n3 c3] /\
  RLv V (.agg #[.bool b1,.slice p1 n1 c1,.bool b2,.slice p2 n2 c2,.bool b3,.slice p3 n3 c3]) ls[i]:=by
 obtain ⟨xs,h1,h2,h3⟩:=h.at_ i hi
 have hl:=h.len_le (by decide)
 have h20:=h2
 obtain ⟨_,_,_,_,_,_,_,_,_,_,_,_,e⟩:=rlv_shape h2
 have e:=congrArg Array.toList (Value.agg.inj e)
 dsimp only at e
 subst e
 refine ⟨_,_,_,_,_,_,_,_,_,_,_,_,by omega,?_,h20⟩
 apply List.ext_getElem?
 intro j
 rw [List.getElem?_take]
 split
 ·rename_i hj
  rw [List.getElem?_drop]
  exact h3 j _ (List.getElem?_eq_getElem (by show j < 6; omega)) ▸ (List.getElem?_eq_getElem (by show j < 6; omega)).symm
 ·rename_i hj
  rw [List.getElem?_eq_none (by show 6<=j; omega)]
set_option maxHeartbeats 1000000 in
theorem c_ref04_Distinct {V:View} {p:OA} {n c:Nat} {ls:List L3} (h:Lst 6 RLv V p n ls) (hn:ls.length < 100000000) (hs:∀l ∈ ls,Bd l) :
  Acts prog 80 #[.slice p n c] V fun r V'=>∃q m e,r=.slice q m e/\Lst 6 RLv V' q m (distL ls):=by
 obtain rfl:=h.len
 refine vc_ref04_Distinct p _ c V _ ⟨fun z V'=>∃i:Nat,z.2.2.2=(i:Int)/\i<=ls.length/\GR 6 RLv V' z.1 z.2.1 z.2.2.1 (distL (ls.take i)),fun z=>ls.length - z.2.2.2.toNat,
  ⟨(0,0,[],0),by and_intros <;> rfl,0,rfl,Nat.zero_le _,GR.nil⟩,?_⟩
 rintro ⟨w1,w2,us,z4⟩ V1 l1 ⟨i,e4,ile,hg⟩
 dsimp only at e4 hg
 subst e4
 have g1:=hg.len
 have fc:=hg.le
 have fv:=hg.cap
 have fx:=hg.row
 refine ⟨rfl,fun hlt=>?_,fun hlt V13 l13 bk hb=>?_⟩
 rotate_left
 ·have hlt:¬ (i:Int) < ls.length:=of_decide_eq_false hlt
  obtain rfl:i=ls.length:=by omega
  rw [List.take_length] at g1 fx
  subst g1
  exact ⟨_,_,_,rfl,Lst.of_mrow hb (fx.le fun _ _ g=>RLv.le g l13) (by decide) fc⟩
 have hlt:(i:Int) < ls.length:=of_decide_eq_true hlt
 have hi:i < ls.length:=by omega
 have w:i64.wrap ((i:Int) + 1)=((i + 1:Nat):Int):=by rw [i64w (by omega)]; rfl
 dsimp only
 rw [Int.toNat_natCast,w]
 obtain ⟨ad,ha,xs,-,hf,hat⟩:=(h.le l1 fun _ _ g=>RLv.le g l1).at_ i hi
 have hf0:=hf
 obtain ⟨_,_,_,_,_,_,_,_,_,_,_,_,ex⟩:=rlv_shape hf
 have ex:=congrArg Array.toList (Value.agg.inj ex)
 dsimp only at ex
 subst ex
 have hO':=distL_succ hi
 have hss:Bd (canL ls[i]):=(hs _ (List.getElem_mem hi)).can
 have hOl:(distL (ls.take i)).length < 100000000:=by
  have:=distL_len (ls.take i)
  rw [List.length_take] at this
  omega
 have hOm:∀q ∈ distL (ls.take i),Bd q:=fun q hq=>by
  obtain ⟨y,hy,rfl⟩:=List.mem_map.1 ((distL_spec _).2 q |>.1 hq)
  exact (hs y (List.mem_of_mem_take hy)).can
 clear hg
 generalize distL (ls.take i)=O at *
 refine ⟨isSome_addr ha,⟨by omega,by omega⟩,_,_,_,_,_,_,_,_,_,_,_,_,ad,ha,hat 0 _ rfl,hat 1 _ rfl,hat 2 _ rfl,hat 3 _ rfl,hat 4 _ rfl,hat 5 _ rfl,fun V2 l2=>(c_ref04_Canon (hf0.le l2)).mono ?_⟩
 generalize canL ls[i]=x at *
 rintro r V3 l3 ⟨wv,bc,rfl,hq⟩
 have hq0:=hq
 obtain ⟨eb,ep,en,ec,fb,fp,fn,fe,gb,gp,gn,gc,rfl⟩:=rlv_shape hq
 refine ⟨_,_,_,_,_,_,_,_,_,_,_,_,_,rfl,fun z _=>∃j:Nat,z=(j:Int)/\j<=O.length/\∀(i':Nat) (h:i' < O.length),i' < j->cmpL O[i'] x < 0,fun z=>O.length - z.toNat,⟨0,by and_intros <;> rfl,0,rfl,Nat.zero_le _,fun i' _ h=>absurd h (Nat.not_lt_zero i')⟩,?_⟩
 rintro z V4 l4 ⟨j,rfl,jle,jl⟩
 have wj:i64.wrap ((j:Int) + 1)=((j + 1:Nat):Int):=by rw [i64w (by omega)]; rfl
 rw [Int.toNat_natCast,wj]
 have l14:=l2.trans (l3.trans l4)
 refine ⟨rfl,fun z _=>z=true↔∃h:j < O.length,cmpL O[j] x < 0,⟨fun hlt=>?_,fun hlt=>⟨false,by and_intros <;> rfl,?_⟩⟩,?_⟩
 ·have hlt:(j:Int) < (w1:Int):=of_decide_eq_true hlt
  have hj:j < O.length:=by omega
  obtain ⟨b1,p1,n1,c1,b2,p2,n2,c2,b3,p3,n3,c3,le1,eqn,hr⟩:=row_rl fx hj
  refine ⟨⟨by omega,by omega⟩,fc,b1,p1,n1,c1,b2,p2,n2,c2,b3,p3,n3,c3,⟨le1,eqn⟩,fun V5 l5=>(c_ref04_Cmp (hr.le (l14.trans l5)) (hq0.le (l4.trans l5)) (hOm _ (List.getElem_mem hj)).szl hss.szl (by omega)).mono ?_⟩
  rintro r V6 l6 rfl
  exact ⟨_,rfl,_,by and_intros <;> rfl,by dsimp only; rw [decide_eq_true_eq]; exact ⟨fun h=>⟨hj,h⟩,fun ⟨_,h⟩=>h⟩⟩
 ·have hlt:¬ (j:Int) < (w1:Int):=of_decide_eq_false hlt
  exact ⟨(fun h=>nomatch h),fun ⟨h,_⟩=>absurd h (by omega)⟩
 rintro z V7 l7 hz8
 refine ⟨rfl,fun hz=>?_,fun hz=>?_⟩
 ·obtain ⟨hj,hx'⟩:=hz8.1 hz
  refine ⟨((j + 1:Nat):Int),by dsimp only; omega,by and_intros <;> rfl,j + 1,rfl,hj,fun i' h hi'=>?_⟩
  by_cases e:i'=j
  ·subst e; exact hx'
  ·exact jl i' h (by omega)
 have hge:∀h:j < O.length,¬ cmpL O[j] x < 0:=fun h h'=>by
  have:=hz8.2 ⟨h,h'⟩
  rw [hz] at this; cases this
 have hins:=insL_at O j jle jl hge
 have l17:=l14.trans l7
 refine ⟨fun z _=>z=true↔¬ ∃h:j < O.length,O[j]=x,⟨fun he=>⟨true,by and_intros <;> rfl,?_⟩,fun he=>?_⟩,?_⟩
 ·have he:(j:Int)=(w1:Int):=by simpa using he
  exact ⟨fun _ ⟨h,_⟩=>absurd h (by omega),fun _=>rfl⟩
 ·have he:¬ (j:Int)=(w1:Int):=by simpa using he
  have hj:j < O.length:=by omega
  obtain ⟨b1,p1,n1,c1,b2,p2,n2,c2,b3,p3,n3,c3,le1,eqn,hr⟩:=row_rl fx hj
  refine ⟨⟨by omega,by omega⟩,fc,b1,p1,n1,c1,b2,p2,n2,c2,b3,p3,n3,c3,⟨le1,eqn⟩,fun V8 l8=>(c_ref04_Cmp (hr.le (l17.trans l8)) (hq0.le (l4.trans (l7.trans l8))) (hOm _ (List.getElem_mem hj)).szl hss.szl (by omega)).mono ?_⟩
  rintro r V9 l9 rfl
  exact ⟨_,rfl,_,by and_intros <;> rfl,by dsimp only; rw [bne_iff_ne,ne_eq,cmpL_eq]; exact ⟨fun h ⟨_,h'⟩=>h h',fun h h'=>h ⟨hj,h'⟩⟩⟩
 rintro z V10 l10 hz11
 have l110:=l17.trans l10
 refine ⟨rfl,fun hz V11 l11 bk hb J=>?_,fun hz=>?_⟩
 ·have hne:=hz11.1 hz
  rw [if_neg hne] at hins
  have fxl:=fx.len_le (by decide)
  have fx12:=fx.le (V':=V11) fun _ _ g=>RLv.le g (l110.trans l11)
  have hq12:=hq0.le (l4.trans (l7.trans (l10.trans l11)))
  have t1:(us.take (j * 6)).length=j * 6:=by rw [List.length_take]; omega
  have t2:((us.take (O.length * 6)).drop (j * 6)).length=(w1 - j) * 6:=by rw [List.length_drop,List.length_take,g1]; omega
  have oc:∀v ∈ (us.take (O.length * 6)).drop (j * 6),v.oneCell'=true:=by
   intro v hv'
   obtain ⟨m,hm,e⟩:=List.mem_iff_getElem.1 (List.mem_of_mem_drop hv')
   have hm':m < O.length * 6:=by rw [List.length_take] at hm; omega
   have:=List.getElem?_eq_getElem hm
   rw [e,List.getElem?_take,if_pos hm'] at this
   exact row_one_cell fx (by decide) (fun _ _=>rlv_one) hm' this
  have hmem:0 < w2->us≠[]:=fun hw e=>by rw [e] at fv; simp at fv; omega
  have hmA:0 < w2->mA bk w2=some ⟨bk,0,none⟩:=fun hw=>by unfold mA; rw [if_neg (by omega)]
  have at_:∀m v,m < O.length * 6->us[m]?=some v->V11.at ⟨bk,m,none⟩ v:=fun m v hm hv'=>blk_at (hb (hmem (by omega))) hv'
  refine ⟨⟨by omega,by omega⟩,⟨by omega,by omega⟩,⟨by omega,by omega⟩,(us.take (O.length * 6)).drop (j * 6),?_,t2,by omega,Nat.le_refl _,Nat.le_refl 6,t2,oc,fun bk2 J2 sp c' h1 h2=>?_⟩
  ·intro m v hm
   have hml:=(List.getElem?_eq_some_iff.1 hm).1
   rw [t2] at hml
   rw [List.getElem?_drop,List.getElem?_take,if_pos (by omega)] at hm
   have:=at_ (j * 6 + m) v (by omega) hm
   refine ⟨⟨bk,j * 6,none⟩,?_,?_⟩
   ·unfold slA
    rw [if_neg (by omega),hmA (by omega)]
    simp [addrAdd,add_zero']
   ·rw [← add_zero',adr_add2,add_zero']; exact this
  ·have hrl:([.bool eb,.slice ep en ec,.bool fb,.slice fp fn fe,.bool gb,.slice gp gn gc]++(us.take (O.length * 6)).drop (j * 6):List Value).length=(1 + (w1 - j)) * 6:=by
    rw [List.length_append,t2]; simp only [List.length_cons,List.length_nil]; omega
   have hrt:rowTake (([.bool eb,.slice ep en ec,.bool fb,.slice fp fn fe,.bool gb,.slice gp gn gc]:List Value).take (1 * 6)++(us.take (O.length * 6)).drop (j * 6)++sp) 0 ((1 + (w1 - j)) * 6)=[.bool eb,.slice ep en ec,.bool fb,.slice fp fn fe,.bool gb,.slice gp gn gc]++(us.take (O.length * 6)).drop (j * 6):=by
    have e3:(([.bool eb,.slice ep en ec,.bool fb,.slice fp fn fe,.bool gb,.slice gp gn gc]:List Value).take (1 * 6))=[.bool eb,.slice ep en ec,.bool fb,.slice fp fn fe,.bool gb,.slice gp gn gc]:=rfl
    rw [e3]
    unfold rowTake
    rw [Nat.ble_eq_true_of_le (by rw [List.length_append,hrl]; omega),cond_true,List.drop_zero,List.take_append_of_le_length (by rw [hrl]; exact Nat.le_refl _),List.take_of_length_le (by rw [hrl]; exact Nat.le_refl _)]
   have hr3:(1 + (w1 - j)) * 6 / 6=1 + (w1 - j):=Nat.mul_div_cancel _ (by decide)
   rw [hrt,hrl,hr3]
   refine ⟨us.take (j * 6),?_,t1,Nat.le_refl _,?_,by omega,by omega,rfl,?_,fun sp2 c2' h3 h4=>⟨(j + (1 + (w1 - j)),c2',_,((i + 1:Nat):Int)),by dsimp only; omega,by and_intros <;> first | rfl | omega,i + 1,rfl,hi,?_⟩⟩
   ·intro m v hm
    have hml:=(List.getElem?_eq_some_iff.1 hm).1
    rw [t1] at hml
    rw [List.getElem?_take,if_pos hml] at hm
    exact ⟨⟨bk,0,none⟩,hmA (by omega),by rw [add_zero']; exact at_ m v (by omega) hm⟩
   ·intro hN
    by_cases hw:0 < w2
    ·rw [hmA hw] at hN; cases hN
    ·omega
   ·intro v hv'
    rcases List.mem_append.1 hv' with hv' | hv'
    ·exact one6 v hv'
    ·exact oc v hv'
   ·show GR 6 RLv _ _ _ _ (distL (ls.take (i + 1)))
    rw [hO',hins]
    refine ⟨?_,h3,?_,row_insert fx12 jle rfl hq12 (by decide)⟩
    ·show j + (1 + (w1 - j))=_
     rw [List.length_append,List.length_take,List.length_cons,List.length_drop]
     omega
    ·dsimp only
     rw [List.length_append,List.length_append,t1,hrl]
     omega
 ·have hex:∃h:j < O.length,O[j]=x:=Classical.byContradiction fun h=>by have:=hz11.2 h; rw [hz] at this; cases this
  rw [if_pos hex] at hins
  refine ⟨(w1,w2,us,((i + 1:Nat):Int)),by dsimp only; omega,by and_intros <;> rfl,i + 1,rfl,hi,?_⟩
  show GR 6 RLv _ _ _ _ (distL (ls.take (i + 1)))
  rw [hO',hins]
  exact ⟨g1,fc,fv,fx.le fun _ _ g=>RLv.le g l110⟩
theorem c_ref14_Lines {V:View} {p:OA} {t:Tr} (h:RW V p t) (ha:t.All Okb) (hs:t.size<=1000000):Acts prog 24 #[.pointer p] V fun r V'=>∃q n c,r=.slice q n c/\Lst 6 RLv V' q n (distL t.lns):=by
 refine vc_ref14_Lines p V _ fun V1 l1=>(c_ref14_lines t (h.le l1) hs).mono ?_
 rintro r V2 l2 ⟨q,n,c,rfl,g⟩
 refine ⟨_,_,_,rfl,fun V3 l3=>(c_ref04_Distinct (g.le l3 fun _ _ g=>RLv.le g l3) (by rw [lns_len]; omega) fun l hl=>(lns_all ha l hl).2).mono ?_⟩
 rintro r V4 l4 ⟨q',m,e,rfl,g'⟩
 exact ⟨_,_,_,rfl,fun V5 l5=>⟨_,_,_,rfl,g'.le l5 fun _ _ g=>RLv.le g l5⟩⟩
end Go.Proofs.Tryz
/- By program: the conditions of the functions, from their loaded code. -/
namespace Go.Proofs.Tryz
open Go.Eng
open Go.Value renaming int→I,pointer→P,slice→S,agg→A,bool→B,tuple→T
open Go.IntKind renaming i64→J,u64→U,u32→W
set_option maxRecDepth 100000
theorem vc_keep_Place (a:Nat) (s:OA) (t u:Nat) (x:Int) (b2:OA) (V:View) (R:VR) (hw100000:V.w.heap[a]?=some (.cells #[S s t u,I J x] 133 (0,0))) (hx100000:V.X a) (h:(Ca V 24 #[P b2] fun r2 d5=>∃i e r3,r2=S i e r3/\((((e:Int) == (0:Int))=true->(∀y,d5.Le y->∀k:Nat,(y.w.heap[k]?=some (.cells #[S s t u,I J x] 133 (0,0)))->(y.H k)->Acts prog 71 #[P (some ⟨k,0,none⟩)] (y.lend [k]) fun r4 d6=>∃d7,∃d8 d9 e0,∃e1 e2 e3,∃e4,∃e5 e6 e7,∃e8 e9 f0,r4=A #[B d7,S d8 d9 e0,S e1 e2 e3,B e4,S e5 e6 e7,S e8 e9 f0]/\∃f1 f2 f3,∃f4,d6.w.heap[k]?=some (.cells #[S f1 f2 f3,I J f4] 133 (0,0))/\(∀b3,d6.shut.Le b3->b3.w.heap[a]?=some (.cells #[S f1 f2 f3,I J f4] 133 (0,0))->R (A #[B d7,S d8 d9 e0,S e1 e2 e3,B e4,S e5 e6 e7,S e8 e9 f0]) b3)))/\(((e:Int) == (0:Int))=false->(∀z,d5.Le z->∀l:Nat,(z.w.heap[l]?=some (.cells #[S s t u,I J x] 133 (0,0)))->(z.H l)->Acts prog 25 #[P (some ⟨l,0,none⟩),I J (e:Int)] (z.lend [l]) fun r5 b=>∃a0,r5=I J a0/\∃f5 f6 f7,∃f8,b.w.heap[l]?=some (.cells #[S f5 f6 f7,I J f8] 133 (0,0))/\(i.isSome=true)/\(0<=a0/\a0 < (e:Int))/\(∃b4,∃b5 b6 b7,∃b8,∃b9 c0 c1,∃c2,∃c3 c4 c5,∃f,addrAdd i (a0.toNat * 6)=some f/\b.shut.at (f.add 0) (B b4)/\b.shut.at (f.add 1) (S b5 b6 b7)/\b.shut.at (f.add 2) (B b8)/\b.shut.at (f.add 3) (S b9 c0 c1)/\b.shut.at (f.add 4) (B c2)/\b.shut.at (f.add 5) (S c3 c4 c5)/\(∀a1,b.shut.Le a1->∀m:Nat,(a1.w.heap[m]?=some (.cells #[S f5 f6 f7,I J f8] 133 (0,0)))->(a1.H m)->Acts prog 25 #[P (some ⟨m,0,none⟩),I J 3] (a1.lend [m]) fun r6 a2=>∃n,r6=I J n/\∃a3 a4 a5,∃a6,a2.w.heap[m]?=some (.cells #[S a3 a4 a5,I J a6] 133 (0,0))/\(((n == (0:Int))=true->(∀a7,a2.shut.Le a7->∀o:Nat,(a7.w.heap[o]?=some (.cells #[S a3 a4 a5,I J a6] 133 (0,0)))->(a7.H o)->Acts prog 25 #[P (some ⟨o,0,none⟩),I J (e:Int)] (a7.lend [o]) fun r7 d=>∃a8,r7=I J a8/\∃c6 c7 c8,∃c9,d.w.heap[o]?=some (.cells #[S c6 c7 c8,I J c9] 133 (0,0))/\(i.isSome=true)/\(0<=a8/\a8 < (e:Int))/\(∃f9,∃g0 g1 g2,∃g3,∃g4 g5 g6,∃g7,∃g8 g9 i0,∃g,addrAdd i (a8.toNat * 6)=some g/\d.shut.at (g.add 0) (B f9)/\d.shut.at (g.add 1) (S g0 g1 g2)/\d.shut.at (g.add 2) (B g3)/\d.shut.at (g.add 3) (S g4 g5 g6)/\d.shut.at (g.add 4) (B g7)/\d.shut.at (g.add 5) (S g8 g9 i0)/\(∀i1,d.shut.Le i1->Acts prog 72 #[A #[B b4,S b5 b6 b7,B b8,S b9 c0 c1,B c2,S c3 c4 c5],A #[B f9,S g0 g1 g2,B g3,S g4 g5 g6,B g7,S g8 g9 i0]] i1 fun r8 i2=>∃i3,∃i4 i5 i6,∃i7 i8 i9,∃k0,∃k1 k2 k3,∃k4 k5 k6,∃d0,r8=T #[A #[B i3,S i4 i5 i6,S i7 i8 i9,B k0,S k1 k2 k3,S k4 k5 k6],B d0]/\((d0=true->(∀d1,i2.Le d1->d1.w.heap[a]?=some (.cells #[S c6 c7 c8,I J c9] 133 (0,0))->R (A #[B i3,S i4 i5 i6,S i7 i8 i9,B k0,S k1 k2 k3,S k4 k5 k6]) d1))/\(d0=false->(∀a9,i2.Le a9->∀p:Nat,(a9.w.heap[p]?=some (.cells #[S c6 c7 c8,I J c9] 133 (0,0)))->(a9.H p)->Acts prog 71 #[P (some ⟨p,0,none⟩)] (a9.lend [p]) fun r9 k7=>∃k8,∃k9 l0 l1,∃l2 l3 l4,∃l5,∃l6 l7 l8,∃l9 m0 m1,r9=A #[B k8,S k9 l0 l1,S l2 l3 l4,B l5,S l6 l7 l8,S l9 m0 m1]/\∃m2 m3 m4,∃m5,k7.w.heap[p]?=some (.cells #[S m2 m3 m4,I J m5] 133 (0,0))/\(∀d2,k7.shut.Le d2->d2.w.heap[a]?=some (.cells #[S m2 m3 m4,I J m5] 133 (0,0))->R (A #[B k8,S k9 l0 l1,S l2 l3 l4,B l5,S l6 l7 l8,S l9 m0 m1]) d2))))))))/\((n == (0:Int))=false->(((n == (1:Int))=true->(∀b0,a2.shut.Le b0->∀q:Nat,(b0.w.heap[q]?=some (.cells #[S a3 a4 a5,I J a6] 133 (0,0)))->(b0.H q)->Acts prog 37 #[P (some ⟨q,0,none⟩)] (b0.lend [q]) fun t0 m6=>∃m7,∃m8 m9 n0,∃n1 n2 n3,t0=A #[B m7,S m8 m9 n0,S n1 n2 n3]/\∃n4 n5 n6,∃n7,m6.w.heap[q]?=some (.cells #[S n4 n5 n6,I J n7] 133 (0,0))/\(∀n8,m6.shut.Le n8->Acts prog 35 #[A #[B b4,S b5 b6 b7,B b8,S b9 c0 c1,B c2,S c3 c4 c5],A #[B m7,S m8 m9 n0,S n1 n2 n3]] n8 fun t1 t2=>∃n9,∃o0 o1 o2,∃o3 o4 o5,∃o6,∃o7 o8 o9,∃p0 p1 p2,t1=A #[B n9,S o0 o1 o2,S o3 o4 o5,B o6,S o7 o8 o9,S p0 p1 p2]/\(∀d3,t2.Le d3->d3.w.heap[a]?=some (.cells #[S n4 n5 n6,I J n7] 133 (0,0))->R (A #[B n9,S o0 o1 o2,S o3 o4 o5,B o6,S o7 o8 o9,S p0 p1 p2]) d3))))/\((n == (1:Int))=false->(∀b1,a2.shut.Le b1->∀r:Nat,(b1.w.heap[r]?=some (.cells #[S a3 a4 a5,I J a6] 133 (0,0)))->(b1.H r)->Acts prog 71 #[P (some ⟨r,0,none⟩)] (b1.lend [r]) fun t3 p3=>∃p4,∃p5 p6 p7,∃p8 p9 q0,∃q1,∃q2 q3 q4,∃q5 q6 q7,t3=A #[B p4,S p5 p6 p7,S p8 p9 q0,B q1,S q2 q3 q4,S q5 q6 q7]/\∃q8 q9 r0,∃r1,p3.w.heap[r]?=some (.cells #[S q8 q9 r0,I J r1] 133 (0,0))/\(∀d4,p3.shut.Le d4->d4.w.heap[a]?=some (.cells #[S q8 q9 r0,I J r1] 133 (0,0))->R (A #[B p4,S p5 p6 p7,S p8 p9 q0,B q1,S q2 q3 q4,S q5 q6 q7]) d4))))))))))))):
 Acts prog 17 #[P (some ⟨a,0,none⟩),P b2] V R:=
 fn_does (LF:=LF0) (RF:=[1000015]) (β0:=(upd1 (fun _=>0) 100000 a)) tab_ok mixed [] [] func17 (by kernel_rfl) [(0,.c (.ptr 100000 0)),(1,.c (.v (P b2)))] [(100000,⟨.lit [.v (S s t u),.v (I J x)],133⟩)] (by kernel_rfl) ⟨⟨hw100000,hx100000⟩,trivial,trivial⟩ h (by kernel_rfl)
end Go.Proofs.Tryz
