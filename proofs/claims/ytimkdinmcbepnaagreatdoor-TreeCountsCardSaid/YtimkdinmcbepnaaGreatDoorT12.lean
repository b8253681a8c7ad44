/- A part of the proof (joined by program from: RefB, RefC, TreeP, VGeo, GeoA, GeoB, GeoC, LineA, VBsp, TreeA, TreeB). -/
import Derived.Test.YtimkdinmcbepnaaGreatDoorT11
import Derived.Test.YtimkdinmcbepnaaGreatDoorT5
set_option linter.unusedVariables false
open Go.IntKind (i64 u64 u32)
/- Contracts of the references 01 and 04: SameN, SameI, lines. -/
namespace Go.Eng
open Go.Big
/-- A line with integer coefficients, of the reference or of package api. -/
def RL (V:View) (v:Value) (a b c:Int):Prop:=∃p n s p' n' s' q m e,v=.agg #[.bool (decide (a < 0)),.slice p n s,.bool (decide (b < 0)),.slice p' n' s',.bool (decide (c < 0)),.slice q m e] /\
 RD V p n s (digs a.natAbs)/\RD V p' n' s' (digs b.natAbs)/\RD V q m e (digs c.natAbs)
theorem RL.le {V V':View} {v:Value} {a b c:Int} (h:RL V v a b c) (l:V.Le V'):RL V' v a b c:=by
 obtain ⟨p,n,s,p',n',s',q,m,e,rfl,h1,h2,h3⟩:=h
 exact ⟨p,n,s,p',n',s',q,m,e,rfl,h1.le l,h2.le l,h3.le l⟩
end Go.Eng
namespace Go.Proofs.Tryz
open Go.Eng Go.Big
theorem c_ref01_SameN {V:View} {p q:OA} {n c m e:Nat} {xs ys:List Nat} (hx:RD V p n c xs) (hy:RD V q m e ys) (hm:xs.length<=1099511627776) :
  Acts prog 98 #[.slice p n c,.slice q m e] V fun r V'=>r=.bool (decide (xs=ys)):=by
 have hlx:=hx.len
 have hly:=hy.len
 refine vc_ref01_SameN p n c q m e V _ ⟨fun h0 V1 l1=>?_,fun h0=>?_⟩
 ·have h0:n≠m:=by simp at h0; omega
  rw [decide_eq_false fun h=>h0 (by rw [hlx,hly,h])]
 ·have h0:n=m:=by simp at h0; omega
  refine ⟨fun z V'=>0<=z/\z<=n/\xs.take z.toNat=ys.take z.toNat,fun z=>n - z.toNat,⟨0,by (try dsimp only); and_intros <;> first | exact True.intro | rfl,by (try dsimp only); omega,by (try dsimp only); omega,rfl⟩,?_⟩
  rintro i V2 l2 ⟨hi0,hi1,ht⟩
  dsimp only at hi1 ht ⊢
  obtain ⟨i,rfl⟩:=Int.eq_ofNat_of_zero_le hi0
  simp only [Int.toNat_natCast] at ht
  refine ⟨by trivial,fun h3=>?_,fun h3 V4 l4=>?_⟩
  ·have h3:i < n:=by simpa using h3
   refine (hx.le l2).rd i rfl (by omega) ((hy.le l2).rd i rfl (by omega) ⟨fun h4 V8 l8=>?_,fun h4=>?_⟩)
   ·have h4:xs[i]≠ys[i]:=by simp at h4; omega
    rw [decide_eq_false fun h=>h4 (by subst h; rfl)]
   ·have h4:xs[i]=ys[i]:=by simp at h4; omega
    have w:i64.wrap ((i:Int) + 1)=((i + 1:Nat):Int):=by rw [i64w (by omega)]; omega
    simp only [w]
    refine ⟨((i + 1:Nat):Int),?_,by (try dsimp only); and_intros <;> first | exact True.intro | rfl,by (try dsimp only); omega,by (try dsimp only); omega,?_⟩
    ·(try dsimp only); omega
    ·(try dsimp only)
     simp only [Int.toNat_natCast]
     rw [List.take_succ_eq_append_getElem (by omega),List.take_succ_eq_append_getElem (l:=ys) (by omega),ht,h4]
  ·have h3:i=n:=by simp at h3; omega
   rw [List.take_of_length_le (by omega),List.take_of_length_le (by omega)] at ht
   rw [decide_eq_true ht]
theorem same_int {z w:Int}:(decide (z < 0) == decide (w < 0))=true->(decide (digs z.natAbs=digs w.natAbs)=decide (z=w)):=by
 intro h
 have h1:(z < 0↔w < 0):=by simpa using h
 rw [Bool.eq_iff_iff,decide_eq_true_eq,decide_eq_true_eq]
 constructor
 ·intro h2
  have:=digs_inj h2
  omega
 ·intro h2; rw [h2]
theorem c_ref01_SameI {V:View} {z w:Int} {p q:OA} {n c m e:Nat} (hx:RD V p n c (digs z.natAbs)) (hy:RD V q m e (digs w.natAbs)) (hm:(digs z.natAbs).length<=1099511627776) :
  Acts prog 97 #[.agg #[.bool (decide (z < 0)),.slice p n c],.agg #[.bool (decide (w < 0)),.slice q m e]] V fun r V'=>r=.bool (decide (z=w)):=by
 refine vc_ref01_SameI _ p n c _ q m e V _ ⟨fun h0 V1 l1=>(c_ref01_SameN (hx.le l1) (hy.le l1) hm).mono ?_,fun h0 V1 l1=>?_⟩
 ·rintro r V2 l2 rfl
  refine ⟨_,rfl,fun V3 l3=>?_⟩
  rw [same_int h0]
 ·rw [decide_eq_false fun h=>by subst h; simp at h0]
theorem c_ref04_SameL {V:View} {v w:Value} {a b c a' b' c':Int} (hx:RL V v a b c) (hy:RL V w a' b' c') (h1:(digs a.natAbs).length<=1099511627776) (h2:(digs b.natAbs).length<=1099511627776) (h3:(digs c.natAbs).length<=1099511627776) :
  Acts prog 123 #[v,w] V fun r V'=>r=.bool (decide (a=a'/\b=b'/\c=c')):=by
 obtain ⟨p,n,s,p',n',s',q,m,e,rfl,x1,x2,x3⟩:=hx
 obtain ⟨i,j,k,i',j',k',i2,j2,k2,rfl,y1,y2,y3⟩:=hy
 refine vc_ref04_SameL _ p n s _ p' n' s' _ q m e _ i j k _ i' j' k' _ i2 j2 k2 V _ fun V1 l1=>(c_ref01_SameI (x1.le l1) (y1.le l1) h1).mono ?_
 rintro r V2 l2 rfl
 refine ⟨_,rfl,fun g1 V3 l3=>(c_ref01_SameI (x2.le (l1.trans (l2.trans l3))) (y2.le (l1.trans (l2.trans l3))) h2).mono ?_,fun g1 V9 l9=>?_⟩
 ·rintro r V4 l4 rfl
  rw [decide_eq_true_eq] at g1
  refine ⟨_,rfl,fun g2 V5 l5=>(c_ref01_SameI (x3.le (l1.trans (l2.trans (l3.trans (l4.trans l5))))) (y3.le (l1.trans (l2.trans (l3.trans (l4.trans l5))))) h3).mono ?_,fun g2 V8 l8=>?_⟩
  ·rintro r V6 l6 rfl
   rw [decide_eq_true_eq] at g2
   refine ⟨_,rfl,fun V7 l7=>?_⟩
   congr 1
   rw [Bool.eq_iff_iff,decide_eq_true_eq,decide_eq_true_eq]
   exact ⟨fun h=>⟨g1,g2,h⟩,fun h=>h.2.2⟩
  ·rw [decide_eq_false_iff_not] at g2
   rw [decide_eq_false fun h=>g2 h.2.1]
 ·rw [decide_eq_false_iff_not] at g1
  rw [decide_eq_false fun h=>g1 h.1]
theorem c_ref04_ToL {V:View} {v:Value} {a b c:Int} (hx:RL V v a b c) (h1:(digs a.natAbs).length<=1099511627776) (h2:(digs b.natAbs).length<=1099511627776) (h3:(digs c.natAbs).length<=1099511627776) :
  Acts prog 122 #[v] V fun r V'=>RL V' r a b c:=by
 obtain ⟨p,n,s,p',n',s',q,m,e,rfl,x1,x2,x3⟩:=hx
 refine vc_ref04_ToL _ p n s _ p' n' s' _ q m e V _ fun V1 l1=>(c_ref01_ToI ⟨_,_,_,rfl,x1.le l1⟩ h1).mono ?_
 rintro r V2 l2 ⟨p1,n1,c1,rfl,g1⟩
 refine ⟨_,_,_,_,rfl,fun V3 l3=>(c_ref01_ToI ⟨_,_,_,rfl,x2.le (l1.trans (l2.trans l3))⟩ h2).mono ?_⟩
 rintro r V4 l4 ⟨p2,n2,c2,rfl,g2⟩
 refine ⟨_,_,_,_,rfl,fun V5 l5=>(c_ref01_ToI ⟨_,_,_,rfl,x3.le (l1.trans (l2.trans (l3.trans (l4.trans l5))))⟩ h3).mono ?_⟩
 rintro r V6 l6 ⟨p3,n3,c3,rfl,g3⟩
 exact ⟨_,_,_,_,rfl,fun V7 l7=>⟨_,_,_,_,_,_,_,_,_,rfl,g1.le (l3.trans (l4.trans (l5.trans (l6.trans l7)))),g2.le (l5.trans (l6.trans l7)),g3.le l7⟩⟩
end Go.Proofs.Tryz
/- Contracts of the reference 04: MakeL. -/
namespace Go.Proofs.Tryz
open Go.Eng Go.Big
theorem div_sign {z:Int} {g:Nat} (hg:0 < g) (hd:g ∣ z.natAbs):(if decide (z < 0)=true then -((z.natAbs / g:Nat):Int) else ((z.natAbs / g:Nat):Int))=z / (g:Int):=by
 obtain ⟨k,hk⟩:=hd
 have hk1:z.natAbs / g=k:=by rw [hk,Nat.mul_div_cancel_left _ hg]
 rw [hk1]
 have hz:z=(g:Int) * (if decide (z < 0)=true then -(k:Int) else k):=by
  split
  ·rename_i h
   rw [decide_eq_true_eq] at h
   rw [Int.mul_neg,← Int.natCast_mul,← hk]; omega
  ·rename_i h
   rw [decide_eq_true_eq] at h
   rw [← Int.natCast_mul,← hk]; omega
 generalize (if decide (z < 0)=true then -(k:Int) else k)=t at *
 rw [hz,Int.mul_ediv_cancel_left _ (by omega)]
/-- The greatest common divisor of three coefficients. -/
def gcd3 (a b c:Int):Nat:=Nat.gcd (Nat.gcd a.natAbs b.natAbs) c.natAbs
theorem c_ref04_MakeL {V:View} {u v w:Value} {a b c:Int} (ha:RI V u a) (hb:RI V v b) (hc:RI V w c) (h1:(digs a.natAbs).length<=274877906944) (h2:(digs b.natAbs).length<=274877906944) (h3:(digs c.natAbs).length<=274877906944) :
  Acts prog 169 #[u,v,w] V fun r V'=>(a=0/\b=0->∃l,r=.tuple #[l,.bool false]/\RL V' l 0 0 0) /\
   (¬ (a=0/\b=0)->∃l,r=.tuple #[l,.bool true]/\RL V' l (a / (gcd3 a b c:Int)) (b / (gcd3 a b c:Int)) (c / (gcd3 a b c:Int))):=by
 obtain ⟨p,n,s,rfl,ha⟩:=ha
 obtain ⟨p',n',s',rfl,hb⟩:=hb
 obtain ⟨q,m,e,rfl,hc⟩:=hc
 refine vc_ref04_MakeL _ p n s _ p' n' s' _ q m e V _ fun V1 l1=>(c_num_Common (ha.le l1) (hb.le l1) h1 h2).mono ?_
 rintro r V2 l2 ⟨p1,n1,c1,rfl,g1⟩
 have hp:=len_pos_digs g1.len
 have hab:Nat.gcd a.natAbs b.natAbs=0↔a=0/\b=0:=by rw [Nat.gcd_eq_zero_iff]; omega
 refine ⟨_,_,_,rfl,fun h0 V3 l3=>⟨fun _=>⟨_,rfl,_,_,_,_,_,_,_,_,_,rfl,RD.nil,RD.nil,RD.nil⟩,fun h=>?_⟩,fun h0 V4 l4=>?_⟩
 ·exact absurd (hab.1 (by simp at h0; omega)) h
 have hne:¬ (a=0/\b=0):=fun h=>by have:=hab.2 h; simp at h0; omega
 have hg0:0 < Nat.gcd a.natAbs b.natAbs:=by have:=hab; omega
 have hgl:(digs (Nat.gcd a.natAbs b.natAbs)).length<=274877906944:=by
  rcases Nat.eq_zero_or_pos a.natAbs with h | h
  ·rw [h,Nat.gcd_zero_left]; exact h2
  ·exact Nat.le_trans (digs_len_mono (Nat.gcd_le_left _ h)) h1
 refine (c_num_Common (g1.le l4) (hc.le (l1.trans (l2.trans l4))) hgl h3).mono ?_
 rintro r V5 l5 ⟨p2,n2,c2,rfl,g2⟩
 have l05:=l1.trans (l2.trans (l4.trans l5))
 have e3:Nat.gcd (Nat.gcd a.natAbs b.natAbs) c.natAbs=gcd3 a b c:=rfl
 have hG0:0 < gcd3 a b c:=Nat.gcd_pos_of_pos_left _ hg0
 have hGl:(digs (gcd3 a b c)).length<=274877906944:=Nat.le_trans (digs_len_mono (Nat.gcd_le_left _ hg0)) hgl
 have da:gcd3 a b c ∣ a.natAbs:=Nat.dvd_trans (Nat.gcd_dvd_left _ _) (Nat.gcd_dvd_left _ _)
 have db:gcd3 a b c ∣ b.natAbs:=Nat.dvd_trans (Nat.gcd_dvd_left _ _) (Nat.gcd_dvd_right _ _)
 have dc:gcd3 a b c ∣ c.natAbs:=Nat.gcd_dvd_right _ _
 have sa:=div_sign hG0 da
 have sb:=div_sign hG0 db
 have sc:=div_sign hG0 dc
 rw [e3] at g2
 generalize gcd3 a b c=G at *
 refine ⟨_,_,_,rfl,fun V6 l6=>(c_num_Divide (ha.le (l05.trans l6)) (g2.le l6) h1 hGl hG0).mono ?_⟩
 rintro r V7 l7 ⟨p3,n3,c3,p4,n4,c4,rfl,g3,-⟩
 have l07:=l6.trans l7
 refine ⟨_,_,_,_,_,_,rfl,fun V8 l8=>(c_num_Divide (hb.le (l05.trans (l07.trans l8))) (g2.le (l07.trans l8)) h2 hGl hG0).mono ?_⟩
 rintro r V9 l9 ⟨p5,n5,c5,p6,n6,c6,rfl,g5,-⟩
 have l09:=l07.trans (l8.trans l9)
 refine ⟨_,_,_,_,_,_,rfl,fun V10 l10=>(c_num_Divide (hc.le (l05.trans (l09.trans l10))) (g2.le (l09.trans l10)) h3 hGl hG0).mono ?_⟩
 rintro r V11 l11 ⟨p7,n7,c7,p8,n8,c8,rfl,g7,-⟩
 refine ⟨_,_,_,_,_,_,rfl,fun V12 l12=>(c_num_Make _ (g3.le (l8.trans (l9.trans (l10.trans (l11.trans l12)))))).mono ?_⟩
 rw [sa]
 rintro r V13 l13 ⟨p9,n9,c9,rfl,g9⟩
 refine ⟨_,_,_,_,rfl,fun V14 l14=>(c_num_Make _ (g5.le (l10.trans (l11.trans (l12.trans (l13.trans l14)))))).mono ?_⟩
 rw [sb]
 rintro r V15 l15 ⟨p10,n10,c10,rfl,g10⟩
 refine ⟨_,_,_,_,rfl,fun V16 l16=>(c_num_Make _ (g7.le (l12.trans (l13.trans (l14.trans (l15.trans l16)))))).mono ?_⟩
 rw [sc]
 rintro r V17 l17 ⟨p11,n11,c11,rfl,g11⟩
 refine ⟨_,_,_,_,rfl,fun V18 l18=>⟨fun h=>absurd h hne,fun _=>⟨_,rfl,_,_,_,_,_,_,_,_,_,rfl,?_,?_,?_⟩⟩⟩
 ·exact g9.le (l14.trans (l15.trans (l16.trans (l17.trans l18))))
 ·exact g10.le (l16.trans (l17.trans l18))
 ·exact g11.le l18
end Go.Proofs.Tryz
/- Trees and their lists of nodes: plain laws, no program in sight. -/
namespace Go.Proofs.Tryz
open Go.Eng Go.Big
/-- A line: its integer coefficients. -/
abbrev L3:=Int × Int × Int
def okL (x:L3):Bool:=decide (¬ (x.1=0/\x.2.1=0)) && decide (gcd3 x.1 x.2.1 x.2.2=1)
def Bd (x:L3):Prop:=x.1.natAbs < 2 ^ 1000/\x.2.1.natAbs < 2 ^ 1000/\x.2.2.natAbs < 2 ^ 1000
inductive Tr where
 | leaf (i:Bool) | node (l:L3) (a b:Tr)
 deriving DecidableEq
structure Nd where
 ln:L3
 left:Int
 right:Int
 deriving DecidableEq
def Tr.size:Tr->Nat
 | .leaf _=>0
 | .node _ a b=>a.size + b.size + 1
def Tr.isLeaf:Tr->Bool
 | .leaf _=>true
 | .node ..=>false
def Tr.All (p:L3->Prop):Tr->Prop
 | .leaf _=>True
 | .node l a b=>p l/\a.All p/\b.All p
theorem Tr.All.imp {p q:L3->Prop} (h:∀x,p x->q x):∀{t:Tr},t.All p->t.All q
 | .leaf _,_=>trivial
 | .node _ _ _,⟨h1,h2,h3⟩=>⟨h _ h1,Tr.All.imp h h2,Tr.All.imp h h3⟩
/-- The number of the root, when the nodes are written from place k on. -/
def rt (k:Nat):Tr->Int
 | .leaf i=>if i then -2 else -1
 | .node ..=>(k:Int)
/-- The nodes in order, from place k on. -/
def wr:Nat->Tr->List Nd
 | _,.leaf _=>[]
 | k,.node l a b=>⟨l,rt (k + 1) a,rt (k + 1 + a.size) b⟩ :: (wr (k + 1) a++wr (k + 1 + a.size) b)
theorem wr_length:∀(t:Tr) (k:Nat),(wr k t).length=t.size
 | .leaf _,_=>rfl
 | .node _ a b,k=>by simp only [wr,List.length_cons,List.length_append,wr_length a,wr_length b,Tr.size]
/-- Node n of the list stands for the tree; its nodes' numbers. -/
def Rep (l:List Nd):Int->Tr->List Nat->Prop
 | n,.leaf i,I=>n=(if i then -2 else -1)/\I=[]
 | n,.node ln a b,I=>∃(k:Nat) (x:Nd) (A B:List Nat),n=(k:Int)/\l[k]?=some x/\x.ln=ln/\Rep l x.left a A/\Rep l x.right b B/\I=k :: (A++B)
theorem rep_wr:∀(t:Tr) (l pre post:List Nd) (k:Nat),l=pre++(wr k t++post)->pre.length=k->Rep l (rt k t) t (List.range' k t.size)
 | .leaf i,l,pre,post,k,_,_=>⟨rfl,rfl⟩
 | .node ln a b,l,pre,post,k,hl,hp=>by
  refine ⟨k,⟨ln,rt (k + 1) a,rt (k + 1 + a.size) b⟩,List.range' (k + 1) a.size,List.range' (k + 1 + a.size) b.size,rfl,?_,rfl,?_,?_,?_⟩
  ·subst hl
   rw [List.getElem?_append_right (by omega)]
   simp [hp,wr]
  ·refine rep_wr a l (pre++[⟨ln,rt (k + 1) a,rt (k + 1 + a.size) b⟩]) (wr (k + 1 + a.size) b++post) (k + 1) ?_ (by simp [hp])
   rw [hl]; simp [wr]
  ·refine rep_wr b l (pre++(⟨ln,rt (k + 1) a,rt (k + 1 + a.size) b⟩ :: wr (k + 1) a)) post (k + 1 + a.size) ?_ (by simp [hp,wr_length]; omega)
   rw [hl]; simp [wr]
  ·simp only [Tr.size]
   rw [List.range'_succ,← List.range'_append_1]
/-! reading a list of nodes -/
structure RS where
 seen:List Bool
 cnt:Nat
 bad:Bool
def prt (l:List Nd):Nat->Int->RS->Tr × RS
 | 0,_,s=>(.leaf false,s)
 | f + 1,n,s=>
  if n=-2 then (.leaf true,s) else if n=-1 then (.leaf false,s) else if n < 0 then (.leaf false,{ s with bad:=true })
  else match l[n.toNat]?,s.seen[n.toNat]? with
   | some x,some false=>
    if okL x.ln then
     let r1:=prt l f x.left ⟨s.seen.set n.toNat true,s.cnt + 1,s.bad⟩
     let r2:=prt l f x.right r1.2
     (.node x.ln r1.1 r2.1,r2.2)
    else (.leaf false,⟨s.seen.set n.toNat true,s.cnt + 1,true⟩)
   | _,_=>(.leaf false,{ s with bad:=true })
theorem count_set {l:List Bool} {k:Nat} (h:l[k]?=some false):(l.set k true).count false + 1=l.count false:=by
 induction l generalizing k with
 | nil=>simp at h
 | cons x r ih=>
  cases k with
  | zero=>simp at h; subst h; simp
  | succ k=>
   simp at h
   have:=ih h
   simp only [List.set_cons_succ,List.count_cons]
   omega
theorem prt_mono (l:List Nd):∀(f:Nat) (n:Int) (s:RS),(prt l f n s).2.seen.count false<=s.seen.count false/\(prt l f n s).2.seen.length=s.seen.length
 | 0,_,_=>⟨Nat.le_refl _,rfl⟩
 | f + 1,n,s=>by
  simp only [prt]
  split
  ·exact ⟨Nat.le_refl _,rfl⟩
  ·split
   ·exact ⟨Nat.le_refl _,rfl⟩
   ·split
    ·exact ⟨Nat.le_refl _,rfl⟩
    ·split
     ·rename_i x hx hs
      have hc:=count_set hs
      split
      ·obtain ⟨h1,h2⟩:=prt_mono l f x.left ⟨s.seen.set n.toNat true,s.cnt + 1,s.bad⟩
       obtain ⟨h3,h4⟩:=prt_mono l f x.right (prt l f x.left ⟨s.seen.set n.toNat true,s.cnt + 1,s.bad⟩).2
       dsimp only at h1 h2 h3 h4 ⊢
       exact ⟨by omega,by rw [h4,h2,List.length_set]⟩
      ·dsimp only; exact ⟨by omega,by simp⟩
     ·exact ⟨Nat.le_refl _,rfl⟩
theorem prt_cnt (l:List Nd):∀(f:Nat) (n:Int) (s:RS),(prt l f n s).2.cnt + (prt l f n s).2.seen.count false=s.cnt + s.seen.count false
 | 0,_,_=>rfl
 | f + 1,n,s=>by
  simp only [prt]
  split
  ·rfl
  ·split
   ·rfl
   ·split
    ·rfl
    ·split
     ·rename_i x hx hs
      have hc:=count_set hs
      split
      ·have h1:=prt_cnt l f x.left ⟨s.seen.set n.toNat true,s.cnt + 1,s.bad⟩
       have h3:=prt_cnt l f x.right (prt l f x.left ⟨s.seen.set n.toNat true,s.cnt + 1,s.bad⟩).2
       dsimp only at h1 h3 ⊢
       omega
      ·dsimp only; omega
     ·rfl
theorem prt_all {p:L3->Prop} {l:List Nd} (hl:∀x ∈ l,p x.ln):∀(f:Nat) (n:Int) (s:RS),(prt l f n s).1.All p
 | 0,_,_=>trivial
 | f + 1,n,s=>by
  simp only [prt]
  split
  ·trivial
  ·split
   ·trivial
   ·split
    ·trivial
    ·split
     ·rename_i x hx hs
      split
      ·exact ⟨hl x (List.mem_of_getElem? hx),prt_all hl f _ _,prt_all hl f _ _⟩
      ·trivial
     ·trivial
theorem prt_size (l:List Nd):∀(f:Nat) (n:Int) (s:RS),(prt l f n s).1.size + s.cnt<=(prt l f n s).2.cnt
 | 0,_,_=>by simp [prt,Tr.size]
 | f + 1,n,s=>by
  simp only [prt]
  split
  ·simp [Tr.size]
  ·split
   ·simp [Tr.size]
   ·split
    ·simp [Tr.size]
    ·split
     ·split
      ·rename_i x hx hs hok
       have h1:=prt_size l f x.left ⟨s.seen.set n.toNat true,s.cnt + 1,s.bad⟩
       have h3:=prt_size l f x.right (prt l f x.left ⟨s.seen.set n.toNat true,s.cnt + 1,s.bad⟩).2
       dsimp only at h1 h3 ⊢
       simp only [Tr.size]
       omega
      ·simp [Tr.size]
     ·simp [Tr.size]
def setAll (s:List Bool) (I:List Nat):List Bool:=I.foldl (fun s k=>s.set k true) s
theorem setAll_get:∀(I:List Nat) (s:List Bool) (k:Nat),k ∉ I->(setAll s I)[k]?=s[k]?
 | [],_,_,_=>rfl
 | i :: r,s,k,h=>by
  have:=setAll_get r (s.set i true) k (fun h'=>h (List.mem_cons_of_mem _ h'))
  unfold setAll at this ⊢
  rw [List.foldl_cons,this,List.getElem?_set_ne (fun e=>h (by simp [e]))]
/-- A tree is read as what it stands for. -/
theorem prt_rep (l:List Nd):∀(t:Tr) (f:Nat) (n:Int) (s:RS) (I:List Nat),Rep l n t I->I.Nodup->(∀k ∈ I,s.seen[k]?=some false)->t.All (fun x=>okL x=true)->t.size < f->prt l f n s=(t,⟨setAll s.seen I,s.cnt + t.size,s.bad⟩)
 | .leaf i,f,n,s,I,⟨h1,h2⟩,_,_,_,hf=>by
  subst h2
  obtain ⟨f,rfl⟩:∃g,f=g + 1:=⟨f - 1,by simp [Tr.size] at hf; omega⟩
  cases i with
  | true=>simp only [if_true] at h1; subst h1; simp [prt,setAll,Tr.size]
  | false=>
   have h1:n=-1:=by simpa using h1
   subst h1; simp [prt,setAll,Tr.size]
 | .node ln a b,f,n,s,I,⟨k,x,A,B,h1,h2,h3,h4,h5,h6⟩,hnd,hun,hok,hf=>by
  subst h1 h3 h6
  obtain ⟨f,rfl⟩:∃g,f=g + 1:=⟨f - 1,by simp [Tr.size] at hf; omega⟩
  rw [List.nodup_cons,List.nodup_append] at hnd
  obtain ⟨hk,hA,hB,hAB⟩:=hnd
  have hks:=hun k (by simp)
  simp only [Tr.size] at hf
  have e1:=prt_rep l a f x.left ⟨s.seen.set k true,s.cnt + 1,s.bad⟩ A h4 hA (fun j hj=>by
   have:k≠j:=fun e=>hk (by rw [e]; simp [hj])
   dsimp only
   rw [List.getElem?_set_ne this]
   exact hun j (by simp [hj])) hok.2.1 (by omega)
  have e2:=prt_rep l b f x.right ⟨setAll (s.seen.set k true) A,s.cnt + 1 + a.size,s.bad⟩ B h5 hB (fun j hj=>by
   have:k≠j:=fun e=>hk (by rw [e]; simp [hj])
   dsimp only
   rw [setAll_get A _ j (fun h=>hAB j h j hj rfl),List.getElem?_set_ne this]
   exact hun j (by simp [hj])) hok.2.2 (by omega)
  have hn1:¬ ((k:Int)=-2):=by omega
  have hn2:¬ ((k:Int)=-1):=by omega
  have hn3:¬ ((k:Int) < 0):=by omega
  have e0:prt l (f + 1) (k:Int) s=(.node x.ln (prt l f x.left ⟨s.seen.set k true,s.cnt + 1,s.bad⟩).1 (prt l f x.right (prt l f x.left ⟨s.seen.set k true,s.cnt + 1,s.bad⟩).2).1,(prt l f x.right (prt l f x.left ⟨s.seen.set k true,s.cnt + 1,s.bad⟩).2).2):=by
   rw [prt]
   rw [if_neg hn1,if_neg hn2,if_neg hn3]
   simp only [Int.toNat_natCast,h2,hks,hok.1,if_true]
  rw [e0,e1]
  dsimp only
  rw [e2]
  simp only [setAll,List.foldl_cons,List.foldl_append,Tr.size,Prod.mk.injEq,RS.mk.injEq,true_and]
  first | omega | exact ⟨by omega,trivial⟩
/-- What 'bsp.Of' gives. -/
def ofT (l:List Nd) (root:Int):Option Tr:=
 if 65536 < l.length then none else
 let r:=prt l (l.length + 1) root ⟨List.replicate l.length false,0,false⟩
 if r.2.bad=true \/ r.2.cnt≠l.length then none else some r.1
theorem ofT_rep {l:List Nd} {n:Int} {t:Tr} {I:List Nat} (h:Rep l n t I) (hn:I.Nodup) (hI:∀k ∈ I,k < l.length) (hs:t.size=l.length) (hok:t.All fun x=>okL x=true) (hl:l.length<=65536):ofT l n=some t:=by
 unfold ofT
 rw [if_neg (by omega)]
 rw [prt_rep l t (l.length + 1) n _ I h hn (fun k hk=>by simp [hI k hk]) hok (by omega)]
 simp [hs]
theorem ofT_wr {t:Tr} (hok:t.All fun x=>okL x=true) (hl:t.size<=65536):ofT (wr 0 t) (rt 0 t)=some t:=by
 have h:=rep_wr t (wr 0 t) [] [] 0 (by simp) rfl
 refine ofT_rep h List.nodup_range' (fun k hk=>?_) (wr_length t 0).symm hok (by rw [wr_length]; exact hl)
 rw [wr_length]
 have:=List.mem_range'_1.1 hk
 omega
theorem ofT_all {p:L3->Prop} {l:List Nd} {n:Int} {t:Tr} (hl:∀x ∈ l,p x.ln) (h:ofT l n=some t):t.All p:=by
 unfold ofT at h
 split at h
 ·cases h
 ·dsimp only at h
  split at h
  ·cases h
  ·cases h; exact prt_all hl _ _ _
theorem ofT_size {l:List Nd} {n:Int} {t:Tr} (h:ofT l n=some t):t.size<=65536:=by
 unfold ofT at h
 split at h
 ·cases h
 ·dsimp only at h
  split at h
  ·cases h
  ·rename_i h1 h2
   cases h
   have:=prt_size l (l.length + 1) n ⟨List.replicate l.length false,0,false⟩
   dsimp only at this
   have h3:(prt l (l.length + 1) n ⟨List.replicate l.length false,0,false⟩).2.cnt=l.length:=by
    rcases Nat.lt_or_ge 0 1 with _ | h
    ·by_cases e:(prt l (l.length + 1) n ⟨List.replicate l.length false,0,false⟩).2.cnt=l.length
     ·exact e
     ·exact absurd (.inr e) h2
    ·omega
   omega
/-! the nodes in another order -/
def mvN (n by_ i:Nat):Nat:=n - 1 - (i + by_) % n
def mv (n by_:Nat) (i:Int):Int:=if i < 0 then i else (mvN n by_ i.toNat:Int)
def mvd (n by_:Nat) (d:Nd):Nd:=⟨d.ln,mv n by_ d.left,mv n by_ d.right⟩
theorem mvN_lt {n b i:Nat} (hn:0 < n):mvN n b i < n:=by unfold mvN; omega
theorem mvN_inj {n b i j:Nat} (hi:i < n) (hj:j < n) (h:mvN n b i=mvN n b j):i=j:=by
 unfold mvN at h
 have h1:=Nat.mod_lt (i + b) (show 0 < n by omega)
 have h2:=Nat.mod_lt (j + b) (show 0 < n by omega)
 have h3:(i + b) % n=(j + b) % n:=by omega
 have key:∀x y:Nat,x < n->y < n->x<=y->(x + b) % n=(y + b) % n->x=y:=by
  intro x y hx hy hxy e
  have h5:(y + b) % n=((x + b) % n + (y - x)) % n:=by
   rw [Nat.mod_add_mod]; congr 1; omega
  rw [← e] at h5
  have h6:=Nat.mod_lt (x + b) (show 0 < n by omega)
  clear h h1 h2 h3 e
  generalize (x + b) % n=r at h5 h6
  rcases Nat.lt_or_ge (r + (y - x)) n with h7 | h7
  ·rw [Nat.mod_eq_of_lt h7] at h5; omega
  ·rw [Nat.mod_eq_sub_mod h7,Nat.mod_eq_of_lt (by omega)] at h5; omega
 rcases Nat.le_total i j with h | h
 ·exact key i j hi hj h h3
 ·exact (key j i hj hi h h3.symm).symm
theorem rep_mv {l l':List Nd} {b:Nat} (hl':∀i d,l[i]?=some d->l'[mvN l.length b i]?=some (mvd l.length b d)):∀(t:Tr) (n:Int) (I:List Nat),Rep l n t I->Rep l' (mv l.length b n) t (I.map (mvN l.length b))
 | .leaf i,n,I,⟨h1,h2⟩=>by
  subst h2
  refine ⟨?_,rfl⟩
  unfold mv
  rw [if_pos (by rw [h1]; cases i <;> simp)]
  exact h1
 | .node ln x y,n,I,⟨k,d,A,B,h1,h2,h3,h4,h5,h6⟩=>by
  subst h1 h6
  refine ⟨mvN l.length b k,mvd l.length b d,A.map (mvN l.length b),B.map (mvN l.length b),?_,hl' k d h2,h3,rep_mv hl' x _ A h4,rep_mv hl' y _ B h5,by simp⟩
  unfold mv
  rw [if_neg (by omega)]
  simp
theorem ofT_mv {t:Tr} {l':List Nd} {b:Nat} (hok:t.All fun x=>okL x=true) (hs:t.size<=65536) (hlen:l'.length=t.size)
  (hl':∀i d,(wr 0 t)[i]?=some d->l'[mvN t.size b i]?=some (mvd t.size b d)):ofT l' (mv t.size b (rt 0 t))=some t:=by
 have hw:=wr_length t 0
 have h:=rep_wr t (wr 0 t) [] [] 0 (by simp) rfl
 have h':=rep_mv (l:=wr 0 t) (l':=l') (b:=b) (by rw [hw]; exact hl') t (rt 0 t) _ h
 rw [hw] at h'
 have hlt:∀k ∈ List.range' 0 t.size,k < t.size:=fun k hk=>by have:=List.mem_range'_1.1 hk; omega
 refine ofT_rep h' ?_ ?_ hlen.symm hok (by omega)
 ·rw [List.nodup_iff_pairwise_ne,List.pairwise_map]
  refine List.Pairwise.imp_of_mem (fun {x y} hx hy hne e=>hne (mvN_inj (hlt x hx) (hlt y hy) e)) (List.nodup_iff_pairwise_ne.1 (List.nodup_range' (s:=0) (n:=t.size) (step:=1)))
 ·intro k hk
  obtain ⟨j,hj,rfl⟩:=List.mem_map.1 hk
  rw [hlen]
  have:=hlt j hj
  exact mvN_lt (by omega)
end Go.Proofs.Tryz
/- By program: the conditions of the functions, from their loaded code. -/
namespace Go.Proofs.Tryz
open Go.Eng
open Go.Value renaming int→I,pointer→P,slice→S,agg→A,bool→B,tuple→T
open Go.IntKind renaming i64→J,u64→U,u32→W
set_option maxRecDepth 100000
theorem vc_geo_LnOf (l:Bool) (m:OA) (n o:Nat) (p:Bool) (q:OA) (r s:Nat) (t:Bool) (u:OA) (w x:Nat) (V:View) (R:VR) (h:(Ca V 214 #[A #[B l,S m n o]] fun d8 a5=>∃y,d8=B y/\(((!y)=true->(Rt a5 R (T #[A #[I J 0,I J 0,P none,I J 0,I J 0,P none,I J 0,I J 0,P none],B false])))/\((!y)=false->(Ca a5 214 #[A #[B p,S q r s]] fun d9 a7=>∃z,d9=B z/\(((!z)=true->(Rt a7 R (T #[A #[I J 0,I J 0,P none,I J 0,I J 0,P none,I J 0,I J 0,P none],B false])))/\((!z)=false->(Ca a7 214 #[A #[B t,S u w x]] fun e0 a9=>∃a0,e0=B a0/\(((!a0)=true->(Rt a9 R (T #[A #[I J 0,I J 0,P none,I J 0,I J 0,P none,I J 0,I J 0,P none],B false])))/\((!a0)=false->(Ca a9 215 #[A #[B l,S m n o]] fun e1 e2=>∃a,∃b,∃c,e1=A #[I J a,I J b,P c]/\(Ca e2 215 #[A #[B p,S q r s]] fun e3 e4=>∃d,∃e,∃f,e3=A #[I J d,I J e,P f]/\(Ca e4 215 #[A #[B t,S u w x]] fun e5 e6=>∃g,∃i,∃k,e5=A #[I J g,I J i,P k]/\(Ca e6 216 #[A #[I J a,I J b,P c]] fun e7 b1=>∃a1,e7=B a1/\((a1=true->(Ca b1 216 #[A #[I J d,I J e,P f]] fun e8 b2=>∃a2,e8=B a2/\((a2=true->(Rt b2 R (T #[A #[I J 0,I J 0,P none,I J 0,I J 0,P none,I J 0,I J 0,P none],B false])))/\(a2=false->(Ca b2 217 #[A #[I J a,I J b,P c],A #[I J d,I J e,P f]] fun e9 f0=>∃b4,∃b5,∃b6,e9=A #[I J b4,I J b5,P b6]/\(Ca f0 217 #[A #[I J b4,I J b5,P b6],A #[I J g,I J i,P k]] fun f1 f2=>∃b7,∃b8,∃b9,f1=A #[I J b7,I J b8,P b9]/\(Ca f2 133 #[I J 1] fun f3 f4=>∃c0,∃c1,∃c2,f3=A #[I J c0,I J c1,P c2]/\(Ca f4 178 #[A #[I J b7,I J b8,P b9],A #[I J c0,I J c1,P c2]] fun f5 c3=>∃a3,f5=B a3/\(((!a3)=true->(Rt c3 R (T #[A #[I J 0,I J 0,P none,I J 0,I J 0,P none,I J 0,I J 0,P none],B false])))/\((!a3)=false->(Rt c3 R (T #[A #[I J a,I J b,P c,I J d,I J e,P f,I J g,I J i,P k],B true]))))))))))))/\(a1=false->(Ca b1 217 #[A #[I J a,I J b,P c],A #[I J d,I J e,P f]] fun f6 f7=>∃c6,∃c7,∃c8,f6=A #[I J c6,I J c7,P c8]/\(Ca f7 217 #[A #[I J c6,I J c7,P c8],A #[I J g,I J i,P k]] fun f8 f9=>∃c9,∃d0,∃d1,f8=A #[I J c9,I J d0,P d1]/\(Ca f9 133 #[I J 1] fun g0 g1=>∃d2,∃d3,∃d4,g0=A #[I J d2,I J d3,P d4]/\(Ca g1 178 #[A #[I J c9,I J d0,P d1],A #[I J d2,I J d3,P d4]] fun g2 d5=>∃a4,g2=B a4/\(((!a4)=true->(Rt d5 R (T #[A #[I J 0,I J 0,P none,I J 0,I J 0,P none,I J 0,I J 0,P none],B false])))/\((!a4)=false->(Rt d5 R (T #[A #[I J a,I J b,P c,I J d,I J e,P f,I J g,I J i,P k],B true])))))))))))))))))))))))):
 Acts prog 170 #[A #[B l,S m n o,B p,S q r s,B t,S u w x]] V R:=
 fd (LF:=LF0) (RF:=[1000010]) [] [] func170 h
theorem vc_geo_Ln_API (a b:Int) (c:OA) (d e:Int) (f:OA) (g i:Int) (k:OA) (V:View) (R:VR) (h:(Ca V 138 #[A #[I J a,I J b,P c]] fun z a0=>∃l,∃m n o,z=A #[B l,S m n o]/\(Ca a0 138 #[A #[I J d,I J e,P f]] fun a1 a2=>∃p,∃q r s,a1=A #[B p,S q r s]/\(Ca a2 138 #[A #[I J g,I J i,P k]] fun a3 a4=>∃t,∃u w x,a3=A #[B t,S u w x]/\(Rt a4 R (A #[B l,S m n o,B p,S q r s,B t,S u w x])))))):
 Acts prog 117 #[A #[I J a,I J b,P c,I J d,I J e,P f,I J g,I J i,P k]] V R:=
 fd (LF:=LF0) (RF:=[1000010]) [] [] func117 h
theorem vc_cmp_Or (e:OA) (a g:Nat) (V:View) (R:VR) (h:(∃(i:Int->VP) (l:Int->Nat),(∃m:Int,(s5 (0:Int) e a g (a:Int) (((0:Int)=m)))/\i m V)/\∀(b:Int) (d:View),V.Le d->i b d->(true=true/\(((decide (b < (a:Int)))=true->(e.isSome=true)/\(0<=b/\b < (a:Int))/\(∃f,(∃n,addrAdd e (b.toNat * 1)=some n/\d.at n (I J f))/\(((f != (0:Int))=true->(Rt d R (I J f)))/\((f != (0:Int))=false->(∃k:Int,l k < l b/\(s5 (0:Int) e a g (a:Int) (((J.wrap (b + (1:Int)))=k)))/\i k d)))))/\((decide (b < (a:Int)))=false->(Rt d R (I J 0))))))):
 Acts prog 210 #[S e a g] V R:=
 fd (LF:=LF0) (RF:=[1000010]) [(3,⟨Int,false,[3,6,7],[],fun q=>[(8,.c (.v (I J q)))],fun q=>[]⟩)] [] func210 h
theorem vc_geo_Ln_Cmp (b c:Int) (d:OA) (e f:Int) (g:OA) (i k:Int) (l:OA) (m n:Int) (o:OA) (p q:Int) (r:OA) (s t:Int) (u:OA) (V:View) (R:VR) (h:(Ca V 129 #[A #[I J b,I J c,P d],A #[I J m,I J n,P o]] fun a2 a3=>∃w,a2=I J w/\(Ca a3 129 #[A #[I J e,I J f,P g],A #[I J p,I J q,P r]] fun a4 a5=>∃x,a4=I J x/\(Ca a5 129 #[A #[I J i,I J k,P l],A #[I J s,I J t,P u]] fun a6 a7=>∃y,a6=I J y/\(∀a,a7.Le a->∀z:Nat,(a.blk z (.cells #[I J w,I J x,I J y] 3 (0,0)))->Acts prog 210 #[S (some ⟨z,0,none⟩) 3 3] a fun a8 a9=>∃a0,a8=I J a0/\∀b0:C->Value,(Rt a9 R (I J a0))))))):
 Acts prog 164 #[A #[I J b,I J c,P d,I J e,I J f,P g,I J i,I J k,P l],A #[I J m,I J n,P o,I J p,I J q,P r,I J s,I J t,P u]] V R:=
 fd (LF:=LF0) (RF:=[210,1000010]) [] [] func164 h
theorem vc_geo_Ln_Equal (a b:Int) (c:OA) (d e:Int) (f:OA) (g i:Int) (k:OA) (l m:Int) (n:OA) (o p:Int) (q:OA) (r s:Int) (t:OA) (V:View) (R:VR) (h:(Ca V 164 #[A #[I J a,I J b,P c,I J d,I J e,P f,I J g,I J i,P k],A #[I J l,I J m,P n,I J o,I J p,P q,I J r,I J s,P t]] fun x y=>∃u,x=I J u/\(Rt y R (B (u == (0:Int)))))):
 Acts prog 166 #[A #[I J a,I J b,P c,I J d,I J e,P f,I J g,I J i,P k],A #[I J l,I J m,P n,I J o,I J p,P q,I J r,I J s,P t]] V R:=
 fd (LF:=LF0) (RF:=[1000010]) [] [] func166 h
end Go.Proofs.Tryz
/- Contracts of package geo: lines. -/
namespace Go.Eng
open Go.Big
/-- A line of package geo. -/
def RLn (V:View) (v:Value) (a b c:Rat):Prop:=∃(x1 x2:Int) (p:OA) (y1 y2:Int) (q:OA) (z1 z2:Int) (r:OA),v=.agg #[.int .i64 x1,.int .i64 x2,.pointer p,.int .i64 y1,.int .i64 y2,.pointer q,.int .i64 z1,.int .i64 z2,.pointer r] /\
 RR V (.agg #[.int .i64 x1,.int .i64 x2,.pointer p]) a/\RR V (.agg #[.int .i64 y1,.int .i64 y2,.pointer q]) b/\RR V (.agg #[.int .i64 z1,.int .i64 z2,.pointer r]) c
/-- The shape of a line of package geo. -/
def LnSh (v:Value):Prop:=∃(x1 x2:Int) (x3:OA) (y1 y2:Int) (y3:OA) (z1 z2:Int) (z3:OA),v=.agg #[.int .i64 x1,.int .i64 x2,.pointer x3,.int .i64 y1,.int .i64 y2,.pointer y3,.int .i64 z1,.int .i64 z2,.pointer z3]
theorem RLn.le {V V':View} {v:Value} {a b c:Rat} (h:RLn V v a b c) (l:V.Le V'):RLn V' v a b c:=by
 obtain ⟨x1,x2,p,y1,y2,q,z1,z2,r,rfl,h1,h2,h3⟩:=h
 exact ⟨x1,x2,p,y1,y2,q,z1,z2,r,rfl,h1.le l,h2.le l,h3.le l⟩
end Go.Eng
namespace Go.Proofs.Tryz
open Go.Eng Go.Big
theorem c_geo_API {V:View} {v:Value} {a b c:Rat} (h:RLn V v a b c) {k:Nat} (s1:Sz k a) (s2:Sz k b) (s3:Sz k c) (hk:k<=1099511627776) :
  Acts prog 117 #[v] V fun r V'=>RL V' r a.num b.num c.num:=by
 obtain ⟨x1,x2,p,y1,y2,q,z1,z2,r,rfl,h1,h2,h3⟩:=h
 refine vc_geo_Ln_API _ _ _ _ _ _ _ _ _ V _ fun V1 l1=>(c_R_Num (h1.le l1) s1 hk).mono ?_
 rintro r V2 l2 ⟨p1,n1,c1,rfl,g1⟩
 refine ⟨_,_,_,_,rfl,fun V3 l3=>(c_R_Num (h2.le (l1.trans (l2.trans l3))) s2 hk).mono ?_⟩
 rintro r V4 l4 ⟨p2,n2,c2,rfl,g2⟩
 refine ⟨_,_,_,_,rfl,fun V5 l5=>(c_R_Num (h3.le (l1.trans (l2.trans (l3.trans (l4.trans l5))))) s3 hk).mono ?_⟩
 rintro r V6 l6 ⟨p3,n3,c3,rfl,g3⟩
 exact ⟨_,_,_,_,rfl,fun V7 l7=>⟨_,_,_,_,_,_,_,_,_,rfl,g1.le (l3.trans (l4.trans (l5.trans (l6.trans l7)))),g2.le (l5.trans (l6.trans l7)),g3.le l7⟩⟩
end Go.Proofs.Tryz
/- Contracts of package geo: LnOf. -/
namespace Go.Proofs.Tryz
open Go.Eng Go.Big
/-- What LnOf decides. -/
def okLn (b1:Bool) (xs:List Nat) (b2:Bool) (ys:List Nat) (b3:Bool) (zs:List Nat):Bool:=
 NrmI b1 xs && NrmI b2 ys && NrmI b3 zs && !(decide ((ival b1 xs:Rat)=0) && decide ((ival b2 ys:Rat)=0)) && decide (gcdQ (gcdQ (ival b1 xs) (ival b2 ys)) (ival b3 zs)=((1:Int):Rat))
theorem ln_bad {V:View} {ok:Bool} {A B C:Rat} (h:ok=false):∃v,Value.tuple #[.agg #[.int .i64 0,.int .i64 0,.pointer none,.int .i64 0,.int .i64 0,.pointer none,.int .i64 0,.int .i64 0,.pointer none],.bool false]=.tuple #[v,.bool ok]/\LnSh v/\(ok=true->RLn V v A B C):=by
 subst h; exact ⟨_,rfl,⟨_,_,_,_,_,_,_,_,_,rfl⟩,fun h=>nomatch h⟩
theorem sz_one:Sz 1 ((1:Int):Rat):=by unfold Sz; decide
theorem c_geo_LnOf {V:View} (b1 b2 b3:Bool) {p q s:OA} {n c m e i j:Nat} {xs ys zs:List Nat} (hx:RD V p n c xs) (hy:RD V q m e ys) (hz:RD V s i j zs)
  (h1:xs.length<=1099511627776) (h2:ys.length<=1099511627776) (h3:zs.length<=1099511627776) {k:Nat} (s1:Sz k (ival b1 xs:Rat)) (s2:Sz k (ival b2 ys:Rat)) (s3:Sz k (ival b3 zs:Rat)) (hk:4 * k + 4 < 1099511627776) :
  Acts prog 170 #[.agg #[.bool b1,.slice p n c,.bool b2,.slice q m e,.bool b3,.slice s i j]] V fun r V'=>∃v,r=.tuple #[v,.bool (okLn b1 xs b2 ys b3 zs)]/\LnSh v/\(okLn b1 xs b2 ys b3 zs=true->RLn V' v (ival b1 xs) (ival b2 ys) (ival b3 zs)):=by
 refine vc_geo_LnOf _ p n c _ q m e _ s i j V _ fun V1 l1=>(c_integer_Normal b1 (hx.le l1) h1).mono ?_
 rintro r V2 l2 rfl
 refine ⟨_,rfl,fun h0 V3 l3=>ln_bad ?_,fun h0 V4 l4=>(c_integer_Normal b2 (hy.le (l1.trans (l2.trans l4))) h2).mono ?_⟩
 ·have h0:NrmI b1 xs=false:=by simpa using h0
  simp [okLn,h0]
 have h0:NrmI b1 xs=true:=by simpa using h0
 rintro r V5 l5 rfl
 refine ⟨_,rfl,fun g0 V6 l6=>ln_bad ?_,fun g0 V7 l7=>(c_integer_Normal b3 (hz.le (l1.trans (l2.trans (l4.trans (l5.trans l7))))) h3).mono ?_⟩
 ·have g0:NrmI b2 ys=false:=by simpa using g0
  simp [okLn,g0]
 have g0:NrmI b2 ys=true:=by simpa using g0
 rintro r V8 l8 rfl
 have l08:=l1.trans (l2.trans (l4.trans (l5.trans (l7.trans l8))))
 refine ⟨_,rfl,fun f0 V9 l9=>ln_bad ?_,fun f0 V10 l10=>(c_frac_Whole b1 (hx.le (l08.trans l10)) h1).mono ?_⟩
 ·have f0:NrmI b3 zs=false:=by simpa using f0
  simp [okLn,f0]
 have f0:NrmI b3 zs=true:=by simpa using f0
 rintro r V11 l11 ra
 obtain ⟨x1,x2,x3,rfl⟩:=ra.shape
 have l011:=l08.trans (l10.trans l11)
 refine ⟨_,_,_,rfl,fun V12 l12=>(c_frac_Whole b2 (hy.le (l011.trans l12)) h2).mono ?_⟩
 rintro r V13 l13 rb
 obtain ⟨y1,y2,y3,rfl⟩:=rb.shape
 have l013:=l011.trans (l12.trans l13)
 refine ⟨_,_,_,rfl,fun V14 l14=>(c_frac_Whole b3 (hz.le (l013.trans l14)) h3).mono ?_⟩
 rintro r V15 l15 rc
 obtain ⟨z1,z2,z3,rfl⟩:=rc.shape
 replace ra:=ra.le (l12.trans (l13.trans (l14.trans l15)))
 replace rb:=rb.le (l14.trans l15)
 have hok:okLn b1 xs b2 ys b3 zs=(!(decide ((ival b1 xs:Rat)=0) && decide ((ival b2 ys:Rat)=0)) && decide (gcdQ (gcdQ (ival b1 xs) (ival b2 ys)) (ival b3 zs)=((1:Int):Rat))):=by
  simp only [okLn,h0,g0,f0,Bool.true_and]
 rw [hok]
 clear hok h0 g0 f0 hx hy hz
 generalize (ival b1 xs:Rat)=A at *
 generalize (ival b2 ys:Rat)=B at *
 generalize (ival b3 zs:Rat)=C at *
 refine ⟨_,_,_,rfl,fun V16 l16=>(c_R_Zero (ra.le l16)).mono ?_⟩
 rintro r V17 l17 rfl
 refine ⟨_,rfl,fun t0 V18 l18=>(c_R_Zero (rb.le (l16.trans (l17.trans l18)))).mono ?_,fun t0 V21 l21=>?_⟩
 ·rintro r V19 l19 rfl
  refine ⟨_,rfl,fun u0 V20 l20=>ln_bad (by rw [t0,u0]; rfl),fun u0 V21 l21=>?_⟩
  have lb:V15.Le V21:=l16.trans (l17.trans (l18.trans (l19.trans l21)))
  have hn:(decide (A=0) && decide (B=0))=false:=by rw [u0,Bool.and_false]
  rw [hn]
  refine (c_frac_Gcd (ra.le lb) (rb.le lb) s1 s2 (by omega)).mono ?_
  rintro r V22 l22 rg
  obtain ⟨g1,g2,g3,rfl⟩:=rg.shape
  refine ⟨_,_,_,rfl,fun V23 l23=>(c_frac_Gcd (rg.le l23) (rc.le (lb.trans (l22.trans l23))) (Sz_gcdQ s1 s2) s3 (by omega)).mono ?_⟩
  rintro r V24 l24 rh
  obtain ⟨h1,h2,h3,rfl⟩:=rh.shape
  refine ⟨_,_,_,rfl,fun V25 l25=>(c_frac_Int 1 (by omega) (by omega)).mono ?_⟩
  rintro r V26 l26 ri
  obtain ⟨i1,i2,i3,rfl⟩:=ri.shape
  refine ⟨_,_,_,rfl,fun V27 l27=>(c_R_Equal (rh.le (l25.trans (l26.trans l27))) (ri.le l27) (Sz_gcdQ (Sz_gcdQ s1 s2) s3) sz_one (by omega)).mono ?_⟩
  rintro r V28 l28 rfl
  have lz:V15.Le V28:=lb.trans (l22.trans (l23.trans (l24.trans (l25.trans (l26.trans (l27.trans l28))))))
  refine ⟨_,rfl,fun w0 V29 l29=>ln_bad ?_,fun w0 V30 l30=>?_⟩
  ·rw [Bool.not_eq_true'] at w0
   rw [w0]; rfl
  ·have w0:decide (gcdQ (gcdQ A B) C=((1:Int):Rat))=true:=by
    cases h:decide (gcdQ (gcdQ A B) C=((1:Int):Rat))
    ·rw [h] at w0; cases w0
    ·rfl
   rw [w0]
   exact ⟨_,rfl,⟨_,_,_,_,_,_,_,_,_,rfl⟩,fun _=>⟨_,_,_,_,_,_,_,_,_,rfl,ra.le (lz.trans l30),rb.le (lz.trans l30),rc.le (lz.trans l30)⟩⟩
 ·have lb:V15.Le V21:=l16.trans (l17.trans l21)
  have hn:(decide (A=0) && decide (B=0))=false:=by rw [t0,Bool.false_and]
  rw [hn]
  refine (c_frac_Gcd (ra.le lb) (rb.le lb) s1 s2 (by omega)).mono ?_
  rintro r V22 l22 rg
  obtain ⟨g1,g2,g3,rfl⟩:=rg.shape
  refine ⟨_,_,_,rfl,fun V23 l23=>(c_frac_Gcd (rg.le l23) (rc.le (lb.trans (l22.trans l23))) (Sz_gcdQ s1 s2) s3 (by omega)).mono ?_⟩
  rintro r V24 l24 rh
  obtain ⟨h1,h2,h3,rfl⟩:=rh.shape
  refine ⟨_,_,_,rfl,fun V25 l25=>(c_frac_Int 1 (by omega) (by omega)).mono ?_⟩
  rintro r V26 l26 ri
  obtain ⟨i1,i2,i3,rfl⟩:=ri.shape
  refine ⟨_,_,_,rfl,fun V27 l27=>(c_R_Equal (rh.le (l25.trans (l26.trans l27))) (ri.le l27) (Sz_gcdQ (Sz_gcdQ s1 s2) s3) sz_one (by omega)).mono ?_⟩
  rintro r V28 l28 rfl
  have lz:V15.Le V28:=lb.trans (l22.trans (l23.trans (l24.trans (l25.trans (l26.trans (l27.trans l28))))))
  refine ⟨_,rfl,fun w0 V29 l29=>ln_bad ?_,fun w0 V30 l30=>?_⟩
  ·rw [Bool.not_eq_true'] at w0
   rw [w0]; rfl
  ·have w0:decide (gcdQ (gcdQ A B) C=((1:Int):Rat))=true:=by
    cases h:decide (gcdQ (gcdQ A B) C=((1:Int):Rat))
    ·rw [h] at w0; cases w0
    ·rfl
   rw [w0]
   exact ⟨_,rfl,⟨_,_,_,_,_,_,_,_,_,rfl⟩,fun _=>⟨_,_,_,_,_,_,_,_,_,rfl,ra.le (lz.trans l30),rb.le (lz.trans l30),rc.le (lz.trans l30)⟩⟩
end Go.Proofs.Tryz
/- Contracts: cmp.Or; geo Cmp, Equal. -/
namespace Go.Proofs.Tryz
open Go.Eng Go.Big
/-- The first that is not 0, or 0. -/
def orI:List Int->Int
 | []=>0
 | x :: r=>if x=0 then orI r else x
def i64s (l:List Int):List Value:=l.map fun x=>Value.int .i64 x
theorem orI_eq {l:List Int}:orI l=0↔∀x ∈ l,x=0:=by
 induction l with
 | nil=>simp [orI]
 | cons x r ih=>
  simp only [orI,List.mem_cons,forall_eq_or_imp]
  split
  ·rename_i h; simp [h,ih]
  ·rename_i h; simp [h]
theorem c_cmp_Or {V:View} {p:OA} {n c:Nat} {l:List Int} (hl:n=l.length) (hs:V.sl p (i64s l)) (hm:l.length<=1099511627776) :
  Acts prog 210 #[.slice p n c] V fun r V'=>r=.int .i64 (orI l):=by
 refine vc_cmp_Or p n c V _ ⟨fun z V'=>0<=z/\z<=n/\orI l=orI (l.drop z.toNat),fun z=>n - z.toNat,⟨0,by (try dsimp only); and_intros <;> first | exact True.intro | rfl,by (try dsimp only); omega,by (try dsimp only); omega,rfl⟩,?_⟩
 rintro i V1 l1 ⟨hi0,hi1,he⟩
 dsimp only at hi1 he ⊢
 obtain ⟨i,rfl⟩:=Int.eq_ofNat_of_zero_le hi0
 simp only [Int.toNat_natCast] at he
 refine ⟨by trivial,fun h3=>?_,fun h3 V3 l3=>?_⟩
 ·have h3:i < n:=by simpa using h3
  have hil:i < l.length:=by omega
  obtain ⟨ad,e1,hat⟩:=(l1.sl hs) i (.int .i64 l[i]) (by simp [i64s,hil])
  rw [List.drop_eq_getElem_cons hil,orI] at he
  refine ⟨by rw [e1]; rfl,⟨by omega,by omega⟩,l[i],⟨ad.add i,by rw [e1]; simp [addrAdd],hat⟩,fun h4 V2 l2=>?_,fun h4=>?_⟩
  ·have h4:l[i]≠0:=by simpa using h4
   rw [if_neg h4] at he
   rw [he]
  ·have h4:l[i]=0:=by simpa using h4
   rw [if_pos h4] at he
   have w:i64.wrap ((i:Int) + 1)=((i + 1:Nat):Int):=by rw [i64w (by omega)]; omega
   simp only [w]
   refine ⟨((i + 1:Nat):Int),?_,by (try dsimp only); and_intros <;> first | exact True.intro | rfl,by (try dsimp only); omega,by (try dsimp only); omega,?_⟩
   ·(try dsimp only); omega
   ·exact he
 ·have h3:i=n:=by simp at h3; omega
  rw [List.drop_of_length_le (by omega)] at he
  rw [he]; rfl
theorem c_geo_Cmp {V:View} {v w:Value} {a b c a' b' c':Rat} (hx:RLn V v a b c) (hy:RLn V w a' b' c') {k m:Nat} (s1:Sz k a) (s2:Sz k b) (s3:Sz k c) (t1:Sz m a') (t2:Sz m b') (t3:Sz m c') (hk:k + m < 1099511627776) :
  Acts prog 164 #[v,w] V fun r V'=>r=.int .i64 (orI [cmpQ a a',cmpQ b b',cmpQ c c']):=by
 obtain ⟨x1,x2,p,y1,y2,q,z1,z2,r,rfl,h1,h2,h3⟩:=hx
 obtain ⟨x3,x4,p',y3,y4,q',z3,z4,r',rfl,g1,g2,g3⟩:=hy
 refine vc_geo_Ln_Cmp _ _ _ _ _ _ _ _ _ _ _ _ _ _ _ _ _ _ V _ fun V1 l1=>(c_R_Cmp (h1.le l1) (g1.le l1) s1 t1 hk).mono ?_
 rintro r V2 l2 rfl
 refine ⟨_,rfl,fun V3 l3=>(c_R_Cmp (h2.le (l1.trans (l2.trans l3))) (g2.le (l1.trans (l2.trans l3))) s2 t2 hk).mono ?_⟩
 rintro r V4 l4 rfl
 have l04:=l1.trans (l2.trans (l3.trans l4))
 refine ⟨_,rfl,fun V5 l5=>(c_R_Cmp (h3.le (l04.trans l5)) (g3.le (l04.trans l5)) s3 t3 hk).mono ?_⟩
 rintro r V6 l6 rfl
 refine ⟨_,rfl,fun V7 l7 bk hb=>(c_cmp_Or (l:=[cmpQ a a',cmpQ b b',cmpQ c c']) rfl (fun i v hv=>⟨_,rfl,by rw [add_zero']; exact blk_at (xs:=i64s [cmpQ a a',cmpQ b b',cmpQ c c']) hb hv⟩) (by simp)).mono ?_⟩
 rintro r V8 l8 rfl
 exact ⟨_,rfl,fun _ V9 l9=>rfl⟩
theorem c_geo_Equal {V:View} {v w:Value} {a b c a' b' c':Rat} (hx:RLn V v a b c) (hy:RLn V w a' b' c') {k m:Nat} (s1:Sz k a) (s2:Sz k b) (s3:Sz k c) (t1:Sz m a') (t2:Sz m b') (t3:Sz m c') (hk:k + m < 1099511627776) :
  Acts prog 166 #[v,w] V fun r V'=>r=.bool (decide (a=a'/\b=b'/\c=c')):=by
 have hx0:=hx
 have hy0:=hy
 obtain ⟨x1,x2,p,y1,y2,q,z1,z2,r,rfl,-,-,-⟩:=hx
 obtain ⟨x3,x4,p',y3,y4,q',z3,z4,r',rfl,-,-,-⟩:=hy
 refine vc_geo_Ln_Equal _ _ _ _ _ _ _ _ _ _ _ _ _ _ _ _ _ _ V _ fun V1 l1=>(c_geo_Cmp (hx0.le l1) (hy0.le l1) s1 s2 s3 t1 t2 t3 hk).mono ?_
 rintro r V2 l2 rfl
 refine ⟨_,rfl,fun V3 l3=>?_⟩
 congr 1
 rw [Bool.eq_iff_iff,decide_eq_true_eq,beq_iff_eq,orI_eq]
 simp [← cmpQ_eq]
end Go.Proofs.Tryz
/- Lines in normal form, in memory. -/
namespace Go.Proofs.Tryz
open Go.Eng Go.Big
theorem addadd (a:Addr) (i j:Nat):(a.add i).add j=a.add (i + j):=by
 unfold Addr.add
 by_cases h1:i=0
 ·subst h1; simp
 ·by_cases h2:j=0
  ·subst h2; simp [h1]
  ·simp [h1,h2,Nat.add_assoc]
theorem rdc {V:View} {b:Nat} {xs:List Value} {ty:TypeId} {m:Nat × Nat} (h:V.blk b (.cells xs.toArray ty m)) (i:Nat) {v:Value} (hv:xs[i]?=some v):∃a,addrAdd (some ⟨b,0,none⟩) i=some a/\V.at a v:=
 ⟨⟨b,i,none⟩,by simp [addrAdd,add_zero'],blk_at h hv⟩
theorem okLn_okL {a b c:Int}:okLn (decide (a < 0)) (digs a.natAbs) (decide (b < 0)) (digs b.natAbs) (decide (c < 0)) (digs c.natAbs)=okL (a,b,c):=by
 have hn:∀z:Int,NrmI (decide (z < 0)) (digs z.natAbs)=true:=by
  intro z
  unfold NrmI
  rw [val_digs]
  simp only [decide_true,Bool.true_and]
  by_cases h:z < 0
  ·simp only [h,decide_true,Bool.not_true,Bool.false_or,decide_eq_true_eq]
   intro e
   have:=digs_eq_nil.1 e
   omega
  ·simp [h]
 have hg:gcdQ (gcdQ (a:Rat) (b:Rat)) (c:Rat)=((gcd3 a b c:Nat):Int):=by
  have g2:∀x y:Int,gcdQ (x:Rat) (y:Rat)=((Nat.gcd x.natAbs y.natAbs:Nat):Int):=by
   intro x y
   unfold gcdQ
   have e1:((x:Rat)).num=x:=rfl
   have e2:((y:Rat)).num=y:=rfl
   have e3:((x:Rat)).den=1:=rfl
   have e4:((y:Rat)).den=1:=rfl
   rw [e1,e2,e3,e4]
   simp only [Nat.mul_one]
   exact Rat.mkRat_one _
  rw [g2,g2]
  rfl
 unfold okLn okL
 rw [hn,hn,hn,ival_digs,ival_digs,ival_digs,hg]
 have h0:∀z:Int,((z:Rat)=0)↔z=0:=fun z=>by exact Rat.intCast_eq_zero_iff
 simp only [Bool.true_and,h0]
 rw [Bool.eq_iff_iff]
 simp only [Bool.and_eq_true,Bool.not_eq_true',Bool.and_eq_false_iff,decide_eq_false_iff_not,decide_eq_true_eq]
 have h1:(((gcd3 a b c:Nat):Int):Rat)=((1:Int):Rat)↔gcd3 a b c=1:=by
  rw [Rat.intCast_inj]; omega
 rw [h1]
 constructor
 ·rintro ⟨h,h'⟩; exact ⟨fun e=>by rcases h with h | h; exact h e.1; exact h e.2,h'⟩
 ·rintro ⟨h,h'⟩
  refine ⟨?_,h'⟩
  by_cases ha:a=0
  ·exact .inr fun hb=>h ⟨ha,hb⟩
  ·exact .inl ha
theorem sz_int {z:Int} {k:Nat} (h:z.natAbs < 2 ^ k) (hk:0 < k):Sz k (z:Rat):=⟨h,Nat.one_lt_two_pow (by omega)⟩
theorem Bd.digs {x:L3} (h:Bd x):(digs x.1.natAbs).length<=1000/\(digs x.2.1.natAbs).length<=1000/\(digs x.2.2.natAbs).length<=1000:=⟨digs_len_bits h.1,digs_len_bits h.2.1,digs_len_bits h.2.2⟩
theorem Bd.sz {x:L3} (h:Bd x):Sz 1000 (x.1:Rat)/\Sz 1000 (x.2.1:Rat)/\Sz 1000 (x.2.2:Rat):=⟨sz_int h.1 (by omega),sz_int h.2.1 (by omega),sz_int h.2.2 (by omega)⟩
/-- LnOf at a line in normal form. -/
theorem c_geo_LnOf' {V:View} {v:Value} {x:L3} (h:RL V v x.1 x.2.1 x.2.2) (hb:Bd x) :
  Acts prog 170 #[v] V fun r V'=>∃w,r=.tuple #[w,.bool (okL x)]/\LnSh w/\(okL x=true->RLn V' w x.1 x.2.1 x.2.2):=by
 obtain ⟨p,n,s,p',n',s',q,m,e,rfl,h1,h2,h3⟩:=h
 obtain ⟨d1,d2,d3⟩:=hb.digs
 obtain ⟨s1,s2,s3⟩:=hb.sz
 have hc:=c_geo_LnOf (V:=V) (decide (x.1 < 0)) (decide (x.2.1 < 0)) (decide (x.2.2 < 0)) h1 h2 h3 (by omega) (by omega) (by omega) (k:=1000) (by rw [ival_digs]; exact s1) (by rw [ival_digs]; exact s2) (by rw [ival_digs]; exact s3) (by omega)
 rw [okLn_okL,ival_digs,ival_digs,ival_digs] at hc
 exact hc
end Go.Proofs.Tryz
/- By program: the conditions of the functions, from their loaded code. -/
namespace Go.Proofs.Tryz
open Go.Eng
open Go.Value renaming int→I,pointer→P,slice→S,agg→A,bool→B,tuple→T
open Go.IntKind renaming i64→J,u64→U,u32→W
set_option maxRecDepth 100000
theorem vc_bsp_Leaf (b:Bool) (V:View) (R:VR) (h:(∀a,V.Le a->∀c:Nat,(a.blk c (.cells #[I J 0,I J 0,P none,I J 0,I J 0,P none,I J 0,I J 0,P none,P none,P none,B b] 184 (0,0)))->R (P (some ⟨c,0,none⟩)) a)):
 Acts prog 209 #[B b] V R:=
 fd (LF:=LF0) (RF:=[1000010]) [] [] func209 h
theorem vc_bsp_T_IsLeaf (a:OA) (V:View) (R:VR) (h:(a.isSome=true)/\(a.isSome=true)/\(∃b,(∃c,addrAdd a 9=some c/\V.at c (P b))/\(Rt V R (B b.isNone)))):
 Acts prog 115 #[P a] V R:=
 fd (LF:=LF0) (RF:=[1000010]) [] [] func115 h
theorem vc_bsp_New (b c:Int) (d:OA) (e f:Int) (g:OA) (i k:Int) (l m n:OA) (V:View) (R:VR) (h:(∀a,V.Le a->∀o:Nat,(a.blk o (.cells #[I J b,I J c,P d,I J e,I J f,P g,I J i,I J k,P l,P m,P n,B false] 184 (0,0)))->R (P (some ⟨o,0,none⟩)) a)):
 Acts prog 171 #[A #[I J b,I J c,P d,I J e,I J f,P g,I J i,I J k,P l],P m,P n] V R:=
 fd (LF:=LF0) (RF:=[1000010]) [] [] func171 h
theorem vc_bsp_reader_part (f b:Nat) (i:OA) (g l d e:Nat) (m:Int) (u:Bool) (k:List Value) (a:Int) (V:View) (R:VR) (hw100000:V.w.heap[f]?=some (.cells #[S i g l,S (some ⟨b,0,none⟩) d e,I J m,B u] 241 (0,0))) (hx100000:V.X f) (hw100001:V.w.heap[b]?=some (.cells k.toArray 4 (0,0))) (hx100001:V.X b) (hn100000_100001:f≠b) (h:(((a == (-2:Int))=true->(Ca V 209 #[B (a == (-2:Int))] fun f4 f5=>∃a8,f4=P a8/\(∀x,f5.Le x->x.w.heap[f]?=some (.cells #[S i g l,S (some ⟨b,0,none⟩) d e,I J m,B u] 241 (0,0))->x.w.heap[b]?=some (.cells k.toArray 4 (0,0))->R (P a8) x)))/\((a == (-2:Int))=false->(((a == (-1:Int))=true->(Ca V 209 #[B (a == (-2:Int))] fun f6 f7=>∃a9,f6=P a9/\(∀y,f7.Le y->y.w.heap[f]?=some (.cells #[S i g l,S (some ⟨b,0,none⟩) d e,I J m,B u] 241 (0,0))->y.w.heap[b]?=some (.cells k.toArray 4 (0,0))->R (P a9) y)))/\((a == (-1:Int))=false->(((decide (a < (0:Int)))=true->(Ca V 209 #[B false] fun f8 f9=>∃b0,f8=P b0/\(∀z,f9.Le z->z.w.heap[f]?=some (.cells #[S i g l,S (some ⟨b,0,none⟩) d e,I J m,B true] 241 (0,0))->z.w.heap[b]?=some (.cells k.toArray 4 (0,0))->R (P b0) z)))/\((decide (a < (0:Int)))=false->(((decide (a ≥ (g:Int)))=true->(Ca V 209 #[B false] fun g0 g1=>∃b1,g0=P b1/\(∀a0,g1.Le a0->a0.w.heap[f]?=some (.cells #[S i g l,S (some ⟨b,0,none⟩) d e,I J m,B true] 241 (0,0))->a0.w.heap[b]?=some (.cells k.toArray 4 (0,0))->R (P b1) a0)))/\((decide (a ≥ (g:Int)))=false->(0<=a/\a < (d:Int))/\(∃a4,k[0 + (a.toNat * 1)]?=some (B a4)/\((a4=true->(Ca V 209 #[B false] fun g2 g3=>∃b2,g2=P b2/\(∀a1,g3.Le a1->a1.w.heap[f]?=some (.cells #[S i g l,S (some ⟨b,0,none⟩) d e,I J m,B true] 241 (0,0))->a1.w.heap[b]?=some (.cells k.toArray 4 (0,0))->R (P b2) a1)))/\(a4=false->(0<=a/\a < (d:Int))/\((0 + (a.toNat * 1)) + 1<=k.length)/\(i.isSome=true)/\(0<=a/\a < (g:Int))/\(∃b3,∃b4 b5 b6,∃b7,∃b8 b9 c0,∃c1,∃c2 c3 c4,∃c5,∃c6,∃n,addrAdd i (a.toNat * 8)=some n/\V.at (n.add 0) (B b3)/\V.at (n.add 1) (S b4 b5 b6)/\V.at (n.add 2) (B b7)/\V.at (n.add 3) (S b8 b9 c0)/\V.at (n.add 4) (B c1)/\V.at (n.add 5) (S c2 c3 c4)/\V.at (n.add 6) (I J c5)/\V.at (n.add 7) (I J c6)/\(Ca V 170 #[A #[B b3,S b4 b5 b6,B b7,S b8 b9 c0,B c1,S c2 c3 c4]] fun g4 c7=>∃c8,∃c9,∃d0,∃d1,∃d2,∃d3,∃d4,∃d5,∃d6,∃a5,g4=T #[A #[I J c8,I J c9,P d0,I J d1,I J d2,P d3,I J d4,I J d5,P d6],B a5]/\(((!a5)=true->(Ca c7 209 #[B false] fun g5 g6=>∃d7,g5=P d7/\(∀a2,g6.Le a2->a2.w.heap[f]?=some (.cells #[S i g l,S (some ⟨b,0,none⟩) d e,I J (J.wrap (m + (1:Int))),B true] 241 (0,0))->a2.w.heap[b]?=some (.cells (k.set (0 + (a.toNat * 1)) (B true)).toArray 4 (0,0))->R (P d7) a2)))/\((!a5)=false->(∀q,c7.Le q->∀r o:Nat,(q.w.heap[r]?=some (.cells #[S i g l,S (some ⟨o,0,none⟩) d e,I J (J.wrap (m + (1:Int))),B u] 241 (0,0)))->(q.H r)->(q.w.heap[o]?=some (.cells (k.set (0 + (a.toNat * 1)) (B true)).toArray 4 (0,0)))->(q.H o)->(r≠o)->Acts prog 160 #[P (some ⟨r,0,none⟩),I J c5] (q.lend [r,o]) fun g7 a6=>∃d8,g7=P d8/\∃d9 e0 e1,∃e2,∃e3,a6.w.heap[r]?=some (.cells #[S d9 e0 e1,S (some ⟨o,0,none⟩) d e,I J e2,B e3] 241 (0,0))/\∃e4:List Value,a6.w.heap[o]?=some (.cells e4.toArray 4 (0,0))/\(∀s,a6.shut.Le s->∀t p:Nat,(s.w.heap[t]?=some (.cells #[S d9 e0 e1,S (some ⟨p,0,none⟩) d e,I J e2,B e3] 241 (0,0)))->(s.H t)->(s.w.heap[p]?=some (.cells e4.toArray 4 (0,0)))->(s.H p)->(t≠p)->Acts prog 160 #[P (some ⟨t,0,none⟩),I J c6] (s.lend [t,p]) fun g8 a7=>∃e5,g8=P e5/\∃e6 e7 e8,∃e9,∃f0,a7.w.heap[t]?=some (.cells #[S e6 e7 e8,S (some ⟨p,0,none⟩) d e,I J e9,B f0] 241 (0,0))/\∃f1:List Value,a7.w.heap[p]?=some (.cells f1.toArray 4 (0,0))/\(∀f2,a7.shut.Le f2->Acts prog 171 #[A #[I J c8,I J c9,P d0,I J d1,I J d2,P d3,I J d4,I J d5,P d6],P d8,P e5] f2 fun g9 i0=>∃f3,g9=P f3/\(∀a3,i0.Le a3->a3.w.heap[f]?=some (.cells #[S e6 e7 e8,S (some ⟨b,0,none⟩) d e,I J e9,B f0] 241 (0,0))->a3.w.heap[b]?=some (.cells f1.toArray 4 (0,0))->R (P f3) a3)))))))))))))))))))):
 Acts prog 160 #[P (some ⟨f,0,none⟩),I J a] V R:=
 fn_does (LF:=LF0) (RF:=[1000010]) (β0:=(upd1 (upd1 (fun _=>0) 100000 f) 100001 b)) tab_ok mixed [] [] func160 (by kernel_rfl) [(0,.c (.ptr 100000 0)),(1,.c (.v (I J a)))] [(100000,⟨.lit [.v (S i g l),.slc 100001 0 d e,.v (I J m),.v (B u)],241⟩),(100001,⟨.row k,4⟩)] (by kernel_rfl) ⟨⟨hw100000,hx100000⟩,⟨hn100000_100001,trivial⟩,⟨⟨hw100001,hx100001⟩,trivial,trivial⟩⟩ h (by kernel_rfl)
theorem vc_bsp_Of (i:Int) (k:OA) (a l:Nat) (V:View) (R:VR) (h:(((decide ((a:Int) > (65536:Int)))=true->(Rt V R (T #[P none,B false])))/\((decide ((a:Int) > (65536:Int)))=false->(0<=(a:Int))/\((a:Int)<=(a:Int))/\((1:Int) * (a:Int)<=140737488355328)/\(∀c,V.Le c->∀d b:Nat,(c.w.heap[d]?=some (.cells #[S k a l,S (some ⟨b,0,none⟩) ((a:Int).toNat) ((a:Int).toNat),I J 0,B false] 241 (0,0)))->(c.H d)->(c.w.heap[b]?=some (.cells (List.replicate ((a:Int).toNat) (B false)).toArray 4 (0,0)))->(c.H b)->(d≠b)->Acts prog 160 #[P (some ⟨d,0,none⟩),I J i] (c.lend [d,b]) fun r e=>∃n,r=P n/\∃s t u,∃f,∃g,e.w.heap[d]?=some (.cells #[S s t u,S (some ⟨b,0,none⟩) ((a:Int).toNat) ((a:Int).toNat),I J f,B g] 241 (0,0))/\∃x:List Value,e.w.heap[b]?=some (.cells x.toArray 4 (0,0))/\((g=true->(∀o,e.shut.Le o->R (T #[P none,B false]) o))/\(g=false->(((f != (a:Int))=true->(∀p,e.shut.Le p->R (T #[P none,B false]) p))/\((f != (a:Int))=false->(∀q,e.shut.Le q->R (T #[P n,B true]) q))))))))):
 Acts prog 111 #[A #[I J i,S k a l]] V R:=
 fd (LF:=LF0) (RF:=[1000010]) [] [] func111 h
theorem vc_bsp_T_API_1 (d:OA) (e a2 f:Nat) (b5:Int) (a a3:Nat) (b:List Value) (V:View) (R:VR) (hw100000:V.w.heap[e]?=some (.cells #[I J b5,S (mA a2 a3) a a3] 89 (0,0))) (hx100000:V.X e) (hw100002:V.w.heap[f]?=some (.cells #[.func (.func 243) #[] #[P (some ⟨e,0,none⟩),P (some ⟨f,0,none⟩)]] 318 (0,0))) (hx100002:V.X f) (hw100001:b≠[]->V.w.heap[a2]?=some (.cells b.toArray 171 (0,0))) (hx100001:b≠[]->V.X a2) (hn100000_100002:e≠f) (hn100000_100001:b≠[]->e≠a2) (hn100002_100001:b≠[]->f≠a2) (h:(Ca V 115 #[P d] fun e8 g=>∃c8,e8=B c8/\((c8=true->(d.isSome=true)/\(d.isSome=true)/\(∃c9,(∃d0,addrAdd d 11=some d0/\g.at d0 (B c9))/\((c9=true->(∀b6:View,∀b7:Nat,g.Le (b6.hideG (b≠[]) b7)->b6.w.heap[e]?=some (.cells #[I J b5,S (mA b7 a3) a a3] 89 (0,0))->b6.w.heap[f]?=some (.cells #[.func (.func 243) #[] #[P (some ⟨e,0,none⟩),P (some ⟨f,0,none⟩)]] 318 (0,0))->(b≠[]->b6.w.heap[b7]?=some (.cells b.toArray 171 (0,0)))->(b≠[]->V.w.heap.size<=b7 \/ (b≠[]/\b7=a2) \/ False)->R (I J (-2)) b6))/\(c9=false->(∀b8:View,∀b9:Nat,g.Le (b8.hideG (b≠[]) b9)->b8.w.heap[e]?=some (.cells #[I J b5,S (mA b9 a3) a a3] 89 (0,0))->b8.w.heap[f]?=some (.cells #[.func (.func 243) #[] #[P (some ⟨e,0,none⟩),P (some ⟨f,0,none⟩)]] 318 (0,0))->(b≠[]->b8.w.heap[b9]?=some (.cells b.toArray 171 (0,0)))->(b≠[]->V.w.heap.size<=b9 \/ (b≠[]/\b9=a2) \/ False)->R (I J (-1)) b8)))))/\(c8=false->(d.isSome=true)/\(d.isSome=true)/\(∃d1,∃d2,∃d3,∃d4,∃d5,∃d6,∃d7,∃d8,∃d9,∃k,addrAdd d 0=some k/\g.at (k.add 0) (I J d1)/\g.at (k.add 1) (I J d2)/\g.at (k.add 2) (P d3)/\g.at (k.add 3) (I J d4)/\g.at (k.add 4) (I J d5)/\g.at (k.add 5) (P d6)/\g.at (k.add 6) (I J d7)/\g.at (k.add 7) (I J d8)/\g.at (k.add 8) (P d9)/\(Ca g 117 #[A #[I J d1,I J d2,P d3,I J d4,I J d5,P d6,I J d7,I J d8,P d9]] fun e9 e0=>∃l,∃m n o,∃p,∃q r s,∃t,∃u x y,e9=A #[B l,S m n o,B p,S q r s,B t,S u x y]/\((a + 1) * 112<=140737488355328/\a<=a3/\a3 * 8<=b.length/\([B l,S m n o,B p,S q r s,B t,S u x y,I J 0,I J 0]:List Value).length=1 * 8/\(∀f0 ∈ ([B l,S m n o,B p,S q r s,B t,S u x y,I J 0,I J 0]:List Value),f0.oneCell'=true)/\∀(a8:List Value) (c5:Nat),a + 1<=c5->c5 * 8<=(a + 1) * 8 + a8.length->(d.isSome=true)/\(d.isSome=true)/\(∃e1,(∃e2,addrAdd d 9=some e2/\e0.at e2 (P e1))/\(∀z,e0.Le z->∀a9 a4 a5:Nat,((b.take (a * 8)++([B l,S m n o,B p,S q r s,B t,S u x y,I J 0,I J 0]:List Value)++a8)≠[]->z.w.heap[a9]?=some (.cells (b.take (a * 8)++([B l,S m n o,B p,S q r s,B t,S u x y,I J 0,I J 0]:List Value)++a8).toArray 171 (0,0)))->((b.take (a * 8)++([B l,S m n o,B p,S q r s,B t,S u x y,I J 0,I J 0]:List Value)++a8)≠[]->z.H a9)->(z.w.heap[a4]?=some (.cells #[I J b5,S (mA a9 c5) (a + 1) c5] 89 (0,0)))->(z.H a4)->(z.w.heap[a5]?=some (.cells #[.func (.func 243) #[] #[P (some ⟨a4,0,none⟩),P (some ⟨a5,0,none⟩)]] 318 (0,0)))->(z.H a5)->(a4≠a5)->((b.take (a * 8)++([B l,S m n o,B p,S q r s,B t,S u x y,I J 0,I J 0]:List Value)++a8)≠[]->a9≠a4)->((b.take (a * 8)++([B l,S m n o,B p,S q r s,B t,S u x y,I J 0,I J 0]:List Value)++a8)≠[]->a9≠a5)->Acts prog 243 #[P e1,P (some ⟨a4,0,none⟩),P (some ⟨a5,0,none⟩)] (z.lend [vb (b.take (a * 8)++([B l,S m n o,B p,S q r s,B t,S u x y,I J 0,I J 0]:List Value)++a8) z.w.heap.size a9,a4,a5]) fun f1 c0=>∃(b1:Nat) (i:List Value),(i≠[]->c0.w.heap[b1]?=some (.cells i.toArray 171 (0,0)))/\(i≠[]->z.w.heap.size<=b1 \/ ((b.take (a * 8)++([B l,S m n o,B p,S q r s,B t,S u x y,I J 0,I J 0]:List Value)++a8)≠[]/\b1=a9))/\∃b2,f1=I J b2/\∃e3,∃(e4 c6:Nat),c0.w.heap[a4]?=some (.cells #[I J e3,S (mA b1 c6) e4 c6] 89 (0,0))/\ c0.w.heap[a5]?=some (.cells #[.func (.func 243) #[] #[P (some ⟨a4,0,none⟩),P (some ⟨a5,0,none⟩)]] 318 (0,0))/\(d.isSome=true)/\(d.isSome=true)/\(∃e5,(∃e6,addrAdd d 10=some e6/\(c0.shut.hideG (i≠[]) b1).at e6 (P e5))/\(∀a0:View,(c0.shut.hideG (i≠[]) b1).Le a0->∀b0 a6 a7:Nat,(i≠[]->a0.w.heap[b0]?=some (.cells i.toArray 171 (0,0)))->(i≠[]->a0.H b0)->(a0.w.heap[a6]?=some (.cells #[I J e3,S (mA b0 c6) e4 c6] 89 (0,0)))->(a0.H a6)->(a0.w.heap[a7]?=some (.cells #[.func (.func 243) #[] #[P (some ⟨a6,0,none⟩),P (some ⟨a7,0,none⟩)]] 318 (0,0)))->(a0.H a7)->(a6≠a7)->(i≠[]->b0≠a6)->(i≠[]->b0≠a7)->Acts prog 243 #[P e5,P (some ⟨a6,0,none⟩),P (some ⟨a7,0,none⟩)] (a0.lend [vb i a0.w.heap.size b0,a6,a7]) fun f2 c7=>∃(c1:Nat) (a1:List Value),(a1≠[]->c7.w.heap[c1]?=some (.cells a1.toArray 171 (0,0)))/\(a1≠[]->a0.w.heap.size<=c1 \/ (i≠[]/\c1=b0))/\∃c2,f2=I J c2/\∃e7,∃(b3 b4:Nat),c7.w.heap[a6]?=some (.cells #[I J e7,S (mA c1 b4) b3 b4] 89 (0,0))/\ c7.w.heap[a7]?=some (.cells #[.func (.func 243) #[] #[P (some ⟨a6,0,none⟩),P (some ⟨a7,0,none⟩)]] 318 (0,0))/\(0<=(a:Int)/\(a:Int) < (b3:Int))/\(b3<=b4)/\(((((a:Int).toNat) * 8) + 6) + 1<=a1.length)/\(0<=(a:Int)/\(a:Int) < (b3:Int))/\(b3<=b4)/\(((((a:Int).toNat) * 8) + 7) + 1<=(a1.set ((((a:Int).toNat) * 8) + 6) (I J b2)).length)/\(∀c3:View,∀c4:Nat,(c7.shut.hideG (a1≠[]) c1).Le (c3.hideG (((a1.set ((((a:Int).toNat) * 8) + 6) (I J b2)).set ((((a:Int).toNat) * 8) + 7) (I J c2))≠[]) c4)->c3.w.heap[e]?=some (.cells #[I J e7,S (mA c4 b4) b3 b4] 89 (0,0))->c3.w.heap[f]?=some (.cells #[.func (.func 243) #[] #[P (some ⟨e,0,none⟩),P (some ⟨f,0,none⟩)]] 318 (0,0))->(((a1.set ((((a:Int).toNat) * 8) + 6) (I J b2)).set ((((a:Int).toNat) * 8) + 7) (I J c2))≠[]->c3.w.heap[c4]?=some (.cells ((a1.set ((((a:Int).toNat) * 8) + 6) (I J b2)).set ((((a:Int).toNat) * 8) + 7) (I J c2)).toArray 171 (0,0)))->(((a1.set ((((a:Int).toNat) * 8) + 6) (I J b2)).set ((((a:Int).toNat) * 8) + 7) (I J c2))≠[]->V.w.heap.size<=c4 \/ (b≠[]/\c4=a2) \/ False)->R (I J (a:Int)) c3)))))))))))):
 Acts prog 243 #[P d,P (some ⟨e,0,none⟩),P (some ⟨f,0,none⟩)] V R:=
 fn_does (LF:=LF0) (RF:=[1000010]) (β0:=(upd1 (upd1 (upd1 (fun _=>0) 100000 e) 100002 f) 100001 a2)) tab_ok mixed [] [] func243 (by kernel_rfl) [(0,.c (.v (P d))),(1,.c (.ptr 100000 0)),(2,.c (.ptr 100002 0))] [(100000,⟨.lit [.v (I J b5),.msl 100001 a a3],89⟩),(100002,⟨.lit [.clo 243 [100000,100002]],318⟩),(100001,⟨.mrow b,171⟩)] (by kernel_rfl) ⟨⟨hw100000,hx100000⟩,⟨hn100000_100002,⟨hn100000_100001,trivial⟩⟩,⟨⟨hw100002,hx100002⟩,⟨hn100002_100001,trivial⟩,⟨⟨hw100001,hx100001⟩,trivial,trivial⟩⟩⟩ h (by kernel_rfl)
theorem vc_bsp_T_API (e:OA) (V:View) (R:VR) (h:(∀c,V.Le c->∀a b:Nat,(c.w.heap[a]?=some (.cells #[I J 0,S none 0 0] 89 (0,0)))->(c.H a)->(c.w.heap[b]?=some (.cells #[.func (.func 243) #[] #[P (some ⟨a,0,none⟩),P (some ⟨b,0,none⟩)]] 318 (0,0)))->(c.H b)->(a≠b)->Acts prog 243 #[P e,P (some ⟨a,0,none⟩),P (some ⟨b,0,none⟩)] (c.lend [a,b]) fun m d=>∃f,m=I J f/\∃n,∃g i k,d.w.heap[a]?=some (.cells #[I J n,S g i k] 89 (0,0))/\ d.w.heap[b]?=some (.cells #[.func (.func 243) #[] #[P (some ⟨a,0,none⟩),P (some ⟨b,0,none⟩)]] 318 (0,0))/\(∀l,d.shut.Le l->R (A #[I J f,S g i k]) l))):
 Acts prog 219 #[P e] V R:=
 fd (LF:=LF0) (RF:=[1000010]) [] [] func219 h
theorem vc_bsp_T_Size_1 (d:OA) (a:Nat) (b:Int) (V:View) (R:VR) (hw100000:V.w.heap[a]?=some (.cells #[I J b] 3 (0,0))) (hx100000:V.X a) (h:(Ca V 115 #[P d] fun k i=>∃e,k=B e/\(((!e)=true->(∀f,i.Le f->f.w.heap[a]?=some (.cells #[I J (J.wrap (b + (1:Int)))] 3 (0,0))->R (T #[]) f))/\((!e)=false->(∀g,i.Le g->g.w.heap[a]?=some (.cells #[I J b] 3 (0,0))->R (T #[]) g))))):
 Acts prog 242 #[P d,P (some ⟨a,0,none⟩)] V R:=
 fn_does (LF:=LF0) (RF:=[1000010]) (β0:=(upd1 (fun _=>0) 100000 a)) tab_ok mixed [] [] func242 (by kernel_rfl) [(0,.c (.v (P d))),(1,.c (.ptr 100000 0))] [(100000,⟨.lit [.v (I J b)],3⟩)] (by kernel_rfl) ⟨⟨hw100000,hx100000⟩,trivial,trivial⟩ h (by kernel_rfl)
theorem vc_bsp_T_Each_Size (r:OA) (d:Nat) (s:Int) (V:View) (R:VR) (hw100000:V.w.heap[d]?=some (.cells #[I J s] 3 (0,0))) (hx100000:V.X d) (h:(∃l:(Nat × Nat × (List Value) × Int)->Nat->VP,(∃(e:Nat × Nat × (List Value) × Int) (a7:Nat),(((242:FuncId)=242)/\sm 0/\((1:Nat)=e.1)/\((1:Nat)=e.2.1)/\((1:Nat)≠0)/\(s=e.2.2.2)/\(([P r]:List Value)=e.2.2.1))/\l e a7 V)/\∀(a:Nat × Nat × (List Value) × Int) (t:Nat) (m:View),V.Le m->l a t m->(true=true/\(((decide (((a.1:Nat):Int) > (0:Int)))=true->(0<=(J.wrap (((a.1:Nat):Int)-1))/\(J.wrap (((a.1:Nat):Int)-1)) < ((a.1:Nat):Int))/\(a.1<=a.2.1)/\(∃b,a.2.2.1[((J.wrap (((a.1:Nat):Int)-1)).toNat) * 1]?=some (P b)/\(0<=(J.wrap (((a.1:Nat):Int)-1))/\(J.wrap (((a.1:Nat):Int)-1))<=((a.2.1:Nat):Int))/\(∀n,m.Le n->∀f:Nat,(n.w.heap[f]?=some (.cells #[I J a.2.2.2] 3 (0,0)))->(n.H f)->Acts prog 242 #[P b,P (some ⟨f,0,none⟩)] (n.lend [f]) fun a8 a0=> a8=T #[]/\∃u,a0.w.heap[f]?=some (.cells #[I J u] 3 (0,0))/\(∀a1,a0.shut.Le a1->Acts prog 115 #[P b] a1 fun a9 o=>∃x,a9=B x/\(((!x)=true->(b.isSome=true)/\(b.isSome=true)/\(∃p,(∃a2,addrAdd b 10=some a2/\o.at a2 (P p))/\(b.isSome=true)/\(b.isSome=true)/\(∃q,(∃a3,addrAdd b 9=some a3/\o.at a3 (P q))/\((((J.wrap (((a.1:Nat):Int)-1)).toNat) + 2) * 8<=140737488355328/\(J.wrap (((a.1:Nat):Int)-1)).toNat<=a.2.1/\a.2.1 * 1<=a.2.2.1.length/\([P p,P q]:List Value).length=2 * 1/\(∀b0 ∈ ([P p,P q]:List Value),b0.oneCell'=true)/\∀(a4:List Value) (y:Nat),((J.wrap (((a.1:Nat):Int)-1)).toNat) + 2<=y->y * 1<=(((J.wrap (((a.1:Nat):Int)-1)).toNat) + 2) * 1 + a4.length->(∃(g:Nat × Nat × (List Value) × Int) (a5:Nat),a5 < t/\(((242:FuncId)=242)/\((((J.wrap (((a.1:Nat):Int)-1)).toNat) + 2:Nat)=g.1)/\((y:Nat)=g.2.1)/\(u=g.2.2.2)/\((a.2.2.1.take (((J.wrap (((a.1:Nat):Int)-1)).toNat) * 1)++([P p,P q]:List Value)++a4)=g.2.2.1))/\l g a5 o)))))/\((!x)=false->(∃(i:Nat × Nat × (List Value) × Int) (a6:Nat),a6 < t/\(((242:FuncId)=242)/\(((J.wrap (((a.1:Nat):Int)-1)).toNat:Nat)=i.1)/\((a.2.1:Nat)=i.2.1)/\(u=i.2.2.2)/\(a.2.2.1=i.2.2.1))/\l i a6 o)))))))/\((decide (((a.1:Nat):Int) > (0:Int)))=false->(∀z,m.Le z->z.w.heap[d]?=some (.cells #[I J a.2.2.2] 3 (0,0))->R (T #[]) z)))))):
 Acts prog 113 #[P r,.func (.func 242) #[] #[P (some ⟨d,0,none⟩)]] V R:=
 fn_does (LF:=LF0) (RF:=[1000010]) (β0:=(upd1 (fun _=>0) 100000 d)) tab_ok mixed [(1,⟨Nat × Nat × (List Value) × Int,true,[1],[],fun k=>[(4,.c (.msl 4 k.1 k.2.1))],fun k=>[(100000,⟨.lit [.v (I J k.2.2.2)],3⟩),(4,⟨.mrow k.2.2.1,175⟩)]⟩)] [] func113 (by kernel_rfl) [(0,.c (.v (P r))),(1,.c (.clo 242 [100000]))] [(100000,⟨.lit [.v (I J s)],3⟩)] (by kernel_rfl) ⟨⟨hw100000,hx100000⟩,trivial,trivial⟩ h (by kernel_rfl)
theorem vc_bsp_T_Size (c:OA) (V:View) (R:VR) (h:(∀b,V.Le b->∀a:Nat,(b.w.heap[a]?=some (.cells #[I J 0] 3 (0,0)))->(b.H a)->Acts prog 113 #[P c,.func (.func 242) #[] #[P (some ⟨a,0,none⟩)]] (b.lend [a]) fun g d=> g=T #[]/\∃e,d.w.heap[a]?=some (.cells #[I J e] 3 (0,0))/\(∀f,d.shut.Le f->R (I J e) f))):
 Acts prog 218 #[P c] V R:=
 fd (LF:=LF0) (RF:=[1000010]) [] [] func218 h
theorem vc_bsp_T_Limited (a:OA) (V:View) (R:VR) (h:(Ca V 218 #[P a] fun n b=>∃c,n=I J c/\(((decide (c > (65536:Int)))=true->(∃d,(∃e,(some ⟨2,0,none⟩:OA)=some e/\b.at e (d))/\(Rt b R (T #[A #[I J 0,S none 0 0],d]))))/\((decide (c > (65536:Int)))=false->(Ca b 219 #[P a] fun o p=>∃g,∃i k l,o=A #[I J g,S i k l]/\(Rt p R (T #[A #[I J g,S i k l],.nilIface]))))))):
 Acts prog 172 #[P a] V R:=
 fd (LF:=LF0) (RF:=[1000010]) [] [] func172 h
end Go.Proofs.Tryz
/- Trees of package bsp in memory; contracts: Leaf, IsLeaf, New, reader.part, Of. -/
namespace Go.Proofs.Tryz
open Go.Eng Go.Big
/-- A tree of package bsp. -/
def RT (V:View):OA->Tr->Prop
 | p,.leaf i=>∃(b:Nat) (c0 c1 c2 c3 c4 c5 c6 c7 c8:Value) (r:OA),p=some ⟨b,0,none⟩/\V.blk b (.cells #[c0,c1,c2,c3,c4,c5,c6,c7,c8,.pointer none,.pointer r,.bool i] 184 (0,0))
 | p,.node l x y=>∃(b:Nat) (x1 x2:Int) (x3:OA) (y1 y2:Int) (y3:OA) (z1 z2:Int) (z3:OA) (pl pr:OA) (i:Bool),p=some ⟨b,0,none⟩ /\
   V.blk b (.cells #[.int .i64 x1,.int .i64 x2,.pointer x3,.int .i64 y1,.int .i64 y2,.pointer y3,.int .i64 z1,.int .i64 z2,.pointer z3,.pointer pl,.pointer pr,.bool i] 184 (0,0)) /\
   RLn V (.agg #[.int .i64 x1,.int .i64 x2,.pointer x3,.int .i64 y1,.int .i64 y2,.pointer y3,.int .i64 z1,.int .i64 z2,.pointer z3]) l.1 l.2.1 l.2.2/\RT V pl x/\RT V pr y
theorem RT.le {V V':View} (h:V.Le V'):∀{t:Tr} {p:OA},RT V p t->RT V' p t
 | .leaf i,p,⟨b,c0,c1,c2,c3,c4,c5,c6,c7,c8,r,e,hb⟩=>⟨b,c0,c1,c2,c3,c4,c5,c6,c7,c8,r,e,h _ _ hb⟩
 | .node l x y,p,⟨b,x1,x2,x3,y1,y2,y3,z1,z2,z3,pl,pr,i,e,hb,hl,hx,hy⟩=>⟨b,x1,x2,x3,y1,y2,y3,z1,z2,z3,pl,pr,i,e,h _ _ hb,hl.le h,RT.le h hx,RT.le h hy⟩
theorem RT.isS {V:View} {t:Tr} {p:OA} (h:RT V p t):p.isSome=true:=by
 cases t with
 | leaf i=>obtain ⟨b,c0,c1,c2,c3,c4,c5,c6,c7,c8,r,rfl,hb⟩:=h; rfl
 | node l x y=>obtain ⟨b,x1,x2,x3,y1,y2,y3,z1,z2,z3,pl,pr,i,rfl,-⟩:=h; rfl
theorem c_bsp_Leaf {V:View} (i:Bool):Acts prog 209 #[.bool i] V fun r V'=>∃p,r=.pointer p/\RT V' p (.leaf i):=
 vc_bsp_Leaf i V _ fun V1 l1 b hb=>⟨_,rfl,b,_,_,_,_,_,_,_,_,_,_,rfl,hb⟩
theorem c_bsp_IsLeaf {V:View} {p:OA} {t:Tr} (h:RT V p t):Acts prog 115 #[.pointer p] V fun r V'=>r=.bool t.isLeaf:=by
 cases t with
 | leaf i=>
  obtain ⟨b,c0,c1,c2,c3,c4,c5,c6,c7,c8,r,rfl,hb⟩:=h
  exact vc_bsp_T_IsLeaf _ V _ ⟨rfl,rfl,_,rdc hb 9 rfl,fun V1 l1=>rfl⟩
 | node l x y=>
  obtain ⟨b,x1,x2,x3,y1,y2,y3,z1,z2,z3,pl,pr,i,rfl,hb,hl,hx,hy⟩:=h
  refine vc_bsp_T_IsLeaf _ V _ ⟨rfl,rfl,_,rdc hb 9 rfl,fun V1 l1=>?_⟩
  have:=hx.isS
  cases pl with
  | none=>cases this
  | some a=>rfl
theorem c_bsp_New {V:View} {v:Value} {l:L3} {p q:OA} {x y:Tr} (hl:RLn V v l.1 l.2.1 l.2.2) (hx:RT V p x) (hy:RT V q y) :
  Acts prog 171 #[v,.pointer p,.pointer q] V fun r V'=>∃p',r=.pointer p'/\RT V' p' (.node l x y):=by
 have hl0:=hl
 obtain ⟨x1,x2,x3,y1,y2,y3,z1,z2,z3,rfl,-⟩:=hl
 exact vc_bsp_New _ _ _ _ _ _ _ _ _ p q V _ fun V1 l1 b hb=>⟨_,rfl,b,_,_,_,_,_,_,_,_,_,_,_,_,rfl,hb,hl0.le l1,hx.le l1,hy.le l1⟩
/-! nodes -/
/-- Rows of eight cells that hold nodes. -/
def NR (V:View) (vs:List Value) (l:List Nd):Prop:=∀(i:Nat) (d:Nd),l[i]?=some d->∃(b1:Bool) (p1:OA) (n1 c1:Nat) (b2:Bool) (p2:OA) (n2 c2:Nat) (b3:Bool) (p3:OA) (n3 c3:Nat),
 (∀j v,([.bool b1,.slice p1 n1 c1,.bool b2,.slice p2 n2 c2,.bool b3,.slice p3 n3 c3,.int .i64 d.left,.int .i64 d.right]:List Value)[j]?=some v->vs[i * 8 + j]?=some v) /\
 RL V (.agg #[.bool b1,.slice p1 n1 c1,.bool b2,.slice p2 n2 c2,.bool b3,.slice p3 n3 c3]) d.ln.1 d.ln.2.1 d.ln.2.2
theorem NR.le {V V':View} {vs:List Value} {l:List Nd} (h:NR V vs l) (hl:V.Le V'):NR V' vs l:=fun i d hd=>by
 obtain ⟨b1,p1,n1,c1,b2,p2,n2,c2,b3,p3,n3,c3,h1,h2⟩:=h i d hd
 exact ⟨b1,p1,n1,c1,b2,p2,n2,c2,b3,p3,n3,c3,h1,h2.le hl⟩
/-- A slice of nodes that is seen. -/
structure NS (V:View) (p:OA) (n c:Nat) (l:List Nd):Prop where
 len:n=l.length
 cap:n<=c
 row:∃vs,V.sl p vs/\NR V vs l
 nilc:p.isNone=true->c=0
theorem NS.le {V V':View} {p:OA} {n c:Nat} {l:List Nd} (h:NS V p n c l) (hl:V.Le V'):NS V' p n c l:=by
 obtain ⟨h1,h2,⟨vs,h3,h4⟩,h5⟩:=h
 exact ⟨h1,h2,⟨vs,hl.sl h3,h4.le hl⟩,h5⟩
theorem NS.nil {V:View}:NS V none 0 0 []:=⟨rfl,Nat.le_refl _,⟨[],fun i v h=>by simp at h,fun i d h=>by simp at h⟩,fun _=>rfl⟩
theorem NS.isS {V:View} {p:OA} {n c:Nat} {l:List Nd} (h:NS V p n c l) (hn:n≠0):p.isSome=true:=by
 cases p with
 | none=>have:=h.nilc rfl; have:=h.cap; omega
 | some a=>rfl
def bools (l:List Bool):List Value:=l.map .bool
theorem bools_get {l:List Bool} {i:Nat} {b:Bool} (h:l[i]?=some b):(bools l)[i]?=some (.bool b):=by simp [bools,h]
end Go.Proofs.Tryz
/- Contracts: reader.part, bsp.Of. -/
namespace Go.Proofs.Tryz
open Go.Eng Go.Big
/-- A node is read. -/
theorem NS.rd {V:View} {p:OA} {n c:Nat} {l:List Nd} (h:NS V p n c l) {k:Nat} {d:Nd} (hd:l[k]?=some d) :
  ∃(b1:Bool) (p1:OA) (n1 c1:Nat) (b2:Bool) (p2:OA) (n2 c2:Nat) (b3:Bool) (p3:OA) (n3 c3:Nat) (a:Addr),addrAdd p (k * 8)=some a /\
   V.at (a.add 0) (.bool b1)/\V.at (a.add 1) (.slice p1 n1 c1)/\V.at (a.add 2) (.bool b2)/\V.at (a.add 3) (.slice p2 n2 c2)/\V.at (a.add 4) (.bool b3)/\V.at (a.add 5) (.slice p3 n3 c3)/\V.at (a.add 6) (.int .i64 d.left)/\V.at (a.add 7) (.int .i64 d.right) /\
   RL V (.agg #[.bool b1,.slice p1 n1 c1,.bool b2,.slice p2 n2 c2,.bool b3,.slice p3 n3 c3]) d.ln.1 d.ln.2.1 d.ln.2.2:=by
 obtain ⟨vs,hs,hr⟩:=h.row
 obtain ⟨b1,p1,n1,c1,b2,p2,n2,c2,b3,p3,n3,c3,h1,h2⟩:=hr k d hd
 obtain ⟨ad,rfl,-⟩:=hs _ _ (h1 0 _ rfl)
 have key:∀j v,([.bool b1,.slice p1 n1 c1,.bool b2,.slice p2 n2 c2,.bool b3,.slice p3 n3 c3,.int .i64 d.left,.int .i64 d.right]:List Value)[j]?=some v->V.at ((ad.add (k * 8)).add j) v:=by
  intro j v hv
  obtain ⟨ad',e,ha⟩:=hs _ _ (h1 j v hv)
  cases e
  rw [addadd]
  exact ha
 exact ⟨b1,p1,n1,c1,b2,p2,n2,c2,b3,p3,n3,c3,_,rfl,key 0 _ rfl,key 1 _ rfl,key 2 _ rfl,key 3 _ rfl,key 4 _ rfl,key 5 _ rfl,key 6 _ rfl,key 7 _ rfl,h2⟩
theorem c_bsp_part {l:List Nd} (hb:∀x ∈ l,Bd x.ln) (hlen:l.length<=65536):∀(f:Nat) (n:Int) (s:RS) {V:View} {rb sb:Nat} {npp:OA} {nc:Nat},NS V npp l.length nc l ->
  V.w.heap[rb]?=some (.cells #[.slice npp l.length nc,.slice (some ⟨sb,0,none⟩) l.length l.length,.int .i64 (s.cnt:Int),.bool s.bad] 241 (0,0))->V.X rb ->
  V.w.heap[sb]?=some (.cells (bools s.seen).toArray 4 (0,0))->V.X sb->rb≠sb->s.seen.length=l.length->s.seen.count false < f->s.cnt + s.seen.count false<=l.length ->
  Acts prog 160 #[.pointer (some ⟨rb,0,none⟩),.int .i64 n] V fun r V'=>∃p,r=.pointer p/\RT V' p (prt l f n s).1 /\
   V'.w.heap[rb]?=some (.cells #[.slice npp l.length nc,.slice (some ⟨sb,0,none⟩) l.length l.length,.int .i64 ((prt l f n s).2.cnt:Int),.bool (prt l f n s).2.bad] 241 (0,0)) /\
   V'.w.heap[sb]?=some (.cells (bools (prt l f n s).2.seen).toArray 4 (0,0)):=by
 intro f
 induction f with
 | zero=>intro n s V rb sb npp nc _ _ _ _ _ _ _ h; omega
 | succ f ih=>
  intro n s V rb sb npp nc hns hw1 hx1 hw2 hx2 hne hsl hcf hct
  refine vc_bsp_reader_part rb sb npp l.length nc l.length l.length s.cnt s.bad (bools s.seen) n V _ hw1 hx1 hw2 hx2 hne ⟨fun h0 V1 l1=>(c_bsp_Leaf _).mono ?_,fun h0=>⟨fun h1 V4 l4=>(c_bsp_Leaf _).mono ?_,fun h1=>⟨fun h2 V7 l7=>(c_bsp_Leaf _).mono ?_,fun h2=>⟨fun h3 V10 l10=>(c_bsp_Leaf _).mono ?_,fun h3=>?_⟩⟩⟩⟩
  ·rintro r V2 l2 ⟨p,rfl,hp⟩
   have e0:n=-2:=by simpa using h0
   have e:prt l (f + 1) n s=(.leaf true,s):=by simp [prt,e0]
   rw [h0] at hp
   exact ⟨p,rfl,fun V3 l3 g1 g2=>⟨p,rfl,by rw [e]; exact hp.le l3,by rw [e]; exact g1,by rw [e]; exact g2⟩⟩
  ·rintro r V2 l2 ⟨p,rfl,hp⟩
   have e0:n=-1:=by simpa using h1
   have e:prt l (f + 1) n s=(.leaf false,s):=by simp [prt,e0]
   rw [h0] at hp
   exact ⟨p,rfl,fun V3 l3 g1 g2=>⟨p,rfl,by rw [e]; exact hp.le l3,by rw [e]; exact g1,by rw [e]; exact g2⟩⟩
  ·rintro r V2 l2 ⟨p,rfl,hp⟩
   have n0:¬ n=-2:=by simpa using h0
   have n1:¬ n=-1:=by simpa using h1
   have n2:n < 0:=by simpa using h2
   have e:prt l (f + 1) n s=(.leaf false,{ s with bad:=true }):=by simp [prt,n0,n1,n2]
   exact ⟨p,rfl,fun V3 l3 g1 g2=>⟨p,rfl,by rw [e]; exact hp.le l3,by rw [e]; exact g1,by rw [e]; exact g2⟩⟩
  ·rintro r V2 l2 ⟨p,rfl,hp⟩
   have n0:¬ n=-2:=by simpa using h0
   have n1:¬ n=-1:=by simpa using h1
   have n2:¬ n < 0:=by simpa using h2
   have n3:(l.length:Int)<=n:=by simpa using h3
   have e:prt l (f + 1) n s=(.leaf false,{ s with bad:=true }):=by
    simp only [prt,n0,n1,n2,if_false]
    rw [List.getElem?_eq_none (by omega)]
   exact ⟨p,rfl,fun V3 l3 g1 g2=>⟨p,rfl,by rw [e]; exact hp.le l3,by rw [e]; exact g1,by rw [e]; exact g2⟩⟩
  ·have n0:¬ n=-2:=by simpa using h0
   have n1:¬ n=-1:=by simpa using h1
   have n2:¬ n < 0:=by simpa using h2
   have n3:n < (l.length:Int):=by simpa using h3
   clear h0 h1 h2 h3
   obtain ⟨k,rfl⟩:=Int.eq_ofNat_of_zero_le (Int.not_lt.1 n2)
   have hk:k < l.length:=by omega
   have hks:k < s.seen.length:=by omega
   simp only [Int.toNat_natCast,Nat.mul_one,Nat.zero_add]
   have hsk:s.seen[k]?=some s.seen[k]:=List.getElem?_eq_getElem hks
   have hlk:l[k]?=some l[k]:=List.getElem?_eq_getElem hk
   refine ⟨⟨by omega,n3⟩,s.seen[k],bools_get hsk,fun h4 V13 l13=>(c_bsp_Leaf _).mono ?_,fun h4=>⟨⟨by omega,n3⟩,by simp [bools]; omega,hns.isS (by omega),⟨by omega,n3⟩,?_⟩⟩
   ·rintro r V2 l2 ⟨p,rfl,hp⟩
    have e:prt l (f + 1) (k:Int) s=(.leaf false,{ s with bad:=true }):=by
     simp only [prt,n0,n1,n2,if_false,Int.toNat_natCast]
     rw [hsk,h4,hlk]
    exact ⟨p,rfl,fun V3 l3 g1 g2=>⟨p,rfl,by rw [e]; exact hp.le l3,by rw [e]; exact g1,by rw [e]; exact g2⟩⟩
   ·obtain ⟨b1,p1,m1,c1,b2,p2,m2,c2,b3,p3,m3,c3,a,ha,a0,a1,a2,a3,a4,a5,a6,a7,hL⟩:=hns.rd hlk
    refine ⟨b1,p1,m1,c1,b2,p2,m2,c2,b3,p3,m3,c3,_,_,a,ha,a0,a1,a2,a3,a4,a5,a6,a7,fun V16 l16=>(c_geo_LnOf' (hL.le l16) (hb _ (List.getElem_mem hk))).mono ?_⟩
    rintro r V17 l17 ⟨w,rfl,⟨x1,x2,x3,y1,y2,y3,z1,z2,z3,rfl⟩,hw⟩
    rw [h4] at hsk
    have hset:(bools s.seen).set k (.bool true)=bools (s.seen.set k true):=by simp [bools,List.map_set]
    have hcount:=count_set hsk
    have w1:i64.wrap ((s.cnt:Int) + 1)=((s.cnt + 1:Nat):Int):=by rw [i64w (by omega)]; omega
    rw [hset,w1]
    refine ⟨_,_,_,_,_,_,_,_,_,_,rfl,fun h5 V18 l18=>(c_bsp_Leaf _).mono ?_,fun h5 V21 l21 bk1 bk2 g1 g2 g3 g4 g5=>?_⟩
    ·rintro r V2 l2 ⟨p,rfl,hp⟩
     have h5:okL l[k].ln=false:=by simpa using h5
     have e:prt l (f + 1) (k:Int) s=(.leaf false,⟨s.seen.set k true,s.cnt + 1,true⟩):=by
      simp only [prt,n0,n1,n2,if_false,Int.toNat_natCast]
      rw [hsk,hlk]
      simp [h5]
     exact ⟨p,rfl,fun V3 l3 g1 g2=>⟨p,rfl,by rw [e]; exact hp.le l3,by rw [e]; exact g1,by rw [e]; exact g2⟩⟩
    ·have h5:okL l[k].ln=true:=by simpa using h5
     have lv:V.Le V21:=l16.trans (l17.trans l21)
     have lX:∀(U:View) (u v:Nat),U.H u->U.H v->(U.lend [u,v]).X u/\(U.lend [u,v]).X v:=fun U u v hu hv=>⟨⟨by simp,hu⟩,⟨by simp,hv⟩⟩
     have i1:=ih l[k].left ⟨s.seen.set k true,s.cnt + 1,s.bad⟩ (V:=V21.lend [bk1,bk2]) (hns.le lv) g1 (lX _ _ _ g2 g4).1 g3 (lX _ _ _ g2 g4).2 g5 (by simp [hsl]) (by dsimp only; omega) (by dsimp only; omega)
     have hm:=prt_mono l f l[k].left ⟨s.seen.set k true,s.cnt + 1,s.bad⟩
     have hcc:=prt_cnt l f l[k].left ⟨s.seen.set k true,s.cnt + 1,s.bad⟩
     have e:prt l (f + 1) (k:Int) s=(.node l[k].ln (prt l f l[k].left ⟨s.seen.set k true,s.cnt + 1,s.bad⟩).1 (prt l f l[k].right (prt l f l[k].left ⟨s.seen.set k true,s.cnt + 1,s.bad⟩).2).1,(prt l f l[k].right (prt l f l[k].left ⟨s.seen.set k true,s.cnt + 1,s.bad⟩).2).2):=by
      simp only [prt,n0,n1,n2,if_false,Int.toNat_natCast]
      rw [hsk,hlk]
      simp [h5]
     rw [e]
     clear e
     dsimp only
     generalize prt l f l[k].left ⟨s.seen.set k true,s.cnt + 1,s.bad⟩=q1 at *
     obtain ⟨t1,s1⟩:=q1
     dsimp only at i1 hm hcc ⊢
     refine i1.mono ?_
     rintro r V22 l22 ⟨p,rfl,hp,e1,e2⟩
     refine ⟨p,rfl,_,_,_,_,_,e1,_,e2,fun V23 l23 bk3 bk4 f1 f2 f3 f4 f5=>?_⟩
     have lv2:V21.Le V23:=fun b o h=>l23 b o (l22 b o h)
     have i2:=ih l[k].right s1 (V:=V23.lend [bk3,bk4]) (hns.le (lv.trans lv2)) f1 (lX _ _ _ f2 f4).1 f3 (lX _ _ _ f2 f4).2 f5 (by rw [hm.2]; simp [hsl]) (by omega) (by omega)
     generalize prt l f l[k].right s1=q2 at *
     obtain ⟨t2,s2⟩:=q2
     dsimp only at i2 ⊢
     refine i2.mono ?_
     rintro r V24 l24 ⟨q,rfl,hq,e3,e4⟩
     refine ⟨q,rfl,_,_,_,_,_,e3,_,e4,fun V25 l25=>?_⟩
     have l24':V23.Le V24:=fun b o h=>l24 b o h
     have l25':V24.Le V25:=fun b o h=>l25 b o h
     have lw:V17.Le V25:=l21.trans (lv2.trans (l24'.trans l25'))
     have l23':V22.Le V23:=fun b o h=>l23 b o h
     refine (c_bsp_New ((hw h5).le lw) (hp.le (l23'.trans (l24'.trans l25'))) (hq.le l25')).mono ?_
     rintro r V26 l26 ⟨u,rfl,hu⟩
     exact ⟨u,rfl,fun V27 l27 g1 g2=>⟨u,rfl,hu.le l27,g1,g2⟩⟩
theorem c_bsp_Of {V:View} {l:List Nd} (hb:∀x ∈ l,Bd x.ln) {p:OA} {n c:Nat} (root:Int) (h:NS V p n c l) :
  Acts prog 111 #[.agg #[.int .i64 root,.slice p n c]] V fun r V'=>(ofT l root=none->∃q,r=.tuple #[.pointer q,.bool false])/\(∀t,ofT l root=some t->∃q,r=.tuple #[.pointer q,.bool true]/\RT V' q t):=by
 have hl:=h.len
 subst hl
 refine vc_bsp_Of root p l.length c V _ ⟨fun h0 V1 l1=>?_,fun h0=>⟨by omega,Int.le_refl _,?_,fun V2 l2 bk1 bk2 g1 g2 g3 g4 g5=>?_⟩⟩
 ·have h0:65536 < l.length:=by simp at h0; omega
  have e:ofT l root=none:=by unfold ofT; rw [if_pos h0]
  exact ⟨fun _=>⟨_,rfl⟩,fun t ht=>by rw [e] at ht; cases ht⟩
 ·have h0:¬ 65536 < l.length:=by simp at h0; omega
  omega
 ·have h0:¬ 65536 < l.length:=by simp at h0; omega
  simp only [Int.toNat_natCast] at g1 g3 ⊢
  have hr:List.replicate l.length (Value.bool false)=bools (List.replicate l.length false):=by simp [bools]
  rw [hr] at g3
  have hc0:(List.replicate l.length false).count false=l.length:=by simp
  refine (c_bsp_part hb (by omega) (l.length + 1) root ⟨List.replicate l.length false,0,false⟩ (V:=V2.lend [bk1,bk2]) (h.le l2) g1 ⟨by simp,g2⟩ g3 ⟨by simp,g4⟩ g5 (by simp) (by dsimp only; omega) (by dsimp only; omega)).mono ?_
  rintro r V3 l3 ⟨q,rfl,hq,e1,e2⟩
  have hof:ofT l root=if (prt l (l.length + 1) root ⟨List.replicate l.length false,0,false⟩).2.bad=true \/ (prt l (l.length + 1) root ⟨List.replicate l.length false,0,false⟩).2.cnt≠l.length then none else some (prt l (l.length + 1) root ⟨List.replicate l.length false,0,false⟩).1:=by
   unfold ofT; rw [if_neg h0]
  rw [hof]
  clear hof
  generalize prt l (l.length + 1) root ⟨List.replicate l.length false,0,false⟩=r0 at *
  obtain ⟨t,s⟩:=r0
  refine ⟨q,rfl,_,_,_,_,_,e1,_,e2,fun h1 V4 l4=>?_,fun h1=>⟨fun h2 V5 l5=>?_,fun h2 V6 l6=>?_⟩⟩
  ·rw [if_pos (.inl h1)]
   exact ⟨fun _=>⟨_,rfl⟩,fun t ht=>by cases ht⟩
  ·have h2:s.cnt≠l.length:=by simp at h2; omega
   rw [if_pos (.inr h2)]
   exact ⟨fun _=>⟨_,rfl⟩,fun t ht=>by cases ht⟩
  ·have h2:s.cnt=l.length:=by simp at h2; omega
   dsimp only at h1 ⊢
   rw [if_neg (by rw [h1,h2]; simp)]
   exact ⟨fun e=>(by cases e),fun t1 ht=>by cases ht; exact ⟨q,rfl,RT.le (V:=V3) (V':=V6) (fun b o h=>l6 b o h) hq⟩⟩
end Go.Proofs.Tryz
