import Derived.Test.YtnnbfoejafcdlaaGreatDoorA13
import Derived.Test.YtnnbfoejafcdlaaGreatDoorA12
import Derived.Test.YtnnbfoejafcdlaaGreatDoorA7
import Derived.Test.YtnnbfoejafcdlaaGreatDoorA5
import Derived.Test.YtnnbfoejafcdlaaGreatDoorA9
import Derived.Laws.IdiomCopy
import Derived.Lib.Overlaps
import Derived.Lib.JoinLaws
import Derived.Lib.AppendZerosOnto
import Derived.Shelf.RegionOpenPlain
import Derived.Lib.Walk
import Derived.Lib.SliceRun
import Derived.Laws.NewBlocks
set_option linter.unusedVariables false
open Go.IntKind (i64 u64 u32)
namespace Go.Proofs.Tryz.aD
open Go.bq Go.ew
def half (u:V2):Int:=if u.2.num.sign>0\/u.2.num.sign=0/\u.1.num.sign>0 then 1 else if u.2.num.sign<0\/u.1.num.sign<0 then 2 else 0
def ir (u v:V2):Int:=if half u<half v then -1 else if half u>half v then 1 else -(cr u v).num.sign
theorem ph {q:Rat}:q.num.sign>0↔q>0:=by
 have:=Rat.num_nonneg (q:=-q)
 rw [Rat.neg_num] at this
 rw [gt_iff_lt,Int.sign_pos_iff]
 have h2:(0<=-q)↔¬q>0:=by constructor<;>intro h<;>grind
 rw [h2] at this
 by_cases h:q>0
 ·exact ⟨fun _=>h,fun _=>by
   have:¬0<=-q.num:=fun g=>this.1 g h
   omega⟩
 ·exact ⟨fun g=>by have:=this.2 h;omega,fun g=>absurd g h⟩
theorem Cu {q:Rat}:q.num.sign<0↔q<0:=by
 have:=@ph (-q)
 rw [Rat.neg_num,Int.sign_neg] at this
 constructor
 ·intro h;have:=this.1 (by omega);grind
 ·intro h;have:=this.2 (by grind);omega
theorem cH (u:V2):half u=1/\up u\/half u=2/\dn u\/half u=0/\u.1=0/\u.2=0:=by
 unfold half up dn
 split
 ·rename_i h;rw [ph,ph,ni] at h;exact .inl ⟨rfl,h⟩
 ·rename_i h
  rw [ph,ph,ni] at h
  split
  ·rename_i h';rw [Cu,Cu] at h';exact .inr (.inl ⟨rfl,by grind⟩)
  ·rename_i h';rw [Cu,Cu] at h';exact .inr (.inr ⟨rfl,by grind,by grind⟩)
theorem vQ {u v:V2}:ir u v<0↔half u<half v\/half u=half v/\cr u v>0:=by
 have:=@ph (cr u v)
 unfold ir
 by_cases h1:half u<half v
 ·simp [h1]
 ·by_cases h2:half u>half v
  ·rw [if_neg h1,if_pos h2];omega
  ·rw [if_neg h1,if_neg h2];constructor
   ·intro h;exact .inr ⟨by omega,this.1 (by omega)⟩
   ·rintro (h|⟨h,h'⟩)
    ·omega
    ·have:=this.2 h';omega
theorem xM {u v:V2}:ir u v=0↔half u=half v/\cr u v=0:=by
 have:=@ni (cr u v)
 unfold ir
 by_cases h1:half u<half v
 ·rw [if_pos h1];constructor
  ·intro h;omega
  ·rintro ⟨h,_⟩;omega
 ·by_cases h2:half u>half v
  ·rw [if_neg h1,if_pos h2];constructor
   ·intro h;omega
   ·rintro ⟨h,_⟩;omega
  ·rw [if_neg h1,if_neg h2];constructor
   ·intro h;exact ⟨by omega,this.1 (by omega)⟩
   ·rintro ⟨_,h⟩;have:=this.2 h;omega
theorem H0 (u v:V2):ir u v<0\/ir u v=0\/ir v u<0:=by
 rw [vQ,xM,vQ]
 have:=B9 u v
 rcases Int.lt_trichotomy (half u) (half v) with h|h|h
 ·exact .inl (.inl h)
 ·by_cases p:cr u v>0
  ·exact .inl (.inr ⟨h,p⟩)
  ·by_cases q:cr u v=0
   ·exact .inr (.inl ⟨h,q⟩)
   ·exact .inr (.inr (.inr ⟨h.symm,by grind⟩))
 ·exact .inr (.inr (.inl h))
theorem F4 (u v:V2)(h:ir u v<0):¬ir v u<0:=by
 rw [vQ] at *
 have:=B9 u v
 rintro (h'|⟨h',g'⟩)<;>rcases h with h|⟨h,g⟩
 ·omega
 ·omega
 ·omega
 ·grind
theorem Gd {a b d:V2}(tH:half a=half b)(hbd:half b=half d)(h1:cr a b<=0)(h2:cr b d<=0):cr a d<=0:=by
 by_cases h:cr a d<=0
 ·exact h
 exfalso
 have c:cr a d>0:=by grind
 have j1:=M8 a d b
 have j2:=EG a d b
 rcases cH b with ⟨e,hb⟩|⟨e,hb⟩|⟨e,hb⟩
 ·have ha:up a:=by rcases cH a with ⟨e',h⟩|⟨e',h⟩|⟨e',h⟩<;>first|exact h|omega
  have hd:up d:=by rcases cH d with ⟨e',h⟩|⟨e',h⟩|⟨e',h⟩<;>first|exact h|omega
  unfold up at ha hb hd
  have m1:=mn (show -(cr a b)≥0 by grind) (show d.2≥0 by grind)
  have m2:=mn (show -(cr b d)≥0 by grind) (show a.2≥0 by grind)
  have m3:=mn (show cr a d≥0 by grind) (show b.2≥0 by grind)
  have z3:cr a d*b.2=0:=by grind
  have b2:b.2=0:=by rcases Rat.mul_eq_zero.1 z3 with h|h<;>grind
  have b1:b.1>0:=by grind
  have d2:d.2=0:=by
   by_cases q:d.2>0
   ·have:=mp b1 q;unfold cr at h2;rw [b2] at h2;grind
   ·grind
  have d1:d.1>0:=by grind
  have:=mn (show a.2≥0 by grind) (show d.1≥0 by grind)
  unfold cr at c
  rw [d2] at c
  grind
 ·have ha:dn a:=by rcases cH a with ⟨e',h⟩|⟨e',h⟩|⟨e',h⟩<;>first|exact h|omega
  have hd:dn d:=by rcases cH d with ⟨e',h⟩|⟨e',h⟩|⟨e',h⟩<;>first|exact h|omega
  unfold dn at ha hb hd
  have m1:=mn (show -(cr a b)≥0 by grind) (show -d.2≥0 by grind)
  have m2:=mn (show -(cr b d)≥0 by grind) (show -a.2≥0 by grind)
  have m3:=mn (show cr a d≥0 by grind) (show -b.2≥0 by grind)
  have z3:cr a d*b.2=0:=by grind
  have b2:b.2=0:=by rcases Rat.mul_eq_zero.1 z3 with h|h<;>grind
  have b1:-b.1>0:=by grind
  have d2:d.2=0:=by
   by_cases q:-d.2>0
   ·have:=mp b1 q;unfold cr at h2;rw [b2] at h2;grind
   ·grind
  have d1:d.1<0:=by grind
  have:=mn (show -a.2≥0 by grind) (show -d.1≥0 by grind)
  unfold cr at c
  rw [d2] at c
  grind
 ·have ha:a.1=0/\a.2=0:=by rcases cH a with ⟨e',h⟩|⟨e',h⟩|⟨e',h⟩<;>first|exact h|omega
  unfold cr at c
  rw [ha.1,ha.2] at c
  grind
theorem HZ {u v:V2}:¬ir u v<0↔half v<half u\/half u=half v/\cr u v<=0:=by
 rw [vQ]
 constructor
 ·intro h
  rcases Int.lt_trichotomy (half u) (half v) with g|g|g
  ·exact absurd (.inl g) h
  ·exact .inr ⟨g,by by_cases p:cr u v>0;exact absurd (.inr ⟨g,p⟩) h;grind⟩
  ·exact .inl g
 ·rintro (h|⟨h,g⟩) (h'|⟨h',g'⟩)
  ·omega
  ·omega
  ·omega
  ·grind
theorem H2 (a b d:V2)(h:¬ir a b<0)(h':¬ir b d<0):¬ir a d<0:=by
 rw [HZ] at *
 rcases h with h|⟨h,g⟩<;>rcases h' with h'|⟨h',g'⟩
 ·exact .inl (by omega)
 ·exact .inl (by omega)
 ·exact .inl (by omega)
 ·exact .inr ⟨by omega,Gd h h' g g'⟩
theorem DX {u v:V2}(hu:nz u)(h:ir u v=0):∃c:Rat,c>0/\u=(c*v.1,c*v.2):=by
 rw [xM] at h
 obtain ⟨e,c⟩:=h
 have fin:∀k:Rat,k>0->u.1=k*v.1->u.2=k*v.2->∃c:Rat,c>0/\u=(c*v.1,c*v.2):=fun k h0 h1 h2=>⟨k,h0,Prod.ext h1 h2⟩
 have pos:∀x y:Rat,y≠0->x*y>0->x*y⁻¹>0:=fun x y hy h=>by
  have e:=inv_mul hy x
  generalize x*y⁻¹=t at *
  have e2:t*(y*y)=x*y:=by grind
  have:=sq_pos (u:=(y,0)) (.inl hy)
  unfold dt at this
  by_cases q:t>0
  ·exact q
  ·have:=mn (show -t≥0 by grind) (show y*y≥0 by grind);grind
 unfold cr at c
 have two:v.2≠0->u.2*v.2>0->∃c:Rat,c>0/\u=(c*v.1,c*v.2):=fun h0 h1=>by
  refine fin (u.2*v.2⁻¹) (pos _ _ h0 h1) ?_ (inv_mul h0 _).symm
  have:=inv_mul h0 u.1
  have:u.1*v.2*v.2⁻¹=u.2*v.1*v.2⁻¹:=by rw [show u.1*v.2=u.2*v.1 by grind]
  grind
 have one:v.1≠0->u.1*v.1>0->v.2=0->u.2=0->∃c:Rat,c>0/\u=(c*v.1,c*v.2):=fun h0 h1 h2 h3=>
  fin (u.1*v.1⁻¹) (pos _ _ h0 h1) (inv_mul h0 _).symm (by rw [h2,h3];grind)
 rcases cH u with ⟨e1,h⟩|⟨e1,h⟩|⟨e1,h⟩
 ·have h':up v:=by rcases cH v with ⟨e',h⟩|⟨e',h⟩|⟨e',h⟩<;>first|exact h|omega
  unfold up at h h'
  by_cases q:v.2>0
  ·refine two (by grind) ?_
   by_cases q':u.2>0
   ·exact mp q' q
   ·have u2:u.2=0:=by grind
    have:=mp (show u.1>0 by grind) q
    rw [u2] at c;grind
  ·have v2:v.2=0:=by grind
   have v1:v.1>0:=by grind
   by_cases q':u.2>0
   ·have:=mp q' v1;rw [v2] at c;grind
   ·exact one (by grind) (mp (by grind) v1) v2 (by grind)
 ·have h':dn v:=by rcases cH v with ⟨e',h⟩|⟨e',h⟩|⟨e',h⟩<;>first|exact h|omega
  unfold dn at h h'
  by_cases q:v.2<0
  ·refine two (by grind) ?_
   by_cases q':u.2<0
   ·have:=mp (show -u.2>0 by grind) (show -v.2>0 by grind);grind
   ·have u2:u.2=0:=by grind
    have:=mp (show -u.1>0 by grind) (show -v.2>0 by grind)
    rw [u2] at c;grind
  ·have v2:v.2=0:=by grind
   have v1:-v.1>0:=by grind
   by_cases q':u.2<0
   ·have:=mp (show -u.2>0 by grind) v1;rw [v2] at c;grind
   ·refine one (by grind) ?_ v2 (by grind)
    have:=mp (show -u.1>0 by grind) v1;grind
 ·unfold nz at hu;grind
section
variable {D:List V2} (h:LC D)
include h
omit h in
end
theorem qb {a b c x y z:Int}(h1:a*y=b*x)(h2:a*z=c*x)(g:Nat.gcd (Nat.gcd x.natAbs y.natAbs) z.natAbs=1):x.natAbs∣a.natAbs:=by
 have e1:a.natAbs*y.natAbs=b.natAbs*x.natAbs:=by rw [←Int.natAbs_mul,←Int.natAbs_mul,h1]
 have e2:a.natAbs*z.natAbs=c.natAbs*x.natAbs:=by rw [←Int.natAbs_mul,←Int.natAbs_mul,h2]
 have d1:x.natAbs∣a.natAbs*Nat.gcd (Nat.gcd x.natAbs y.natAbs) z.natAbs:=by
  rw [←Nat.gcd_mul_left,←Nat.gcd_mul_left]
  exact Nat.dvd_gcd (Nat.dvd_gcd ⟨a.natAbs,by rw [Nat.mul_comm]⟩ ⟨b.natAbs,by rw [e1,Nat.mul_comm]⟩) ⟨c.natAbs,by rw [e2,Nat.mul_comm]⟩
 rwa [g,Nat.mul_one] at d1
theorem Dz {l m:L3}(ol:fW l=true)(om:fW m=true)(cl:jU l=l)(cm:jU m=m){x y:Rat}(hl:az l x y=0)(hm:az m x y=0)
  (hc:cr (aG l) (aG m)=0):l=m:=by
 unfold fW at ol om
 rw [Bool.and_eq_true,decide_eq_true_iff,decide_eq_true_iff] at ol om
 have c12:l.1*m.2.1=l.2.1*m.1:=by
  unfold cr aG at hc
  have:(l.1:Rat)*(m.2.1:Rat)=(l.2.1:Rat)*(m.1:Rat):=by grind
  exact_mod_cast this
 unfold az at hl hm
 have S9:(l.1:Rat)*(m.2.1:Rat)=(l.2.1:Rat)*(m.1:Rat):=by exact_mod_cast c12
 have c13:l.1*m.2.2=l.2.2*m.1:=by
  have:(l.1:Rat)*(m.2.2:Rat)=(l.2.2:Rat)*(m.1:Rat):=by grind
  exact_mod_cast this
 have c23:l.2.1*m.2.2=l.2.2*m.2.1:=by
  have:(l.2.1:Rat)*(m.2.2:Rat)=(l.2.2:Rat)*(m.2.1:Rat):=by grind
  exact_mod_cast this
 obtain ⟨RG,Np⟩:=ol
 obtain ⟨S3,Nq⟩:=om
 unfold fI at Np Nq
 have QO:Nat.gcd (Nat.gcd l.2.1.natAbs l.1.natAbs) l.2.2.natAbs=1:=by rw [Nat.gcd_comm l.2.1.natAbs];exact Np
 have QP:Nat.gcd (Nat.gcd m.2.1.natAbs m.1.natAbs) m.2.2.natAbs=1:=by rw [Nat.gcd_comm m.2.1.natAbs];exact Nq
 have a1:l.1.natAbs=m.1.natAbs:=Nat.dvd_antisymm (qb (a:=m.1) (b:=m.2.1) (c:=m.2.2) (by rw [Int.mul_comm,←c12,Int.mul_comm]) (by rw [Int.mul_comm,←c13,Int.mul_comm]) Np) (qb c12 c13 Nq)
 have a2:l.2.1.natAbs=m.2.1.natAbs:=Nat.dvd_antisymm (qb (a:=m.2.1) (b:=m.1) (c:=m.2.2) (by rw [Int.mul_comm,c12,Int.mul_comm]) (by rw [Int.mul_comm,←c23,Int.mul_comm]) QO) (qb (b:=l.1) (c:=l.2.2) c12.symm c23 QP)
 have sl:¬(l.1<0\/l.1=0/\l.2.1<0):=fun h=>by
  unfold jU at cl
  rw [if_pos h] at cl
  have e1:-l.1=l.1:=congrArg (fun x:L3=>x.1) cl
  have e2:-l.2.1=l.2.1:=congrArg (fun x:L3=>x.2.1) cl
  omega
 have sm:¬(m.1<0\/m.1=0/\m.2.1<0):=fun h=>by
  unfold jU at cm
  rw [if_pos h] at cm
  have e1:-m.1=m.1:=congrArg (fun x:L3=>x.1) cm
  have e2:-m.2.1=m.2.1:=congrArg (fun x:L3=>x.2.1) cm
  omega
 have e1:l.1=m.1:=by omega
 by_cases z:l.1=0
 ·have e2:l.2.1=m.2.1:=by omega
  have n2:l.2.1≠0:=fun h=>RG ⟨z,h⟩
  have e3:m.2.2=l.2.2:=Int.eq_of_mul_eq_mul_left n2 (by rw [c23,e2,Int.mul_comm])
  exact Prod.ext e1 (Prod.ext e2 e3.symm)
 ·have e2:m.2.1=l.2.1:=Int.eq_of_mul_eq_mul_left z (by rw [c12,e1,Int.mul_comm])
  have e3:m.2.2=l.2.2:=Int.eq_of_mul_eq_mul_left z (by rw [c13,e1,Int.mul_comm])
  exact Prod.ext e1 (Prod.ext e2.symm e3.symm)
end Go.Proofs.Tryz.aD
namespace Go.Proofs.Tryz.aD
def mx (x:Rat×Rat)(t:Rat):Rat:=x.1+t*(x.2-x.1)
theorem Ba {x:Rat×Rat}{t:Rat}(h1:x.1>0)(h2:x.2>0)(t0:t>0)(t1:t<=1):mx x t>0:=by
 have a:=mn (show 1-t≥0 by grind) (show x.1≥0 by grind)
 have b:=mp t0 h2
 unfold mx;grind
theorem IF {x:Rat×Rat}{t s:Rat}(h1:x.1>0)(hs:mx x s≥0)(s0:s>0)(t0:t>0)(ts:t<=s):mx x t≥0:=by
 unfold mx at *
 have e:s*(x.1+t*(x.2-x.1))=(s-t)*x.1+t*(x.1+s*(x.2-x.1)):=by grind
 have a:=mn (show s-t≥0 by grind) (show x.1≥0 by grind)
 have b:=mn (show t≥0 by grind) hs
 by_cases h:x.1+t*(x.2-x.1)≥0
 ·exact h
 ·have:=mp s0 (show -(x.1+t*(x.2-x.1))>0 by grind)
  grind
theorem xE {y:Rat×Rat}(h1:y.1>0){s:Rat}(s0:s>0)(hs:mx y s<=0):∃t,t>0/\t<=s/\mx y t=0:=by
 have hd:y.1-y.2>0:=by
  by_cases c:y.1-y.2>0
  ·exact c
  ·have:=mn (show s≥0 by grind) (show y.2-y.1≥0 by grind)
   unfold mx at hs;grind
 have e:=inv_mul (show y.1-y.2≠0 by grind) y.1
 have p:=mp h1 (Rat.inv_pos.2 hd)
 refine ⟨y.1*(y.1-y.2)⁻¹,p,?_,?_⟩
 ·generalize y.1*(y.1-y.2)⁻¹=t at *
  by_cases c:t<=s
  ·exact c
  ·have:=mp (show t-s>0 by grind) hd
   unfold mx at hs;grind
 ·generalize y.1*(y.1-y.2)⁻¹=t at *
  unfold mx;grind
theorem AW:∀(L:List (Rat×Rat)),(∀x∈L,x.1>0)->(∃x∈L,x.2<=0)->∃t,t>0/\t<=1/\(∀x∈L,mx x t≥0)/\∃x∈L,mx x t=0
 | [],_,h=>by obtain ⟨x,hx,_⟩:=h;cases hx
 | y::L,h0,h=>by
  have hy:=h0 y (List.mem_cons_self ..)
  have hL:=fun x hx=>h0 x (List.mem_cons_of_mem y hx)
  by_cases c:∃x∈L,x.2<=0
  ·obtain ⟨t,t0,t1,a,x,hx,e⟩:=AW L hL c
   by_cases g:mx y t≥0
   ·exact ⟨t,t0,t1,fun z hz=>by rcases List.mem_cons.1 hz with rfl|hz;exact g;exact a z hz,x,List.mem_cons_of_mem _ hx,e⟩
   ·obtain ⟨s,s0,st,es⟩:=xE hy t0 (by grind)
    exact ⟨s,s0,by grind,fun z hz=>by rcases List.mem_cons.1 hz with rfl|hz;grind;exact IF (hL z hz) (a z hz) t0 s0 st,y,List.mem_cons_self ..,es⟩
  ·obtain ⟨x,hx,hx2⟩:=h
   have:x=y:=by
    rcases List.mem_cons.1 hx with rfl|hx
    ·rfl
    ·exact absurd ⟨x,hx,hx2⟩ c
   subst this
   obtain ⟨s,s0,st,es⟩:=xE hy (s:=1) (by decide) (by unfold mx;grind)
   refine ⟨s,s0,st,fun z hz=>?_,x,List.mem_cons_self ..,es⟩
   rcases List.mem_cons.1 hz with rfl|hz
   ·grind
   ·have:z.2>0:=by
     by_cases q:z.2>0
     ·exact q
     ·exact absurd ⟨z,hz,by grind⟩ c
    have:=Ba (hL z hz) this s0 st
    grind
theorem wU:∀(L:List (Rat×Rat)),(∀x∈L,x.1>0)->∃s,s>0/\∀x∈L,x.1+s*x.2>0
 | [],_=>⟨1,by decide,fun x h=>by cases h⟩
 | y::L,h0=>by
  have hy:=h0 y (List.mem_cons_self ..)
  obtain ⟨s,s0,h⟩:=wU L fun x hx=>h0 x (List.mem_cons_of_mem y hx)
  by_cases c:y.1+s*y.2>0
  ·exact ⟨s,s0,fun z hz=>by rcases List.mem_cons.1 hz with rfl|hz;exact c;exact h z hz⟩
  ·have hn:-y.2>0:=by
    by_cases q:y.2<0
    ·grind
    ·have:=mn (show s≥0 by grind) (show y.2≥0 by grind);grind
   have e:=inv_mul (show -y.2≠0 by grind) y.1
   have p:=mp hy (Rat.inv_pos.2 hn)
   generalize y.1*(-y.2)⁻¹=r at *
   have hr:r<=s:=by
    by_cases q:r<=s
    ·exact q
    ·have:=mp (show r-s>0 by grind) hn;grind
   refine ⟨r*(1 / 2),by grind,fun z hz=>?_⟩
   rcases List.mem_cons.1 hz with rfl|hz
   ·grind
   ·have hz1:=h0 z (List.mem_cons_of_mem _ hz)
    have hz2:=h z hz
    by_cases q:z.2≥0
    ·have:=mn (show r*(1 / 2)≥0 by grind) q;grind
    ·have:=mn (show s-r*(1 / 2)≥0 by grind) (show -z.2≥0 by grind)
     grind
def pos (M:List L3)(p:V2):Prop:=∀m∈M,az m p.1 p.2>0
def Es (M:List L3)(l:L3):Prop:=∃p:V2,az l p.1 p.2=0/\∀m∈M,m≠l->az m p.1 p.2>0
def Ok (M:List L3):Prop:=∀l∈M,∀m∈M,l≠m->∀p:V2,az l p.1 p.2=0->az m p.1 p.2=0->cr (aG l) (aG m)≠0
theorem GW {l m:L3}{w:V2}(hw:w.1≠0\/w.2≠0)(h1:nv l w=0)(h2:nv m w=0):cr (aG l) (aG m)=0:=by
 have e1:cr (aG l) (aG m)*w.1=0:=by unfold nv at *;unfold cr aG;grind
 have e2:cr (aG l) (aG m)*w.2=0:=by unfold nv at *;unfold cr aG;grind
 rcases hw with h|h
 ·rcases Rat.mul_eq_zero.1 e1 with g|g;exact g;exact absurd g h
 ·rcases Rat.mul_eq_zero.1 e2 with g|g;exact g;exact absurd g h
theorem B8 (u:V2):cr u u=0:=by unfold cr;grind
theorem xd (m:L3)(q p:V2)(t:Rat):az m (q.1+t*(p.1-q.1)) (q.2+t*(p.2-q.2))=az m q.1 q.2+t*(az m p.1 p.2-az m q.1 q.2):=by unfold az;grind
theorem IH (m:L3)(q p:V2)(t:Rat):nv m (q.1+t*(p.1-q.1),q.2+t*(p.2-q.2))=nv m q+t*(nv m p-nv m q):=by unfold nv;grind
theorem IJ (m:L3)(q x:V2):nv m (q.1-x.1,q.2-x.2)=az m q.1 q.2-az m x.1 x.2:=by unfold nv az;grind
theorem QD {M:List L3}(hd:Ok M)(hn:∀m∈M,(aG m).1≠0\/(aG m).2≠0){q p:V2}(hq:pos M q)(hp:∀m∈M,Es M m->az m p.1 p.2>0):pos M p:=by
 intro m0 hm0
 by_cases c:az m0 p.1 p.2>0
 ·exact c
 exfalso
 let f:L3->Rat×Rat:=fun m=>(az m q.1 q.2,az m p.1 p.2)
 obtain ⟨t,t0,t1,ge,x,hx,ex⟩:=AW (M.map f) (fun x hx=>by obtain ⟨m,hm,rfl⟩:=List.mem_map.1 hx;exact hq m hm) ⟨f m0,List.mem_map_of_mem hm0,by show az m0 p.1 p.2<=0;grind⟩
 obtain ⟨m1,hm1,rfl⟩:=List.mem_map.1 hx
 let X:V2:=(q.1+t*(p.1-q.1),q.2+t*(p.2-q.2))
 have vX:∀m,az m X.1 X.2=mx (f m) t:=fun m=>xd m q p t
 have QM:∀m∈M,az m X.1 X.2≥0:=fun m hm=>by rw [vX];exact ge _ (List.mem_map_of_mem hm)
 have zX:az m1 X.1 X.2=0:=by rw [vX];exact ex
 let u:V2:=(q.1-X.1,q.2-X.2)
 have vu:∀m,nv m u=az m q.1 q.2-az m X.1 X.2:=fun m=>IJ m q X
 let Z:=M.filter fun m=>decide (az m X.1 X.2=0)
 have GM:∀m,m∈Z↔m∈M/\az m X.1 X.2=0:=fun m=>by simp [Z,List.mem_filter]
 have Rz:m1∈Z:=(GM m1).2 ⟨hm1,zX⟩
 let d:=aG m1
 have d0:nv m1 d=0:=by rw [Cm];exact B8 _
 let g:L3->Rat×Rat:=fun m=>(nv m u,nv m d)
 obtain ⟨k,k0,k1,QN,y,hy,ey⟩:=AW (Z.map g) (fun x hx=>by
  obtain ⟨m,hm,rfl⟩:=List.mem_map.1 hx
  obtain ⟨Ra,hz⟩:=(GM m).1 hm
  show nv m u>0
  rw [vu,hz];have:=hq m Ra;grind) ⟨g m1,List.mem_map_of_mem Rz,by show nv m1 d<=0;rw [d0];grind⟩
 obtain ⟨m2,hm2,rfl⟩:=List.mem_map.1 hy
 obtain ⟨Ni,Nj⟩:=(GM m2).1 hm2
 let w:V2:=(u.1+k*(d.1-u.1),u.2+k*(d.2-u.2))
 have vw:∀m,nv m w=mx (g m) k:=fun m=>IH m u d k
 have wz:nv m2 w=0:=by rw [vw];exact ey
 have w0:w.1≠0\/w.2≠0:=by
  by_cases e:k=1
  ·have:=hn m1 hm1
   have e1:w.1=d.1:=by dsimp only [w];rw [e];grind
   have e2:w.2=d.2:=by dsimp only [w];rw [e];grind
   rw [e1,e2];exact this
  ·have a:nv m1 w>0:=by
    rw [vw]
    show nv m1 u+k*(nv m1 d-nv m1 u)>0
    rw [d0]
    have:nv m1 u>0:=by rw [vu,zX];have:=hq m1 hm1;grind
    have:=mp (show 1-k>0 by grind) this
    grind
   by_cases e1:w.1=0
   ·by_cases e2:w.2=0
    ·unfold nv at a;rw [e1,e2] at a;grind
    ·exact .inr e2
   ·exact .inl e1
 obtain ⟨s,s0,hs⟩:=wU ((M.filter fun m=>decide (az m X.1 X.2>0)).map fun m=>(az m X.1 X.2,nv m w)) (fun x hx=>by
  obtain ⟨m,hm,rfl⟩:=List.mem_map.1 hx
  simpa using (List.mem_filter.1 hm).2)
 have es:Es M m2:=by
  refine ⟨(X.1+s*w.1,X.2+s*w.2),?_,fun m hm hne=>?_⟩
  ·rw [im,Nj,wz];grind
  ·rw [im]
   by_cases z:az m X.1 X.2=0
   ·have Rb:=(GM m).2 ⟨hm,z⟩
    have g0:nv m w≥0:=by rw [vw];exact QN _ (List.mem_map_of_mem Rb)
    have ne:nv m w≠0:=fun e=>hd m2 Ni m hm (fun h=>hne h.symm) X Nj z (GW w0 wz e)
    have:=mp s0 (show nv m w>0 by grind)
    rw [z];grind
   ·have gz:=QM m hm
    have hmem:(az m X.1 X.2,nv m w)∈((M.filter fun m=>decide (az m X.1 X.2>0)).map fun m=>(az m X.1 X.2,nv m w)):=List.mem_map.2 ⟨m,List.mem_filter.2 ⟨hm,by simp;grind⟩,rfl⟩
    exact hs _ hmem
 have a:=hp m2 Ni es
 have b:=hq m2 Ni
 have:=Ba (x:=f m2) b a t0 t1
 rw [←vX,Nj] at this
 grind
def GN (l:L3):V2:=((l.1:Rat),(l.2.1:Rat))
theorem NZ {x y:Rat}(h:x≠0\/y≠0):x*x+y*y>0:=by
 have p:∀z:Rat,z≠0->z*z>0:=fun z hz=>by
  by_cases c:z>0
  ·exact mp c c
  ·have:=mp (show -z>0 by grind) (show -z>0 by grind);grind
 have q:∀z:Rat,z*z≥0:=fun z=>by
  by_cases c:z≥0
  ·exact mn c c
  ·have:=mn (show -z≥0 by grind) (show -z≥0 by grind);grind
 rcases h with h|h
 ·have:=p x h;have:=q y;grind
 ·have:=p y h;have:=q x;grind
theorem II {l:L3}(h:(aG l).1≠0\/(aG l).2≠0):nv l (GN l)>0:=by
 have:nv l (GN l)=(l.1:Rat)*(l.1:Rat)+(l.2.1:Rat)*(l.2.1:Rat):=rfl
 rw [this]
 refine NZ ?_
 rcases h with h|h
 ·exact .inr h
 ·left;intro e;apply h;show -(l.1:Rat)=0;rw [e];grind
theorem Ek {M:List L3}{l:L3}(hn:(aG l).1≠0\/(aG l).2≠0){x:V2}(hx:az l x.1 x.2=0)(h:∀m∈M,m≠l->az m x.1 x.2>0)(L:List L3)(hL:∀m∈L,az m x.1 x.2>0):∃q:V2,pos M q/\az l q.1 q.2>0/\pos L q:=by
 have h1:=II hn
 obtain ⟨s,s0,hs⟩:=wU (((M.filter fun m=>decide (m≠l))++L).map fun m=>(az m x.1 x.2,nv m (GN l))) (fun y hy=>by
  obtain ⟨m,hm,rfl⟩:=List.mem_map.1 hy
  rcases List.mem_append.1 hm with hm|hm
  ·have:=List.mem_filter.1 hm
   exact h m this.1 (by simpa using this.2)
  ·exact hL m hm)
 have hl:az l (x.1+s*(GN l).1) (x.2+s*(GN l).2)>0:=by rw [im,hx];have:=mp s0 h1;grind
 refine ⟨(x.1+s*(GN l).1,x.2+s*(GN l).2),fun m hm=>?_,hl,fun m hm=>?_⟩
 ·by_cases e:m=l
  ·rw [e];exact hl
  ·rw [im]
   exact hs (az m x.1 x.2,nv m (GN l)) (List.mem_map.2 ⟨m,List.mem_append_left _ (List.mem_filter.2 ⟨hm,by simpa using e⟩),rfl⟩)
 ·rw [im]
  exact hs (az m x.1 x.2,nv m (GN l)) (List.mem_map.2 ⟨m,List.mem_append_right _ hm,rfl⟩)
theorem zd {M:List L3}{l:L3}(hno:∀x:V2,az l x.1 x.2=0->¬pos M x){q p:V2}(hq:pos M q)(hp:pos M p):az l q.1 q.2>0->az l p.1 p.2>0:=by
 intro h
 by_cases c:az l p.1 p.2>0
 ·exact c
 exfalso
 obtain ⟨t,t0,t1,e⟩:=xE (y:=(az l q.1 q.2,az l p.1 p.2)) h (s:=1) (by decide) (by unfold mx;grind)
 refine hno (q.1+t*(p.1-q.1),q.2+t*(p.2-q.2)) ?_ fun m hm=>?_
 ·rw [xd];exact e
 ·rw [xd];exact Ba (x:=(az m q.1 q.2,az m p.1 p.2)) (hq m hm) (hp m hm) t0 t1
end Go.Proofs.Tryz.aD
namespace Go.Proofs.Tryz
open Go.bq Go.ew
def Sp.nH (s:Sp)(t:Rat):Prop:=(s.a=true\/s.lo<t)/\(s.b=true\/t<s.hi)
def Dh (ss:List Sp)(t:Rat):Prop:=∃s∈ss,s.nH t
def Sp.n_ (s:Sp):Prop:=s.can/\s.emp=false
def Sp.Jd (s t:Sp):Prop:=s.b=false/\t.a=false/\s.hi<t.lo
def DQ (ss:List Sp):Prop:=(∀s∈ss,s.n_)/\ss.Pairwise Sp.Jd
theorem pick (E:List Rat):∀l u:Rat,l<u->∃t,l<t/\t<u/\t∉E:=by
 induction E with
 | nil=>exact fun l u h=>⟨(l+u) / 2,by grind,by grind,by simp⟩
 | cons e r ih=>
  intro l u h
  by_cases c:l<e/\e<u
  ·obtain ⟨t,h1,h2,h3⟩:=ih l e c.1
   refine ⟨t,h1,by grind,fun hm=>?_⟩
   rcases List.mem_cons.1 hm with rfl|hm
   ·grind
   ·exact h3 hm
  ·obtain ⟨t,h1,h2,h3⟩:=ih l u h
   refine ⟨t,h1,h2,fun hm=>?_⟩
   rcases List.mem_cons.1 hm with rfl|hm
   ·exact c ⟨h1,h2⟩
   ·exact h3 hm
theorem yR {s:Sp}(h:s.emp=false)(ha:s.a=false)(hb:s.b=false):s.lo<s.hi:=by
 rcases Sp.mK.1 h with h|h|h
 ·rw [ha] at h;cases h
 ·rw [hb] at h;cases h
 ·exact h
theorem DQ.tail {s:Sp}{r:List Sp}(h:DQ (s::r)):DQ r:=⟨fun x hx=>h.1 x (by simp [hx]),(List.pairwise_cons.1 h.2).2⟩
theorem DQ.Jd {s:Sp}{r:List Sp}(h:DQ (s::r)){x:Sp}(hx:x∈r):s.Jd x:=(List.pairwise_cons.1 h.2).1 x hx
set_option linter.unusedSectionVars false
section
variable {s s':Sp} {r r':List Sp} {E:List Rat} (h:DQ (s :: r)) (h':DQ (s' :: r')) (e:∀t,t ∉ E->Dh (s :: r) t->Dh (s' :: r') t)
include h h' e
end
theorem Sp.ext' {s t:Sp}(h1:s.a=t.a)(h2:s.b=t.b)(h3:s.lo=t.lo)(h4:s.hi=t.hi):s=t:=by
 cases s;cases t;simp at *;exact ⟨h3,h4,h1,h2⟩
end Go.Proofs.Tryz
namespace Go.Proofs.Tryz
open Go.bq Go.ew
theorem row_one {α:Type}{sz:Nat}{R:View->Value->α->Prop}{V:View}{xs:List Value}{a:α}(hx:xs.length=sz)(ha:R V (.agg xs.toArray) a):Row sz R V xs [a]:=by
 refine ⟨fun i hi=>?_⟩
 obtain rfl:i=0:=by simpa using hi
 exact ⟨xs,hx,ha,fun j x hj=>by rw [Nat.zero_mul,Nat.zero_add];exact hj⟩
theorem Bq {α:Type}{sz:Nat}{R:View->Value->α->Prop}{V:View}{vs:List Value}{ls:List α}(h:Row sz R V vs ls){k:Nat}(hk:k<=ls.length){xs sp:List Value}{a:α}(hx:xs.length=sz)(ha:R V (.agg xs.toArray) a)(hs:0<sz) :
  Row sz R V (vs.take (k*sz)++(xs++(vs.take (ls.length*sz)).drop (k*sz))++sp) (ls.take k++a::ls.drop k):=by
 have hl:=h.jA hs
 have hks:k*sz<=ls.length*sz:=Nat.mul_le_mul_right _ hk
 have t1:(vs.take (k*sz)).length=k*sz:=by rw [List.length_take];omega
 have t2:((vs.take (ls.length*sz)).drop (k*sz)).length=ls.length*sz-k*sz:=by rw [List.length_drop,List.length_take];omega
 have a1:(ls.take k).length=k:=by rw [List.length_take];omega
 refine ⟨fun i hi=>?_⟩
 rw [List.append_assoc]
 by_cases c1:i<k
 ·have hi':i<ls.length:=by omega
  obtain ⟨ys,y1,y2,y3⟩:=h.at_ i hi'
  have e:(ls.take k++a::ls.drop k)[i]=ls[i]:=by rw [List.getElem_append_left (by omega),List.getElem_take]
  refine ⟨ys,y1,by rw [e];exact y2,fun j x hj=>?_⟩
  have hj':=(List.getElem?_eq_some_iff.1 hj).1
  have hlt:i*sz+j<k*sz:=by
   have:(i+1)*sz<=k*sz:=Nat.mul_le_mul_right _ c1
   rw [Nat.succ_mul] at this
   omega
  rw [List.getElem?_append_left (by omega),List.getElem?_take,if_pos hlt]
  exact y3 j x hj
 ·by_cases c2:i=k
  ·subst c2
   have e:(ls.take i++a::ls.drop i)[i]=a:=by
    rw [List.getElem_append_right (by omega)]
    simp [a1]
   refine ⟨xs,hx,by rw [e];exact ha,fun j x hj=>?_⟩
   have hj':=(List.getElem?_eq_some_iff.1 hj).1
   rw [List.getElem?_append_right (by omega),t1,Nat.add_sub_cancel_left,List.append_assoc,List.getElem?_append_left hj']
   exact hj
  ·have hi':i-1<ls.length:=by
    rw [List.length_append,a1,List.length_cons,List.length_drop] at hi
    omega
   obtain ⟨ys,y1,y2,y3⟩:=h.at_ (i-1) hi'
   have e:(ls.take k++a::ls.drop k)[i]=ls[i-1]:=by
    rw [List.getElem_append_right (by omega)]
    obtain ⟨m,hm⟩:∃m,i=k+(m+1):=⟨i-k-1,by omega⟩
    subst hm
    simp only [a1,Nat.add_sub_cancel_left,List.getElem_cons_succ,List.getElem_drop]
    congr 1
   refine ⟨ys,y1,by rw [e];exact y2,fun j x hj=>?_⟩
   have hj':=(List.getElem?_eq_some_iff.1 hj).1
   obtain ⟨m,hm⟩:∃m,i=k+1+m:=⟨i-k-1,by omega⟩
   subst hm
   have e1:(k+1+m)*sz=k*sz+sz+m*sz:=by rw [Nat.add_mul,Nat.add_mul,Nat.one_mul]
   have e2:(k+1+m-1)*sz=k*sz+m*sz:=by rw [show k+1+m-1=k+m by omega,Nat.add_mul]
   have:=y3 j x hj
   rw [e2] at this
   have hlt:k*sz+m*sz+j<ls.length*sz:=by
    have:(k+m+1)*sz<=ls.length*sz:=Nat.mul_le_mul_right _ (by omega)
    rw [Nat.add_mul,Nat.add_mul,Nat.one_mul] at this
    omega
   rw [List.getElem?_append_right (by omega),t1,List.append_assoc,List.getElem?_append_right (by omega),hx,List.getElem?_append_left (by omega),List.getElem?_drop,List.getElem?_take,if_pos (by omega)]
   rw [show k*sz+((k+1+m)*sz+j-k*sz-sz)=k*sz+m*sz+j by omega]
   exact this
theorem lV {α:Type}{sz:Nat}{R:View->Value->α->Prop}{V:View}{vs xs sp:List Value}{ls ms:List α}(h:Row sz R V vs ls)(h':Row sz R V xs ms)(hs:0<sz):Row sz R V (vs.take (ls.length*sz)++xs++sp) (ls++ms):=by
 have hl:=h.jA hs
 have hl':=h'.jA hs
 have ht:(vs.take (ls.length*sz)).length=ls.length*sz:=by rw [List.length_take];omega
 refine ⟨fun i hi=>?_⟩
 by_cases c:i<ls.length
 ·obtain ⟨ys,y1,y2,y3⟩:=h.at_ i c
  refine ⟨ys,y1,by rw [List.getElem_append_left c];exact y2,fun j x hj=>?_⟩
  have hj':=(List.getElem?_eq_some_iff.1 hj).1
  have hlt:i*sz+j<ls.length*sz:=by
   have:(i+1)*sz<=ls.length*sz:=Nat.mul_le_mul_right _ c
   rw [Nat.succ_mul] at this
   omega
  rw [List.append_assoc,List.getElem?_append_left (by omega),List.getElem?_take,if_pos hlt]
  exact y3 j x hj
 ·rw [List.length_append] at hi
  obtain ⟨m,rfl⟩:∃m,i=ls.length+m:=⟨i-ls.length,by omega⟩
  have hm:m<ms.length:=by omega
  obtain ⟨ys,y1,y2,y3⟩:=h'.at_ m hm
  refine ⟨ys,y1,?_,fun j x hj=>?_⟩
  ·have e:(ls++ms)[ls.length+m]=ms[m]:=by rw [List.getElem_append_right (by omega)];simp
   rw [e];exact y2
  ·have hj':=(List.getElem?_eq_some_iff.1 hj).1
   have hlt:m*sz+j<xs.length:=by
    have:(m+1)*sz<=ms.length*sz:=Nat.mul_le_mul_right _ hm
    rw [Nat.succ_mul] at this
    omega
   rw [List.append_assoc,List.getElem?_append_right (by rw [ht,Nat.add_mul];omega),ht,Nat.add_mul,List.getElem?_append_left (by omega)]
   rw [show ls.length*sz+m*sz+j-ls.length*sz=m*sz+j by omega]
   exact y3 j x hj
theorem wT {α:Type}{sz:Nat}{R:View->Value->α->Prop}{V:View}{vs:List Value}{al:List α}(h:Row sz R V vs al)(hs:0<sz)(hc:∀xs a,R V (.agg (List.toArray xs)) a->∀v∈xs,v.oneCell'=true){m:Nat}(hm:m<al.length*sz){v:Value}(hv:vs[m]?=some v):v.oneCell'=true:=by
 have hi:m / sz<al.length:=Nat.div_lt_of_lt_mul (by rw [Nat.mul_comm];exact hm)
 obtain ⟨xs,hl,hx,hat⟩:=h.at_ (m / sz) hi
 have hlt:m%sz<xs.length:=by rw [hl];exact Nat.mod_lt _ hs
 have e3:m=m / sz*sz+m%sz:=by rw [Nat.mul_comm];exact (Nat.div_add_mod m sz).symm
 have:=hat (m%sz) _ (List.getElem?_eq_getElem hlt)
 rw [←e3,hv] at this
 obtain rfl:=Option.some.inj this
 exact hc xs _ hx _ (List.getElem_mem hlt)
theorem wZ:Sz 2 (((2:Int):Rat)):=⟨by show (2:Int).natAbs<_;decide,by show (1:Nat)<_;decide⟩
theorem fX:Sz 2 (((1:Int):Rat)):=⟨by show (1:Int).natAbs<_;decide,by show (1:Nat)<_;decide⟩
theorem Hb {s:Sp}{k:Nat}(ss:s.sz k):Sz (2*k+10) s.dk:=by
 have z:Sz (2*k+10) (0:Rat):=⟨by show (0:Int).natAbs<_;exact Nat.lt_of_lt_of_le (by decide) (Nat.one_le_two_pow),Nat.one_lt_two_pow (by omega)⟩
 unfold Sp.dk
 split
 ·split
  ·exact z
  ·exact (ss.2.sub fX).mono (by omega)
 ·split
  ·exact (ss.1.add fX).mono (by omega)
  ·exact ((ss.1.add ss.2).mul (fL wZ)).mono (by omega)
theorem Ja.raw {V:View}{v:Value}{l:L3}{s:Sp}(h:Ja V v l s)(ho:PN l s){k:Nat}(sl:kW k l)(ss:s.sz k)(hk:k<=1000000):∃f:FW,Ly V v f/\f.ok=true/\f.ln=l/\f.sp=s/\f.short:=by
 obtain ⟨b1,p1,n1,c1,b2,p2,n2,c2,b3,p3,n3,c3,b,p,n,c,p',n',c',d,q,m,e,q',m',e',rfl,h1,h2⟩:=h
 obtain ⟨_,_,_,_,_,_,_,_,_,el,x1,x2,x3⟩:=h1
 have el:=congrArg Array.toList (Value.agg.inj el)
 simp only [List.cons.injEq,Value.bool.injEq,Value.slice.injEq,and_true] at el
 obtain ⟨rfl,⟨rfl,rfl,rfl⟩,rfl,⟨rfl,rfl,rfl⟩,rfl,rfl,rfl,rfl⟩:=el
 obtain ⟨_,_,_,_,_,_,_,_,_,_,_,_,_,_,es,y1,y2⟩:=h2
 have es:=congrArg Array.toList (Value.agg.inj es)
 simp only [List.cons.injEq,Value.bool.injEq,Value.slice.injEq,and_true] at es
 obtain ⟨rfl,⟨rfl,rfl,rfl⟩,⟨rfl,rfl,rfl⟩,rfl,⟨rfl,rfl,rfl⟩,⟨rfl,rfl,rfl⟩⟩:=es
 obtain ⟨ok,can,emp⟩:=ho
 obtain ⟨w1,us,vs,r1,o1,e1,z1⟩:=y1.raw can.1
 obtain ⟨w2,ws,ts,r2,o2,e2,z2⟩:=y2.raw can.2
 have i1:=r1
 have i2:=r2
 obtain ⟨_,_,_,_,_,_,f1,-,-⟩:=i1
 obtain ⟨_,_,_,_,_,_,f2,-,-⟩:=i2
 have f1:=congrArg Array.toList (Value.agg.inj f1)
 have f2:=congrArg Array.toList (Value.agg.inj f2)
 simp only [List.cons.injEq,Value.bool.injEq,Value.slice.injEq,and_true] at f1 f2
 obtain ⟨rfl,-⟩:=f1
 obtain ⟨rfl,-⟩:=f2
 have len:∀{z:Int},Sz k (z:Rat)->(af z.natAbs).length<=1000000:=fun h=>Nat.le_trans (ag h.1) hk
 have d1:=z1 k ss.1
 have d2:=z2 k ss.2
 refine ⟨⟨decide (l.1<0),af l.1.natAbs,decide (l.2.1<0),af l.2.1.natAbs,decide (l.2.2<0),af l.2.2.natAbs,b,us,vs,d,ws,ts,s.a,s.b⟩,⟨_,_,_,_,_,_,_,_,_,_,_,_,_,_,_,_,_,_,_,_,_,rfl,⟨_,_,_,_,_,_,_,_,_,rfl,x1,x2,x3⟩,⟨_,_,_,_,_,_,_,_,_,_,_,_,rfl,r1,r2⟩⟩,?_,?_,?_,⟨len sl.1,len sl.2.1,len sl.2.2,Nat.le_trans d1.1 hk,Nat.le_trans d1.2 hk,Nat.le_trans d2.1 hk,Nat.le_trans d2.2 hk⟩⟩
 ·have e3:K8 b us vs d ws ts s.a s.b=s:=by unfold K8;rw [e1,e2]
  unfold FW.ok okW
  dsimp only
  rw [za,o1,o2,e3,emp]
  show fW l&&true=true
  rw [ok];rfl
 ·unfold FW.ln Pw
  dsimp only
  rw [aF,aF,aF]
 ·unfold FW.sp K8
  dsimp only
  rw [e1,e2]
theorem wB {c:List Rat}{i:Nat}(h:i<c.length):c.getD i 0=c[i]:=by rw [List.getD_eq_getElem?_getD,List.getElem?_eq_getElem h];rfl
def fT (cuts:List Rat)(i:Nat):Sp:=⟨if 0<i then cuts.getD (i-1) 0 else 0,if i<cuts.length then cuts.getD i 0 else 0,decide (i=0),decide (i=cuts.length)⟩
def EN (out:List Sp)(s:Sp):List Sp:=out.dropLast++[⟨(out.getLastD Sp.zero).lo,s.hi,(out.getLastD Sp.zero).a,s.b⟩]
def eO (cuts:List Rat)(marks:List Bool):Nat->List Sp
 | 0=>[]
 | i+1=>if marks.getD i false=true then (if 0<i/\marks.getD (i-1) false=true/\0<(eO cuts marks i).length then EN (eO cuts marks i) (fT cuts i) else eO cuts marks i++[fT cuts i]) else eO cuts marks i
end Go.Proofs.Tryz
namespace Go.Proofs.Tryz
open Go.bq Go.ew
set_option linter.unusedSectionVars false
def qa (c:List Rat):Prop:=c.Pairwise (·< ·)
section
variable {c:List Rat} (h:qa c)
include h
theorem vT {i j:Nat}(Ij:i<j)(hj:j<c.length):c.getD i 0<c.getD j 0:=by
 rw [wB (by omega),wB hj]
 exact List.pairwise_iff_getElem.1 h i j (by omega) hj Ij
omit h
include h
theorem Em {i:Nat}(hi:i<=c.length):(fT c i).n_:=by
 refine ⟨⟨fun e=>?_,fun e=>?_⟩,Sp.mK.2 ?_⟩
 ·have e:i=0:=of_decide_eq_true e
  subst e;rfl
 ·have e:i=c.length:=of_decide_eq_true e
  subst e
  exact if_neg (Nat.lt_irrefl _)
 ·by_cases h0:i=0
  ·exact .inl (decide_eq_true h0)
  ·by_cases h1:i=c.length
   ·exact .inr (.inl (decide_eq_true h1))
   ·refine .inr (.inr ?_)
    show (if 0<i then c.getD (i-1) 0 else 0)<(if i<c.length then c.getD i 0 else 0)
    rw [if_pos (by omega),if_pos (by omega)]
    exact vT h (by omega) (by omega)
omit h
end
section
variable {c:List Rat} {ms:List Bool}
structure FI (c:List Rat) (ms:List Bool) (i:Nat):Prop where
 r:DQ (eO c ms i)
 mem:∀t,t∉c->(Dh (eO c ms i) t↔∃j,j<i/\ms.getD j false=true/\(fT c j).nH t)
 top:0<i->i<=c.length->∀s∈eO c ms i,s.b=false/\s.hi<=c.getD (i-1) 0
 str:0<i->i<=c.length->ms.getD (i-1) false=false->∀s∈eO c ms i,s.hi<c.getD (i-1) 0
 last:0<i->i<=c.length->ms.getD (i-1) false=true->∃l0 l,eO c ms i=l0++[l]/\l.hi=c.getD (i-1) 0
theorem oh {ss:List Sp}{s:Sp}{t:Rat}:Dh (ss++[s]) t↔Dh ss t\/s.nH t:=by
 unfold Dh
 constructor
 ·rintro ⟨x,hx,hi⟩
  rcases List.mem_append.1 hx with hx|hx
  ·exact .inl ⟨x,hx,hi⟩
  ·obtain rfl:x=s:=by simpa using hx
   exact .inr hi
 ·rintro (⟨x,hx,hi⟩|hi)
  ·exact ⟨x,by simp [hx],hi⟩
  ·exact ⟨s,by simp,hi⟩
theorem zu {ss:List Sp}{s:Sp}(h:DQ ss)(hs:s.n_)(hb:∀x∈ss,x.Jd s):DQ (ss++[s]):=by
 refine ⟨fun x hx=>?_,List.pairwise_append.2 ⟨h.2,by simp,fun x hx y hy=>?_⟩⟩
 ·rcases List.mem_append.1 hx with hx|hx
  ·exact h.1 x hx
  ·obtain rfl:x=s:=by simpa using hx
   exact hs
 ·obtain rfl:y=s:=by simpa using hy
  exact hb x hx
theorem Fs {ss:List Sp}{s:Sp}(h:DQ (ss++[s])):DQ ss/\s.n_/\∀x∈ss,x.Jd s:=by
 obtain ⟨h1,-,h3⟩:=List.pairwise_append.1 h.2
 exact ⟨⟨fun x hx=>h.1 x (by simp [hx]),h1⟩,h.1 s (by simp),fun x hx=>h3 x hx s (by simp)⟩
theorem wv {P:Nat->Prop}{i:Nat}:(∃j,j<i+1/\P j)↔(∃j,j<i/\P j)\/P i:=by
 constructor
 ·rintro ⟨j,hj,hp⟩
  rcases Nat.lt_or_ge j i with h|h
  ·exact .inl ⟨j,h,hp⟩
  ·obtain rfl:j=i:=by omega
   exact .inr hp
 ·rintro (⟨j,hj,hp⟩|hp)
  ·exact ⟨j,by omega,hp⟩
  ·exact ⟨i,by omega,hp⟩
theorem Gj (h:qa c){i:Nat}(hi:i<=c.length)(F:FI c ms i):FI c ms (i+1):=by
 have hg:=Em h hi
 have LJ:i<c.length->(fT c i).hi=c.getD i 0:=fun h0=>if_pos h0
 have LK:0<i->(fT c i).lo=c.getD (i-1) 0:=fun h0=>if_pos h0
 have ga:0<i->(fT c i).a=false:=fun h0=>decide_eq_false (by omega)
 have gb:i<c.length->(fT c i).b=false:=fun h0=>decide_eq_false (by omega)
 by_cases hm:ms.getD i false=true
 ·have hne:¬ms.getD i false=false:=by rw [hm];decide
  by_cases h0:0<i/\ms.getD (i-1) false=true
  ·obtain ⟨l0,l,el,hl⟩:=F.last h0.1 hi h0.2
   have e:eO c ms (i+1)=l0++[⟨l.lo,(fT c i).hi,l.a,(fT c i).b⟩]:=by
    rw [eO,if_pos hm,if_pos ⟨h0.1,h0.2,by rw [el];simp⟩,el]
    simp [EN]
   have F1:=F.r
   rw [el] at F1
   obtain ⟨f1,f2,f3⟩:=Fs F1
   have hlb:l.b=false:=(F.top h0.1 hi l (by rw [el];simp)).1
   have hgood:(⟨l.lo,(fT c i).hi,l.a,(fT c i).b⟩:Sp).n_:=by
    refine ⟨⟨f2.1.1,hg.1.2⟩,Sp.mK.2 ?_⟩
    dsimp only
    cases ha:l.a with
    | true=>exact .inl rfl
    | false=>
     cases hb:(fT c i).b with
     | true=>exact .inr (.inl rfl)
     | false=>
      have h1:=yR f2.2 ha hlb
      have h2:=yR hg.2 (ga h0.1) hb
      rw [LK h0.1] at h2
      exact .inr (.inr (by grind))
   refine ⟨?_,fun t ht=>?_,fun _ hi1 s hs=>?_,fun _ hi1 hx=>?_,fun _ hi1 _=>?_⟩
   ·rw [e]
    exact zu f1 hgood fun x hx=>⟨(f3 x hx).1,(f3 x hx).2.1,(f3 x hx).2.2⟩
   ·rw [e,wv,←F.mem t ht,oh,el,oh,or_assoc]
    refine or_congr Iff.rfl ?_
    have hk:(fT c i).nH t↔c.getD (i-1) 0<t/\((fT c i).b=true\/t<(fT c i).hi):=by
     unfold Sp.nH;rw [ga h0.1,LK h0.1];simp
    have hne':t≠c.getD (i-1) 0:=by
     rintro rfl
     rw [wB (by omega)] at ht
     exact ht (List.getElem_mem _)
    rw [hk]
    show (l.a=true\/l.lo<t)/\((fT c i).b=true\/t<(fT c i).hi)↔((l.a=true\/l.lo<t)/\(l.b=true\/t<l.hi))\/_
    rw [hl,hlb]
    have h1:l.a=true\/l.lo<c.getD (i-1) 0:=by
     cases ha:l.a with
     | true=>exact .inl rfl
     | false=>have:=yR f2.2 ha hlb;rw [hl] at this;exact .inr this
    have h2:(fT c i).b=true\/c.getD (i-1) 0<(fT c i).hi:=by
     cases hb:(fT c i).b with
     | true=>exact .inl rfl
     | false=>have:=yR hg.2 (ga h0.1) hb;rw [LK h0.1] at this;exact .inr this
    constructor
    ·rintro ⟨g1,g2⟩
     by_cases g:t<c.getD (i-1) 0
     ·exact .inl ⟨g1,.inr g⟩
     ·exact .inr ⟨hm,by grind,g2⟩
    ·rintro (⟨g1,g2⟩|⟨-,g1,g2⟩)
     ·have g3:t<c.getD (i-1) 0:=by
       rcases g2 with g2|g2
       ·cases g2
       ·exact g2
      exact ⟨g1,h2.imp_right fun h2=>by grind⟩
     ·exact ⟨h1.imp_right fun h1=>by grind,g2⟩
   ·rw [e] at hs
    rw [Nat.add_sub_cancel]
    rcases List.mem_append.1 hs with hs|hs
    ·have b:=f3 s hs
     refine ⟨b.1,?_⟩
     have h1:l.lo<c.getD (i-1) 0:=by have:=yR f2.2 b.2.1 hlb;rwa [hl] at this
     have h2:=vT h (show i-1<i by omega) hi1
     have:=b.2.2
     grind
    ·obtain rfl:s=_:=by simpa using hs
     refine ⟨gb hi1,?_⟩
     show (fT c i).hi<=_
     rw [LJ hi1];grind
   ·rw [Nat.add_sub_cancel] at hx;exact absurd hx hne
   ·rw [Nat.add_sub_cancel]
    exact ⟨l0,_,e,LJ hi1⟩
  ·have e:eO c ms (i+1)=eO c ms i++[fT c i]:=by
    rw [eO,if_pos hm,if_neg (fun g=>h0 ⟨g.1,g.2.1⟩)]
   have hb:∀x∈eO c ms i,x.Jd (fT c i):=fun x hx=>by
    by_cases hz:0<i
    ·have Rc:ms.getD (i-1) false=false:=by
      cases hq:ms.getD (i-1) false with
      | false=>rfl
      | true=>exact absurd ⟨hz,hq⟩ h0
     exact ⟨(F.top hz hi x hx).1,ga hz,by rw [LK hz];exact F.str hz hi Rc x hx⟩
    ·obtain rfl:i=0:=by omega
     cases hx
   refine ⟨?_,fun t ht=>?_,fun _ hi1 s hs=>?_,fun _ hi1 hx=>?_,fun _ hi1 _=>?_⟩
   ·rw [e];exact zu F.r hg hb
   ·rw [e,wv,←F.mem t ht,oh]
    exact or_congr Iff.rfl ⟨fun g=>⟨hm,g⟩,fun g=>g.2⟩
   ·rw [e] at hs
    rw [Nat.add_sub_cancel]
    rcases List.mem_append.1 hs with hs|hs
    ·refine ⟨(hb s hs).1,?_⟩
     by_cases hz:0<i
     ·have h1:=(F.top hz hi s hs).2
      have h2:=vT h (show i-1<i by omega) hi1
      grind
     ·obtain rfl:i=0:=by omega
      cases hs
    ·obtain rfl:s=_:=by simpa using hs
     refine ⟨gb hi1,?_⟩
     rw [LJ hi1];grind
   ·rw [Nat.add_sub_cancel] at hx;exact absurd hx hne
   ·rw [Nat.add_sub_cancel]
    exact ⟨_,_,e,LJ hi1⟩
 ·have e:eO c ms (i+1)=eO c ms i:=by rw [eO,if_neg hm]
  have hlt:i<c.length->∀s∈eO c ms i,s.b=false/\s.hi<c.getD i 0:=fun hi1 s hs=>by
   by_cases hz:0<i
   ·obtain ⟨h1,h2⟩:=F.top hz hi s hs
    have h3:=vT h (show i-1<i by omega) hi1
    exact ⟨h1,by grind⟩
   ·obtain rfl:i=0:=by omega
    cases hs
  refine ⟨by rw [e];exact F.r,fun t ht=>?_,fun _ hi1 s hs=>?_,fun _ hi1 hx s hs=>?_,fun _ hi1 hx=>?_⟩
  ·rw [e,wv,F.mem t ht]
   exact ⟨.inl,fun g=>g.elim id fun g=>absurd g.1 hm⟩
  ·rw [e] at hs
   rw [Nat.add_sub_cancel]
   obtain ⟨h1,h2⟩:=hlt hi1 s hs
   exact ⟨h1,by grind⟩
  ·rw [e] at hs
   rw [Nat.add_sub_cancel]
   exact (hlt hi1 s hs).2
  ·rw [Nat.add_sub_cancel] at hx;exact absurd hx hm
theorem fi (h:qa c):∀{i:Nat},i<=c.length+1->FI c ms i:=by
 intro i
 induction i with
 | zero=>exact fun _=>⟨⟨(fun _ h=>by cases h),List.Pairwise.nil⟩,(fun t _=>⟨(fun ⟨_,h,_⟩=>by cases h),(fun ⟨_,h,_⟩=>absurd h (Nat.not_lt_zero _))⟩),(fun h=>absurd h (Nat.lt_irrefl _)),(fun h=>absurd h (Nat.lt_irrefl _)),(fun h=>absurd h (Nat.lt_irrefl _))⟩
 | succ i ih=>exact fun hi=>Gj h (by omega) (ih (by omega))
end
end Go.Proofs.Tryz
namespace Go.Proofs.Tryz
open Go.bq Go.ew
theorem yV {s u:Sp}{t:Rat}:(s.meet u).nH t↔s.nH t/\u.nH t:=by
 have h1:A7 s.lo u.lo<t↔s.lo<t/\u.lo<t:=by
  unfold A7
  rcases wk u.lo s.lo with ⟨h,e⟩|⟨h,e⟩|⟨h,e⟩<;>rw [e]<;>simp<;>grind
 have h2:t<A_ s.hi u.hi↔t<s.hi/\t<u.hi:=by
  unfold A_
  rcases wk u.hi s.hi with ⟨h,e⟩|⟨h,e⟩|⟨h,e⟩<;>rw [e]<;>simp<;>grind
 unfold Sp.nH Sp.meet
 cases s.a<;>cases s.b<;>cases u.a<;>cases u.b<;>simp [h1,h2]<;>grind
theorem vU {l:L3}(h:Nz l)(t:Rat):az l (jW l t) (jX l t)=0/\Ff l (jW l t) (jX l t)=t:=by
 have hn:=h.norm
 have hi:=Rat.mul_inv_cancel _ hn
 unfold az Ff jW jX
 unfold ie at *
 constructor<;>grind
theorem B4 (l:L3):jU (jU l)=jU l:=by
 unfold jU
 by_cases h:l.1<0\/l.1=0/\l.2.1<0
 ·rw [if_pos h,if_neg]
  unfold jJ
  dsimp only
  omega
 ·rw [if_neg h,if_neg h]
theorem E5 {l:L3}(h:fW l=true):fW (jU l)=true:=by
 unfold jU
 split
 ·unfold fW jJ fI at *
  simp only [Int.natAbs_neg]
  rw [Bool.and_eq_true,decide_eq_true_iff,decide_eq_true_iff] at h ⊢
  exact ⟨fun e=>h.1 ⟨by omega,by omega⟩,h.2⟩
 ·exact h
theorem pe {l:L3}(h:fW l=true):¬(l.1=0/\l.2.1=0):=by
 unfold fW at h
 rw [Bool.and_eq_true,decide_eq_true_iff] at h
 exact h.1
theorem wu {s:Sp}:s.emp=false↔∃t,s.nH t:=by
 constructor
 ·intro h
  obtain ⟨h1,h2⟩:=Sp.Ct h
  refine ⟨s.dk,?_,?_⟩
  ·cases ha:s.a
   ·exact .inr (h1 ha)
   ·exact .inl rfl
  ·cases hb:s.b
   ·exact .inr (h2 hb)
   ·exact .inl rfl
 ·rintro ⟨t,h1,h2⟩
  rw [Sp.mK]
  rcases h1 with h1|h1
  ·exact .inl h1
  ·rcases h2 with h2|h2
   ·exact .inr (.inl h2)
   ·exact .inr (.inr (by grind))
theorem mH {l:L3}{s:Sp}{m:L3} :
  (eL l s m=true->∀t,(eM l s m).nH t↔s.nH t/\0<az m (jW l t) (jX l t))/\(s.emp=false->eL l s m=false->∀t,s.nH t->¬0<az m (jW l t) (jX l t)):=by
 have key:jw m l≠0->∀t,(eM l s m).nH t↔s.nH t/\0<j7 m l+jw m l*t:=fun hd t=>by
  have hi:=Rat.mul_inv_cancel _ hd
  unfold eM
  rcases qi (jw m l) with ⟨h,e⟩|⟨h,e⟩|⟨h,e⟩
  ·exact absurd h hd
  ·rw [e]
   show (s.meet ⟨fG m l,0,false,true⟩).nH t↔_
   rw [yV]
   have e2:jw m l*(t-fG m l)=j7 m l+jw m l*t:=by unfold fG;grind
   have:(⟨fG m l,0,false,true⟩:Sp).nH t↔fG m l<t:=by unfold Sp.nH;simp
   rw [this,←e2]
   refine and_congr_right fun _=>⟨fun h'=>Rat.mul_pos h (by grind),fun h'=>?_⟩
   by_cases c:fG m l<t
   ·exact c
   ·have:=Rat.mul_nonneg (show 0<=jw m l by grind) (show 0<=fG m l-t by grind)
    grind
  ·rw [e]
   show (s.meet ⟨0,fG m l,true,false⟩).nH t↔_
   rw [yV]
   have e2:-jw m l*(fG m l-t)=j7 m l+jw m l*t:=by unfold fG;grind
   have:(⟨0,fG m l,true,false⟩:Sp).nH t↔t<fG m l:=by unfold Sp.nH;simp
   rw [this,←e2]
   refine and_congr_right fun _=>⟨fun h'=>Rat.mul_pos (by grind) (by grind),fun h'=>?_⟩
   by_cases c:t<fG m l
   ·exact c
   ·have:=Rat.mul_nonneg (show 0<=-jw m l by grind) (show 0<=t-fG m l by grind)
    grind
 by_cases hd:jw m l=0
 ·have ec:eM l s m=s:=by unfold eM;rw [hd];rfl
  have eb:eL l s m=decide ((j7 m l).num.sign>0):=by unfold eL;rw [hd];rfl
  constructor
  ·intro hb t
   rw [ec,w_,hd]
   rw [eb] at hb
   have hb:(j7 m l).num.sign>0:=by simpa using hb
   have:0<j7 m l:=by
    rcases qi (j7 m l) with ⟨h,e⟩|⟨h,e⟩|⟨h,e⟩
    ·omega
    ·exact h
    ·omega
   exact ⟨fun h=>⟨h,by grind⟩,fun h=>h.1⟩
  ·intro _ hb t _ hp
   rw [w_,hd] at hp
   rw [eb] at hb
   have hb:¬(j7 m l).num.sign>0:=by simpa using hb
   rcases qi (j7 m l) with ⟨h,e⟩|⟨h,e⟩|⟨h,e⟩
   ·grind
   ·omega
   ·grind
 ·have eb:eL l s m=!(eM l s m).emp:=by
   unfold eL
   rcases qi (jw m l) with ⟨h,e⟩|⟨h,e⟩|⟨h,e⟩
   ·exact absurd h hd
   ·rw [e];rfl
   ·rw [e];rfl
  constructor
  ·intro _ t
   rw [w_];exact key hd t
  ·intro _ hb t ht hp
   rw [w_] at hp
   rw [eb] at hb
   have:=wu.2 ⟨t,(key hd t).2 ⟨ht,hp⟩⟩
   rw [this] at hb;cases hb
theorem qM {l:L3}{s:Sp}{m:L3}(hs:s.n_)(hb:eL l s m=true):(eM l s m).n_:=⟨Ee hs.1,Ed hs.2 hb⟩
abbrev Sd:=L3×Sp
def cC:List Sd->L3->Sp->Option Sp
 | [],_,v=>some v
 | s::c,l,v=>if eL l v s.1 then cC c l (eM l v s.1) else none
theorem vv:∀{c:List Sd} {l:L3} {v w:Sp},v.n_->cC c l v=some w->w.n_/\∀t,w.nH t↔v.nH t/\∀s∈c,0<az s.1 (jW l t) (jX l t)
 | [],_,v,w,h,e=>by cases e;exact ⟨h,fun t=>⟨fun g=>⟨g,fun s hs=>by cases hs⟩,fun g=>g.1⟩⟩
 | s::c,l,v,w,h,e=>by
  unfold cC at e
  split at e
  ·rename_i hb
   obtain ⟨g1,g2⟩:=vv (qM h hb) e
   refine ⟨g1,fun t=>?_⟩
   rw [g2,(mH.1 hb t)]
   simp only [List.forall_mem_cons,and_assoc]
  ·cases e
theorem vt:∀{c:List Sd} {l:L3} {v:Sp},v.n_->cC c l v=none->∀t,v.nH t->¬∀s∈c,0<az s.1 (jW l t) (jX l t)
 | [],_,v,h,e=>by cases e
 | s::c,l,v,h,e=>by
  intro t ht hall
  unfold cC at e
  split at e
  ·rename_i hb
   exact vt (qM h hb) e t ((mH.1 hb t).2 ⟨ht,hall s (List.mem_cons_self ..)⟩) fun u hu=>hall u (List.mem_cons_of_mem _ hu)
  ·rename_i hb
   exact mH.2 h.2 (by simpa using hb) t ht (hall s (List.mem_cons_self ..))
theorem qJ (l:L3):jU l=l\/jU l=jJ l:=by unfold jU;split;exact .inr rfl;exact .inl rfl
theorem rev_rev (l:L3):jJ (jJ l)=l:=by unfold jJ;simp
theorem B_ (l:L3):aD.aG (jJ l)=(-(aD.aG l).1,-(aD.aG l).2):=by unfold aD.aG jJ;simp only [Rat.intCast_neg]
theorem GO {l:L3}(h:fW l=true):(aD.aG l).1≠0\/(aD.aG l).2≠0:=by
 have:=pe h
 unfold aD.aG
 by_cases e:l.2.1=0
 ·right;intro e'
  have:(l.1:Rat)=0:=by grind
  exact pe h ⟨by exact_mod_cast this,e⟩
 ·left;show (l.2.1:Rat)≠0;exact_mod_cast e
theorem HI {l m:L3}(ol:fW l=true)(om:fW m=true){p:aD.V2}(h1:az l p.1 p.2=0)(h2:az m p.1 p.2=0)(hc:aD.cr (aD.aG l) (aD.aG m)=0):l=m\/l=jJ m:=by
 have vz:∀{x:L3},az x p.1 p.2=0->az (jU x) p.1 p.2=0:=fun {x} h=>by
  rcases qJ x with e|e<;>rw [e]
  ·exact h
  ·rw [val_rev];grind
 have c0:aD.cr (aD.aG (jU l)) (aD.aG (jU m))=0:=by
  unfold aD.cr at *
  rcases qJ l with e|e<;>rcases qJ m with e'|e'<;>rw [e,e']<;>(try rw [B_ l])<;>(try rw [B_ m])<;>(try dsimp only)<;>grind
 have:=aD.Dz (E5 ol) (E5 om) (B4 l) (B4 m) (vz h1) (vz h2) c0
 rcases qJ l with e|e<;>rcases qJ m with e'|e'<;>rw [e,e'] at this
 ·exact .inl this
 ·exact .inr this
 ·right;rw [←this,rev_rev]
 ·left;have:=congrArg jJ this;rwa [rev_rev,rev_rev] at this
theorem H8 {M:List L3}(hk:∀m∈M,fW m=true){q:aD.V2}(hq:aD.pos M q):aD.Ok M:=by
 intro l hl m hm hne p h1 h2 hc
 rcases HI (hk l hl) (hk m hm) h1 h2 hc with e|e
 ·exact hne e
 ·have a:=hq l hl
  have b:=hq m hm
  rw [e,val_rev] at a
  grind
theorem Co {l:L3}(h:Nz l){x y:Rat}(hp:az l x y=0):∃t,x=jW l t/\y=jX l t:=by
 have hi:=Rat.mul_inv_cancel _ h.norm
 unfold az at hp
 refine ⟨Ff l x y,?_,?_⟩
 ·unfold jW Ff ie at *;grind
 ·unfold jX Ff ie at *;grind
def cx:Sp:=⟨0,0,true,true⟩
theorem ve:cx.n_:=⟨⟨fun _=>rfl,fun _=>rfl⟩,rfl⟩
theorem yC (t:Rat):cx.nH t:=⟨.inl rfl,.inl rfl⟩
structure iJ (M:List L3) (c:List Sd):Prop where
 pos:∃q,aD.pos M q
 mem:∀s∈c,s.1∈M/\s.2.n_/\∀t,s.2.nH t↔∀m∈M,m≠s.1->0<az m (jW s.1 t) (jX s.1 t)
 all:∀l∈M,aD.Es M l->∃v,(l,v)∈c
 qa:c.Pairwise fun s u=>aD.ir (aD.aG s.1) (aD.aG u.1)<0
def kh (x:Sd):List Sd->List Sd
 | []=>[x]
 | s::r=>if aD.ir (aD.aG s.1) (aD.aG x.1)<0 then s::kh x r else x::s::r
def jV (c:List Sd)(l:L3):List Sd:=c.filterMap fun s=>if eL s.1 s.2 l then some (s.1,eM s.1 s.2 l) else none
def dG:List Sd->L3->Int
 | [],_=>-1
 | s::c,l=>if (az l (jW s.1 s.2.dk) (jX s.1 s.2.dk)).num.sign≠0 then (az l (jW s.1 s.2.dk) (jX s.1 s.2.dk)).num.sign else if s.1=l then 1 else dG c l
def fc (c:List Sd)(l:L3):Option (List Sd):=
 match cC c l cx with
 | some v=>some (kh (l,v) (jV c l))
 | none=>if 0<dG c l then some c else none
theorem ki {x y:Sd}:∀{r:List Sd},y∈kh x r↔y=x\/y∈r
 | []=>by simp [kh]
 | s::r=>by
  unfold kh
  split
  ·rw [List.mem_cons,ki,List.mem_cons];exact or_left_comm
  ·rw [List.mem_cons]
theorem BZ {a b d:aD.V2}(h:aD.ir a b<0)(h':aD.ir b d<0):aD.ir a d<0:=by
 by_cases q:aD.ir a d<0
 ·exact q
 ·exact absurd h (aD.H2 _ _ _ q (aD.F4 _ _ h'))
theorem yM {x:Sd}:∀{r:List Sd},(r.Pairwise fun s u=>aD.ir (aD.aG s.1) (aD.aG u.1)<0)->(∀s∈r,aD.ir (aD.aG s.1) (aD.aG x.1)≠0)->(kh x r).Pairwise fun s u=>aD.ir (aD.aG s.1) (aD.aG u.1)<0
 | [],_,_=>List.pairwise_singleton ..
 | s::r,h,hn=>by
  obtain ⟨h1,h2⟩:=List.pairwise_cons.1 h
  unfold kh
  split
  ·rename_i hs
   refine List.pairwise_cons.2 ⟨fun y hy=>?_,yM h2 fun u hu=>hn u (List.mem_cons_of_mem _ hu)⟩
   rcases ki.1 hy with rfl|hy
   ·exact hs
   ·exact h1 y hy
  ·rename_i hs
   have hx:aD.ir (aD.aG x.1) (aD.aG s.1)<0:=by
    rcases aD.H0 (aD.aG s.1) (aD.aG x.1) with g|g|g
    ·exact absurd g hs
    ·exact absurd g (hn s (List.mem_cons_self ..))
    ·exact g
   refine List.pairwise_cons.2 ⟨fun y hy=>?_,h⟩
   rcases List.mem_cons.1 hy with rfl|hy
   ·exact hx
   ·exact BZ hx (h1 y hy)
theorem yq {c:List Sd}{l:L3}{y:Sd}:y∈jV c l↔∃s∈c,eL s.1 s.2 l=true/\y=(s.1,eM s.1 s.2 l):=by
 unfold jV
 rw [List.mem_filterMap]
 constructor
 ·rintro ⟨s,hs,e⟩
  split at e
  ·rename_i hb;cases e;exact ⟨s,hs,hb,rfl⟩
  ·cases e
 ·rintro ⟨s,hs,hb,rfl⟩
  exact ⟨s,hs,by rw [if_pos hb]⟩
theorem yp {c:List Sd}{l:L3}(h:c.Pairwise fun s u=>aD.ir (aD.aG s.1) (aD.aG u.1)<0):(jV c l).Pairwise fun s u=>aD.ir (aD.aG s.1) (aD.aG u.1)<0:=by
 unfold jV
 refine List.Pairwise.filterMap _ ?_ h
 intro a b tH x hx y hy
 split at hx
 ·split at hy
  ·cases hx;cases hy;exact tH
  ·cases hy
 ·cases hx
theorem Fg {l s:L3}(hl:aD.nz (aD.aG s))(h:aD.ir (aD.aG s) (aD.aG l)=0){p r:aD.V2}(p0:az l p.1 p.2=0)(p1:0<az s p.1 p.2)(r0:az s r.1 r.2=0)(r1:0<az l r.1 r.2):False:=by
 obtain ⟨c,c0,e⟩:=aD.DX hl h
 have e1:(s.2.1:Rat)=c*(l.2.1:Rat):=congrArg Prod.fst e
 have e2:-(s.1:Rat)=c*-(l.1:Rat):=congrArg Prod.snd e
 have e2:(s.1:Rat)=c*(l.1:Rat):=by grind
 have key:∀x:aD.V2,az s x.1 x.2=c*(az l x.1 x.2-(l.2.2:Rat))+(s.2.2:Rat):=fun x=>by unfold az;rw [e1,e2];grind
 have k:=aD.mp c0 r1
 rw [key] at p1 r0
 rw [p0] at p1
 generalize az l r.1 r.2=z at *
 grind
section
variable {M:List L3} {c:List Sd} (h:iJ M c) (hk:∀m ∈ M,fW m=true)
include h hk
theorem iJ.int {p:aD.V2}(hp:∀s∈c,0<az s.1 p.1 p.2):aD.pos M p:=by
 obtain ⟨q,hq⟩:=h.pos
 refine aD.QD (H8 hk hq) (fun m hm=>GO (hk m hm)) hq fun m hm he=>?_
 obtain ⟨v,hv⟩:=h.all m hm he
 exact hp _ hv
theorem CY {l:L3}(hl:fW l=true){v:Sp}(e:cC c l cx=some v):iJ (l::M) (kh (l,v) (jV c l)):=by
 have hN:Nz l:=pe hl
 obtain ⟨gv,hv⟩:=vv ve e
 have q_:∀t,v.nH t↔aD.pos M (jW l t,jX l t):=fun t=>⟨fun g=>h.int hk ((hv t).1 g).2,fun g=>(hv t).2 ⟨yC t,fun s hs=>g s.1 (h.mem s hs).1⟩⟩
 obtain ⟨t0,ht0⟩:=wu.1 gv.2
 have p0:=(q_ t0).1 ht0
 have z0:=(vU hN t0).1
 have lM:l∉M:=fun hm=>by have:=p0 l hm;dsimp only at this;grind
 have ne:∀m∈M,m≠l:=fun m hm e=>lM (e▸hm)
 obtain ⟨q,hq,Rf,-⟩:=aD.Ek (M:=M) (x:=(jW l t0,jX l t0)) (GO hl) z0 (fun m hm _=>p0 m hm) [] (fun m hm=>by cases hm)
 have Kw:∀s∈jV c l,s.1∈M/\s.2.n_/\∀t,s.2.nH t↔∀m∈l::M,m≠s.1->0<az m (jW s.1 t) (jX s.1 t):=fun s hs=>by
  obtain ⟨s0,h0,hb,rfl⟩:=yq.1 hs
  obtain ⟨m1,m2,m3⟩:=h.mem s0 h0
  refine ⟨m1,qM m2 hb,fun t=>?_⟩
  dsimp only
  rw [mH.1 hb t,m3 t,List.forall_mem_cons]
  exact ⟨fun g=>⟨fun _=>g.2,g.1⟩,fun g=>⟨g.2,g.1 (fun e=>ne _ m1 e.symm)⟩⟩
 refine ⟨⟨q,List.forall_mem_cons.2 ⟨Rf,hq⟩⟩,fun s hs=>?_,fun l' hl' he=>?_,yM (yp h.qa) fun s hs e0=>?_⟩
 ·rcases ki.1 hs with rfl|hs
  ·refine ⟨List.mem_cons_self ..,gv,fun t=>?_⟩
   rw [q_ t,List.forall_mem_cons]
   exact ⟨fun g=>⟨fun h=>absurd rfl h,fun m hm _=>g m hm⟩,fun g m hm=>g.2 m hm (ne m hm)⟩
  ·obtain ⟨a,b⟩:=Kw s hs
   exact ⟨List.mem_cons_of_mem _ a,b⟩
 ·rcases List.mem_cons.1 hl' with rfl|hl'
  ·exact ⟨v,ki.2 (.inl rfl)⟩
  ·obtain ⟨p,pz,hp⟩:=he
   obtain ⟨w,hw⟩:=h.all l' hl' ⟨p,pz,fun m hm hne=>hp m (List.mem_cons_of_mem _ hm) hne⟩
   obtain ⟨m1,m2,m3⟩:=h.mem _ hw
   obtain ⟨t,e1,e2⟩:=Co (pe (hk l' hl')) pz
   have hb:eL l' w l=true:=by
    cases hb:eL l' w l
    ·exfalso
     refine mH.2 m2.2 hb t ((m3 t).2 fun m hm hne=>?_) ?_
     ·dsimp only;rw [←e1,←e2];exact hp m (List.mem_cons_of_mem _ hm) hne
     ·rw [←e1,←e2];exact hp l (List.mem_cons_self ..) (fun e=>lM (e▸hl'))
    ·rfl
   exact ⟨eM l' w l,ki.2 (.inr (yq.2 ⟨_,hw,hb,rfl⟩))⟩
 ·obtain ⟨m1,m2,m3⟩:=Kw s hs
  obtain ⟨t,ht⟩:=wu.1 m2.2
  have hr:=(m3 t).1 ht l (List.mem_cons_self ..) (fun e=>ne _ m1 e.symm)
  exact Fg (GO (hk _ m1)) e0 (p:=(jW l t0,jX l t0)) (r:=(jW s.1 t,jX s.1 t)) z0 (p0 _ m1) (vU (pe (hk _ m1)) t).1 hr
omit h in
theorem nV {l:L3}(hl:fW l=true)(hno:∀x:aD.V2,az l x.1 x.2=0->¬aD.pos M x){q:aD.V2}(hq:aD.pos M q){s:L3}(hs:s∈M){x:aD.V2}(xz:az s x.1 x.2=0)(hx:∀m∈M,m≠s->0<az m x.1 x.2) :
  (0<az l q.1 q.2->0<az l x.1 x.2\/s=l)/\(az l q.1 q.2<0->az l x.1 x.2<0\/az l x.1 x.2=0/\s≠l):=by
 have side:∀g:L3,(∀x:aD.V2,az g x.1 x.2=0->¬aD.pos M x)->0<az g q.1 q.2->∀y:aD.V2,az s y.1 y.2=0->(∀m∈M,m≠s->0<az m y.1 y.2)->¬az g y.1 y.2<0:=fun g hno gq y yz hy hneg=>by
  obtain ⟨q',h1,-,h3⟩:=aD.Ek (GO (hk s hs)) yz hy [jJ g] (fun m hm=>by rcases List.mem_singleton.1 hm with rfl;rw [val_rev];grind)
  have h3:=h3 _ (List.mem_singleton.2 rfl)
  rw [val_rev] at h3
  have:=aD.zd hno hq h1 gq
  grind
 constructor
 ·intro hp
  by_cases c1:0<az l x.1 x.2
  ·exact .inl c1
  right
  have z:az l x.1 x.2=0:=by have:=side l hno hp x xz hx;grind
  by_cases e:s=l
  ·exact e
  exfalso
  have QA:aD.cr (aD.aG l) (aD.aG s)≠0:=fun e0=>by
   rcases HI hl (hk s hs) z xz e0 with g|g
   ·exact e g.symm
   ·rw [g,val_rev] at hp
    have:=hq s hs
    grind
  have step:∀d:aD.V2,aD.nv s d=0->aD.nv l d<0->False:=fun d d0 d1=>by
   obtain ⟨r,r0,hr⟩:=aD.wU ((M.filter fun m=>decide (m≠s)).map fun m=>(az m x.1 x.2,aD.nv m d)) (fun y hy=>by
    obtain ⟨m,hm,rfl⟩:=List.mem_map.1 hy
    have:=List.mem_filter.1 hm
    exact hx m this.1 (by simpa using this.2))
   refine side l hno hp (x.1+r*d.1,x.2+r*d.2) ?_ (fun m hm hne=>?_) ?_
   ·rw [aD.im,xz,d0];grind
   ·rw [aD.im]
    exact hr (az m x.1 x.2,aD.nv m d) (List.mem_map.2 ⟨m,List.mem_filter.2 ⟨hm,by simpa using hne⟩,rfl⟩)
   ·rw [aD.im,z]
    have:=aD.mp r0 (show -aD.nv l d>0 by grind)
    grind
  have s0:aD.nv s (aD.aG s)=0:=by rw [aD.Cm];exact aD.B8 _
  have ls:aD.nv l (aD.aG s)≠0:=by rw [aD.Cm];exact QA
  by_cases c2:aD.nv l (aD.aG s)<0
  ·exact step _ s0 c2
  ·have e1:aD.nv s (-(aD.aG s).1,-(aD.aG s).2)=-aD.nv s (aD.aG s):=by unfold aD.nv;dsimp only;grind
   have e2:aD.nv l (-(aD.aG s).1,-(aD.aG s).2)=-aD.nv l (aD.aG s):=by unfold aD.nv;dsimp only;grind
   exact step (-(aD.aG s).1,-(aD.aG s).2) (by rw [e1,s0];grind) (by rw [e2];grind)
 ·intro hp
  have:=side (jJ l) (fun x hx=>hno x (by rw [val_rev] at hx;grind)) (by rw [val_rev];grind) x xz hx
  rw [val_rev] at this
  by_cases c1:az l x.1 x.2<0
  ·exact .inl c1
  ·refine .inr ⟨by grind,fun e=>?_⟩
   have:=hq s hs
   rw [e] at this
   grind
theorem pg {s:Sd}(hs:s∈c):az s.1 (jW s.1 s.2.dk) (jX s.1 s.2.dk)=0/\∀m∈M,m≠s.1->0<az m (jW s.1 s.2.dk) (jX s.1 s.2.dk):=by
 obtain ⟨m1,m2,m3⟩:=h.mem s hs
 refine ⟨(vU (pe (hk _ m1)) _).1,(m3 _).1 ?_⟩
 obtain ⟨h1,h2⟩:=Sp.Ct m2.2
 constructor
 ·cases ha:s.2.a
  ·exact .inr (h1 ha)
  ·exact .inl rfl
 ·cases hb:s.2.b
  ·exact .inr (h2 hb)
  ·exact .inl rfl
theorem Dm {l:L3}(hl:fW l=true)(hno:∀x:aD.V2,az l x.1 x.2=0->¬aD.pos M x){q:aD.V2}(hq:aD.pos M q)(hp:0<az l q.1 q.2)(h0:c≠[]):dG c l=1:=by
 cases hc:c with
 | nil=>exact absurd hc h0
 | cons s r=>
  have hs:s∈c:=by rw [hc];exact List.mem_cons_self ..
  obtain ⟨e1,e2⟩:=pg h hk hs
  have:=(nV hk hl hno hq (h.mem s hs).1 (x:=(jW s.1 s.2.dk,jX s.1 s.2.dk)) e1 e2).1 hp
  unfold dG
  dsimp only at this
  by_cases c1:0<az l (jW s.1 s.2.dk) (jX s.1 s.2.dk)
  ·rw [aD.IX.2 c1];rfl
  ·have hsl:s.1=l:=this.resolve_left c1
   have z:az l (jW s.1 s.2.dk) (jX s.1 s.2.dk)=0:=by
    have h:=e1;rw [hsl] at h ⊢;exact h
   rw [aD.ni.2 z,if_neg (by simp),if_pos hsl]
theorem Dl {l:L3}(hl:fW l=true)(hno:∀x:aD.V2,az l x.1 x.2=0->¬aD.pos M x){q:aD.V2}(hq:aD.pos M q)(hp:az l q.1 q.2<0):dG c l=-1:=by
 have:∀r:List Sd,(∀s∈r,s∈c)->dG r l=-1:=by
  intro r
  induction r with
  | nil=>intro _;rfl
  | cons s r ih=>
   intro hr
   have hs:=hr s (List.mem_cons_self ..)
   obtain ⟨e1,e2⟩:=pg h hk hs
   have:=(nV hk hl hno hq (h.mem s hs).1 (x:=(jW s.1 s.2.dk,jX s.1 s.2.dk)) e1 e2).2 hp
   dsimp only at this
   unfold dG
   rcases this with g|⟨g,g'⟩
   ·rw [aD.Fy.2 g];rfl
   ·rw [aD.ni.2 g,if_neg (by simp),if_neg g']
    exact ih fun u hu=>hr u (List.mem_cons_of_mem _ hu)
 exact this c fun _ h=>h
theorem B5 {l:L3}(hl:fW l=true):(∀c',fc c l=some c'->iJ (l::M) c')/\(fc c l=none->¬∃q,aD.pos (l::M) q):=by
 unfold fc
 cases e:cC c l cx with
 | some v=>exact ⟨fun c' e'=>by cases e';exact CY h hk hl e,fun e'=>by cases e'⟩
 | none=>
  dsimp only
  have hno:∀x:aD.V2,az l x.1 x.2=0->¬aD.pos M x:=fun x hx hp=>by
   obtain ⟨t,e1,e2⟩:=Co (pe hl) hx
   refine vt ve e t (yC t) fun s hs=>?_
   rw [←e1,←e2];exact hp s.1 (h.mem s hs).1
  have h0:c≠[]:=fun e0=>by rw [e0] at e;cases e
  obtain ⟨q,hq⟩:=h.pos
  by_cases c1:0<az l q.1 q.2
  ·rw [Dm h hk hl hno hq c1 h0]
   refine ⟨fun c' e'=>?_,fun e'=>by cases e'⟩
   cases e'
   refine ⟨⟨q,List.forall_mem_cons.2 ⟨c1,hq⟩⟩,fun s hs=>?_,fun l' hl' he=>?_,h.qa⟩
   ·obtain ⟨m1,m2,m3⟩:=h.mem s hs
    refine ⟨List.mem_cons_of_mem _ m1,m2,fun t=>?_⟩
    rw [m3 t,List.forall_mem_cons]
    refine ⟨fun g=>⟨fun hne=>?_,g⟩,fun g=>g.2⟩
    exact ((nV hk hl hno hq m1 (x:=(jW s.1 t,jX s.1 t)) (vU (pe (hk _ m1)) t).1 g).1 c1).resolve_right fun e=>hne e.symm
   ·obtain ⟨p,pz,hp⟩:=he
    by_cases hm:l'∈M
    ·exact h.all l' hm ⟨p,pz,fun m hm hne=>hp m (List.mem_cons_of_mem _ hm) hne⟩
    ·exfalso
     have e1:l'=l:=(List.mem_cons.1 hl').resolve_right hm
     refine hno p (e1▸pz) fun m hm'=>hp m (List.mem_cons_of_mem _ hm') fun e2=>hm (e2▸hm')
  ·have c2:az l q.1 q.2<0:=by
    by_cases z:az l q.1 q.2=0
    ·exact absurd hq (hno q z)
    ·grind
   rw [Dl h hk hl hno hq c2]
   refine ⟨fun c' e'=>(by cases e'),fun _=>?_⟩
   rintro ⟨q',hq'⟩
   obtain ⟨a,b⟩:=List.forall_mem_cons.1 hq'
   have:=aD.zd hno (fun m hm=>b m hm) hq a
   grind
end
theorem iJ.nil:iJ [] []:=⟨⟨(0,0),fun m hm=>by cases hm⟩,(fun s hs=>by cases hs),(fun l hl=>by cases hl),List.Pairwise.nil⟩
def bG:List L3->List L3->List Sd->Option (List Sd)
 | [],_,c=>some c
 | l::r,M,c=>match fc c l with
  | some c'=>bG r (l::M) c'
  | none=>none
theorem ym:∀{ls M:List L3} {c:List Sd},iJ M c->(∀m∈M,fW m=true)->(∀m∈ls,fW m=true)->(∀c',bG ls M c=some c'->iJ (ls.reverse++M) c')/\(bG ls M c=none->¬∃q,aD.pos (ls.reverse++M) q)
 | [],M,c,h,hk,hl=>⟨fun c' e=>by cases e;exact h,fun e=>by cases e⟩
 | l::r,M,c,h,hk,hl=>by
  obtain ⟨h1,h2⟩:=B5 h hk (hl l (List.mem_cons_self ..))
  rw [List.reverse_cons,List.append_assoc]
  unfold bG
  cases e:fc c l with
  | some c'=>exact ym (h1 c' e) (List.forall_mem_cons.2 ⟨hl l (List.mem_cons_self ..),hk⟩) fun m hm=>hl m (List.mem_cons_of_mem _ hm)
  | none=>
   refine ⟨fun c' e'=>(by cases e'),fun _=>?_⟩
   rintro ⟨q,hq⟩
   exact h2 e ⟨q,fun m hm=>hq m (List.mem_append_right _ hm)⟩
end Go.Proofs.Tryz
namespace Go.Proofs.Tryz
open Go.bq Go.ew
theorem Es.of {M N:List L3}(h:∀x,x∈M->x∈N){l:L3}(e:aD.Es N l):aD.Es M l:=by
 obtain ⟨p,p0,p1⟩:=e
 exact ⟨p,p0,fun m hm=>p1 m (h m hm)⟩
section
variable {M:List L3} {c:List Sd} (h:iJ M c) (hk:∀m ∈ M,fW m=true)
include h hk
omit h hk in
omit hk in
end
end Go.Proofs.Tryz
namespace Go.Proofs.Tryz
open Go.bq Go.ew
section
variable {M:List L3} {c:List Sd} (h:iJ M c) (hk:∀m ∈ M,fW m=true)
include h hk
end
end Go.Proofs.Tryz
namespace Go.Proofs.Tryz
open Go.bq Go.ew
namespace aD
end aD
section
variable {M:List L3} {c:List Sd} (h:iJ M c) (hk:∀m ∈ M,fW m=true)
include h hk
end
end Go.Proofs.Tryz
namespace Go.Proofs.Tryz
open Go.bq Go.ew
namespace aD
end aD
section
variable {M:List L3} {c:List Sd} (h:iJ M c) (hk:∀m ∈ M,fW m=true)
include h hk
end
end Go.Proofs.Tryz
namespace Go.Proofs.Tryz
open Go.bq Go.ew
def tw (l:List aD.V2):Rat:=((List.range l.length).map fun i=>aD.cr (l.getD i (0,0)) (l.getD ((i+1)%l.length) (0,0))).sum
def lq (S:List L3):List aD.V2:=(List.range S.length).filterMap fun i=>if 0<aD.cr (aD.aG (S.getD i (0,0,0))) (aD.aG (S.getD ((i+1)%S.length) (0,0,0))) then some (ID (S.getD i (0,0,0)) (S.getD ((i+1)%S.length) (0,0,0)),IE (S.getD i (0,0,0)) (S.getD ((i+1)%S.length) (0,0,0))) else none
section
variable {M:List L3} {c:List Sd} (h:iJ M c) (hk:∀m ∈ M,fW m=true) (hb:∀s ∈ c,s.2.a=false/\s.2.b=false)
include h hk hb
end
end Go.Proofs.Tryz
namespace Go.Proofs.Tryz
open Go.bq Go.ew
section
variable {M:List L3} {c:List Sd} (h:iJ M c) (hk:∀m ∈ M,fW m=true) (hb:∀s ∈ c,s.2.a=false/\s.2.b=false)
include h hk hb
omit hk in
end
end Go.Proofs.Tryz
namespace Go.Proofs.Tryz
open Go.bq Go.ew
section
variable {M:List L3} {c:List Sd} (h:iJ M c) (hk:∀m ∈ M,fW m=true) (hb:∀s ∈ c,s.2.a=false/\s.2.b=false)
include h hk hb
end
end Go.Proofs.Tryz
namespace Go.Proofs.Tryz
open Go.bq Go.ew
section
variable {M:List L3} {c:List Sd} (h:iJ M c) (hk:∀m ∈ M,fW m=true)
include h hk
end
end Go.Proofs.Tryz
namespace Go.Proofs.Tryz
open Go.bq Go.ew
theorem kW.up {k K:Nat}{l:L3}(h:kW k l)(hk:k<=K):kW K l:=⟨h.1.mono hk,h.2.1.mono hk,h.2.2.mono hk⟩
theorem CA {L M:L3}{s:Sp}{k K:Nat}(sl:kW k L)(sm:kW k M)(hs:s.sz K)(hk:60*k+60<=K):(eM L s M).sz K:=by
 have z:=I5 K (by omega)
 have c:=(wY sl sm).mono hk
 unfold eM
 split
 ·exact hs
 ·split
  ·exact Sp.wH hs ⟨c,z⟩
  ·exact Sp.wH hs ⟨z,c⟩
theorem Gl {k:Nat}(hk:0<k):cx.sz k:=⟨I5 k hk,I5 k hk⟩
def Mh (s:Sd):Prop:=Bd s.1/\s.2.sz 100000
theorem Cc {x:Sd}:∀{r:List Sd} {i:Nat},i<=r.length->(∀k (h:k<r.length),k<i->aD.ir (aD.aG r[k].1) (aD.aG x.1)<0)->(∀h:i<r.length,¬aD.ir (aD.aG r[i].1) (aD.aG x.1)<0)->kh x r=r.take i++x::r.drop i
 | [],i,hi,_,_=>by simp [kh]
 | s::r,0,_,_,h=>by
  have:¬aD.ir (aD.aG s.1) (aD.aG x.1)<0:=h (Nat.zero_lt_succ _)
  unfold kh
  rw [if_neg this]
  rfl
 | s::r,i+1,hi,h1,h2=>by
  have:aD.ir (aD.aG s.1) (aD.aG x.1)<0:=h1 0 (Nat.zero_lt_succ _) (Nat.zero_lt_succ _)
  unfold kh
  rw [if_pos this,Cc (r:=r) (i:=i) (by simpa using hi) (fun k hk hki=>h1 (k+1) (by simpa using hk) (by omega)) fun h=>h2 (by simpa using h)]
  rfl
structure Bs (r:List Sd) (l:L3) (i j:Nat):Prop where
 le:i<=j
 len:j<=r.length
 lo:∀k (h:k<r.length),k<i->aD.ir (aD.aG r[k].1) (aD.aG l)<0
 hi:∀h:j<r.length,¬aD.ir (aD.aG r[j].1) (aD.aG l)<0
theorem Bs.start (r:List Sd)(l:L3):Bs r l 0 r.length:=⟨Nat.zero_le _,Nat.le_refl _,fun k h hk=>absurd hk (Nat.not_lt_zero _),fun h=>absurd h (Nat.lt_irrefl _)⟩
theorem Bs.up {r:List Sd}{l:L3}{i j h:Nat}(b:Bs r l i j)(qa:r.Pairwise fun s u=>aD.ir (aD.aG s.1) (aD.aG u.1)<0)(h2:h<j)(hl:h<r.length)(hc:aD.ir (aD.aG r[h].1) (aD.aG l)<0):Bs r l (h+1) j:=
 ⟨h2,b.len,fun k hk hkh=>by
  by_cases e:k=h
  ·subst e;exact hc
  ·exact BZ (List.pairwise_iff_getElem.1 qa k h hk hl (by omega)) hc,b.hi⟩
theorem Bs.down {r:List Sd}{l:L3}{i j h:Nat}(b:Bs r l i j)(h1:i<=h)(hl:h<r.length)(hc:¬aD.ir (aD.aG r[h].1) (aD.aG l)<0):Bs r l i h:=
 ⟨h1,by omega,b.lo,fun _=>hc⟩
theorem Bs.done {r:List Sd}{l:L3}{i:Nat}(b:Bs r l i i)(v:Sp):kh (l,v) r=r.take i++(l,v)::r.drop i:=Cc b.len b.lo b.hi
theorem RR.half (V:View):RR V (.agg #[.int .i64 1,.int .i64 1,.pointer none]) (((2:Int):Rat)⁻¹):=by
 have e1:(((2:Int):Rat)⁻¹).num=1:=by decide +kernel
 have e2:(((2:Int):Rat)⁻¹).den=2:=by decide +kernel
 refine .inl ⟨by rw [e1,e2];rfl,?_⟩
 unfold Wd
 rw [e1,e2];decide
theorem xX {V:View}{v:Value}{x:Rat}(hx:RR V v x){k:Nat}(hk:Sz k x)(hkm:k+2<1099511627776) :
  ab prog 151 #[v] V fun r V'=>RR V' r (x*((2:Int):Rat)⁻¹):=by
 have hx0:=hx
 obtain ⟨a,b,c,rfl⟩:=hx.shape
 refine sn a b c V _ fun V1 l1=>(dR (hx0.le l1) (RR.half V1) hk (fL wZ) hkm).mono ?_
 rintro r V2 l2 g
 have g0:=g
 obtain ⟨u,v,w,rfl⟩:=g.shape
 exact ⟨_,_,_,rfl,fun V3 l3=>g0.le l3⟩
theorem xV {V:View}{v:Value}{s:Sp}(h:BU V v s){k:Nat}(hs:s.sz k)(hk:4*k+8<1099511627776) :
  ab prog 133 #[v] V fun r V'=>RR V' r s.dk:=by
 obtain ⟨x1,x2,p,y1,y2,q,rfl,h1,h2⟩:=h
 have a1:s.a=true->s.b=true->s.dk=0:=fun x y=>by simp [Sp.dk,x,y]
 have a2:s.a=true->s.b=false->s.dk=s.hi-((1:Int):Rat):=fun x y=>by simp [Sp.dk,x,y]
 have a3:s.a=false->s.b=true->s.dk=s.lo+((1:Int):Rat):=fun x y=>by simp [Sp.dk,x,y]
 have a4:s.a=false->s.b=false->s.dk=(s.lo+s.hi)*((2:Int):Rat)⁻¹:=fun x y=>by simp [Sp.dk,x,y]
 have no:∀{P:Prop},s.a=true->s.a=false->P:=fun x y=>by rw [x] at y;cases y
 have SZ:∀{P:Prop},s.b=true->s.b=false->P:=fun x y=>by rw [x] at y;cases y
 refine oB x1 x2 p y1 y2 q s.a s.b V _ ⟨fun ha=>⟨fun hb V1 l1=>?_,fun hb=>⟨fun _ V2 l2=>(gC 1 (by decide) (by decide)).mono ?_,fun e=>no ha e⟩⟩,fun ha=>⟨fun e=>no e ha,fun _=>⟨fun hb xG kl=>(gC 1 (by decide) (by decide)).mono ?_,fun hb Js oW=>(g_ (h1.le oW) (h2.le oW) hs.1 hs.2 (by omega)).mono ?_⟩⟩⟩
 ·rw [a1 ha hb];exact RR.zero _
 ·rintro r V3 l3 g
  have g0:=g
  obtain ⟨u,v,w,rfl⟩:=g.shape
  refine ⟨_,_,_,rfl,fun V4 l4=>(mC (h2.le (l2.trans (l3.trans l4))) (g0.le l4) hs.2 fX (by omega)).mono ?_⟩
  rintro r V5 l5 f
  have f0:=f
  obtain ⟨u,v,w,rfl⟩:=f.shape
  exact ⟨_,_,_,rfl,fun V6 l6=>by rw [a2 ha hb];exact f0.le l6⟩
 ·rintro r V3 l3 g
  have g0:=g
  obtain ⟨u,v,w,rfl⟩:=g.shape
  refine ⟨_,_,_,rfl,fun V4 l4=>(g_ (h1.le (kl.trans (l3.trans l4))) (g0.le l4) hs.1 fX (by omega)).mono ?_⟩
  rintro r V5 l5 f
  have f0:=f
  obtain ⟨u,v,w,rfl⟩:=f.shape
  exact ⟨_,_,_,rfl,fun V6 l6=>by rw [a3 ha hb];exact f0.le l6⟩
 ·rintro r V3 l3 g
  have g0:=g
  obtain ⟨u,v,w,rfl⟩:=g.shape
  refine ⟨_,_,_,rfl,fun V4 l4=>(xX (g0.le l4) (hs.1.add hs.2) (by omega)).mono ?_⟩
  rintro r V5 l5 f
  have f0:=f
  obtain ⟨u,v,w,rfl⟩:=f.shape
  exact ⟨_,_,_,rfl,fun V6 l6=>by rw [a4 ha hb];exact f0.le l6⟩
theorem JN {V:View}:ab prog 179 #[] V fun r V'=>r=.agg #[.int .i64 0,.int .i64 0,.pointer none,.int .i64 0,.int .i64 0,.pointer none,.bool true,.bool true]:=
 Bz V _ fun V1 l1=>rfl
def fE (V:View)(v:Value)(s:Sd):Prop:=HU V v s.1 s.2/\Mh s
theorem fE.le {V V':View}{v:Value}{s:Sd}(h:fE V v s)(l:V.Le V'):fE V' v s:=⟨h.1.le l,h.2⟩
theorem fE.shape {V:View}{v:Value}{s:Sd}(h:fE V v s):∃(x1:Int)(x2:Int)(p:OA)(y1:Int)(y2:Int)(q:OA)(z1:Int)(z2:Int)(r:OA)(u1:Int)(u2:Int)(t:OA)(w1:Int)(w2:Int)(o:OA),v=.agg #[.int .i64 x1,.int .i64 x2,.pointer p,.int .i64 y1,.int .i64 y2,.pointer q,.int .i64 z1,.int .i64 z2,.pointer r,.int .i64 u1,.int .i64 u2,.pointer t,.int .i64 w1,.int .i64 w2,.pointer o,.bool s.2.a,.bool s.2.b]:=by
 obtain ⟨x1,x2,p,y1,y2,q,z1,z2,r,u1,u2,t,w1,w2,o,e,-⟩:=h.1
 exact ⟨x1,x2,p,y1,y2,q,z1,z2,r,u1,u2,t,w1,w2,o,e⟩
theorem E6 {x1:Int}{x2:Int}{p:OA}{y1:Int}{y2:Int}{q:OA}{z1:Int}{z2:Int}{r:OA}{u1:Int}{u2:Int}{t:OA}{w1:Int}{w2:Int}{o:OA}{c d:Bool}:∀v∈([.int .i64 x1,.int .i64 x2,.pointer p,.int .i64 y1,.int .i64 y2,.pointer q,.int .i64 z1,.int .i64 z2,.pointer r,.int .i64 u1,.int .i64 u2,.pointer t,.int .i64 w1,.int .i64 w2,.pointer o,.bool c,.bool d]:List Value),v.oneCell'=true:=by
 intro v hm
 simp only [List.mem_cons,List.not_mem_nil,or_false] at hm
 rcases hm with rfl|rfl|rfl|rfl|rfl|rfl|rfl|rfl|rfl|rfl|rfl|rfl|rfl|rfl|rfl|rfl|rfl<;>rfl
theorem G7 {V:View}{s:Sd}:∀xs,fE V (.agg (List.toArray xs)) s->∀v∈xs,v.oneCell'=true:=by
 intro xs h
 obtain ⟨x1,x2,p,y1,y2,q,z1,z2,r,u1,u2,t,w1,w2,o,e⟩:=h.shape
 have e:=congrArg Array.toList (Value.agg.inj e)
 dsimp only at e
 subst e
 exact E6
theorem jB {V:View}{c:OA}{n:Nat}{al:List Sd}(h:cR 17 fE V c n al){i:Nat}(hi:i<al.length) :
  c.isSome=true/\∃(x1:Int)(x2:Int)(p:OA)(y1:Int)(y2:Int)(q:OA)(z1:Int)(z2:Int)(r:OA)(u1:Int)(u2:Int)(t:OA)(w1:Int)(w2:Int)(o:OA)(a:Addr),aj c (i*17)=some a/\V.at (a.add 0) (.int .i64 x1)/\V.at (a.add 1) (.int .i64 x2)/\V.at (a.add 2) (.pointer p)/\V.at (a.add 3) (.int .i64 y1)/\V.at (a.add 4) (.int .i64 y2)/\V.at (a.add 5) (.pointer q)/\V.at (a.add 6) (.int .i64 z1)/\V.at (a.add 7) (.int .i64 z2)/\V.at (a.add 8) (.pointer r)/\V.at (a.add 9) (.int .i64 u1)/\V.at (a.add 10) (.int .i64 u2)/\V.at (a.add 11) (.pointer t)/\V.at (a.add 12) (.int .i64 w1)/\V.at (a.add 13) (.int .i64 w2)/\V.at (a.add 14) (.pointer o)/\V.at (a.add 15) (.bool al[i].2.a)/\V.at (a.add 16) (.bool al[i].2.b) /\
   fE V (.agg #[.int .i64 x1,.int .i64 x2,.pointer p,.int .i64 y1,.int .i64 y2,.pointer q,.int .i64 z1,.int .i64 z2,.pointer r,.int .i64 u1,.int .i64 u2,.pointer t,.int .i64 w1,.int .i64 w2,.pointer o,.bool al[i].2.a,.bool al[i].2.b]) al[i]:=by
 obtain ⟨ad,h0,xs,h1,h2,h3⟩:=h.at_ i hi
 have h20:=h2
 obtain ⟨x1,x2,p,y1,y2,q,z1,z2,r,u1,u2,t,w1,w2,o,e⟩:=h2.shape
 have e:=congrArg Array.toList (Value.agg.inj e)
 dsimp only at e
 subst e
 refine ⟨?_,x1,x2,p,y1,y2,q,z1,z2,r,u1,u2,t,w1,w2,o,ad,h0,h3 0 _ rfl,h3 1 _ rfl,h3 2 _ rfl,h3 3 _ rfl,h3 4 _ rfl,h3 5 _ rfl,h3 6 _ rfl,h3 7 _ rfl,h3 8 _ rfl,h3 9 _ rfl,h3 10 _ rfl,h3 11 _ rfl,h3 12 _ rfl,h3 13 _ rfl,h3 14 _ rfl,h3 15 _ rfl,h3 16 _ rfl,h20⟩
 cases c with
 | none=>cases h0
 | some a=>rfl
theorem Cs {V:View}{vs:List Value}{al:List Sd}(h:Row 17 fE V vs al){i:Nat}(hi:i<al.length):∃(x1:Int)(x2:Int)(p:OA)(y1:Int)(y2:Int)(q:OA)(z1:Int)(z2:Int)(r:OA)(u1:Int)(u2:Int)(t:OA)(w1:Int)(w2:Int)(o:OA),i*17+17<=vs.length/\(vs.drop (i*17)).take 17=[.int .i64 x1,.int .i64 x2,.pointer p,.int .i64 y1,.int .i64 y2,.pointer q,.int .i64 z1,.int .i64 z2,.pointer r,.int .i64 u1,.int .i64 u2,.pointer t,.int .i64 w1,.int .i64 w2,.pointer o,.bool al[i].2.a,.bool al[i].2.b] /\
  fE V (.agg #[.int .i64 x1,.int .i64 x2,.pointer p,.int .i64 y1,.int .i64 y2,.pointer q,.int .i64 z1,.int .i64 z2,.pointer r,.int .i64 u1,.int .i64 u2,.pointer t,.int .i64 w1,.int .i64 w2,.pointer o,.bool al[i].2.a,.bool al[i].2.b]) al[i]:=by
 obtain ⟨xs,h1,h2,h3⟩:=h.at_ i hi
 have hl:=h.jA (by decide)
 have h20:=h2
 obtain ⟨x1,x2,p,y1,y2,q,z1,z2,r,u1,u2,t,w1,w2,o,e⟩:=h2.shape
 have e:=congrArg Array.toList (Value.agg.inj e)
 dsimp only at e
 subst e
 refine ⟨x1,x2,p,y1,y2,q,z1,z2,r,u1,u2,t,w1,w2,o,by omega,?_,h20⟩
 apply List.ext_getElem?
 intro j
 rw [List.getElem?_take]
 split
 ·rename_i hj
  rw [List.getElem?_drop]
  exact h3 j _ (List.getElem?_eq_getElem (by show j<17;omega))▸(List.getElem?_eq_getElem (by show j<17;omega)).symm
 ·rename_i hj
  rw [List.getElem?_eq_none (by show 17<=j;omega)]
theorem fE.both {V:View}{s:Sd}{x1:Int}{x2:Int}{p:OA}{y1:Int}{y2:Int}{q:OA}{z1:Int}{z2:Int}{r:OA}{u1:Int}{u2:Int}{t:OA}{w1:Int}{w2:Int}{o:OA}{c d:Bool}(h:fE V (.agg #[.int .i64 x1,.int .i64 x2,.pointer p,.int .i64 y1,.int .i64 y2,.pointer q,.int .i64 z1,.int .i64 z2,.pointer r,.int .i64 u1,.int .i64 u2,.pointer t,.int .i64 w1,.int .i64 w2,.pointer o,.bool c,.bool d]) s) :
  sW V (.agg #[.int .i64 x1,.int .i64 x2,.pointer p,.int .i64 y1,.int .i64 y2,.pointer q,.int .i64 z1,.int .i64 z2,.pointer r]) s.1/\BU V (.agg #[.int .i64 u1,.int .i64 u2,.pointer t,.int .i64 w1,.int .i64 w2,.pointer o,.bool s.2.a,.bool s.2.b]) s.2/\c=s.2.a/\d=s.2.b:=by
 obtain ⟨Tg,Th,p',y1',y2',q',z1',z2',r',Ta,Tb,t',w1',w2',o',e,h1,h2⟩:=h.1
 have e:=congrArg Array.toList (Value.agg.inj e)
 simp only [List.cons.injEq,Value.bool.injEq,Value.int.injEq,Value.pointer.injEq,true_and,and_true] at e
 obtain ⟨rfl,rfl,rfl,rfl,rfl,rfl,rfl,rfl,rfl,rfl,rfl,rfl,rfl,rfl,rfl,rfl,rfl⟩:=e
 exact ⟨h1,h2,rfl,rfl⟩
theorem jE:∀{c d:List Sd} {l:L3} {v:Sp},cC (c++d) l v=(cC c l v).bind (cC d l)
 | [],_,_,_=>rfl
 | s::c,d,l,v=>by
  rw [List.cons_append]
  unfold cC
  split
  ·exact jE
  ·rfl
theorem oM {V:View}{cp:OA}{cn cc:Nat}{c:List Sd}{lv:Value}{l:L3}(h:cR 17 fE V cp cn c)(hl:sW V lv l)(hb:Bd l)(hn:c.length<=1000000) :
  ab prog 130 #[.slice cp cn cc,lv] V fun r V'=>∃w,r=.tuple #[w,.bool (cC c l cx).isSome]/\BU V' w ((cC c l cx).getD Sp.zero)/\((cC c l cx).getD Sp.zero).sz 100000:=by
 have hl0:=hl
 obtain rfl:=h.len
 obtain ⟨_,_,_,_,_,_,_,_,_,rfl,-,-,-⟩:=hl
 have GX:∀{i:Nat} (hi:i<c.length) {s:Sp},cC (c.take i) l cx=some s->cC (c.take (i+1)) l cx=if eL l s c[i].1=true then some (eM l s c[i].1) else none:=fun {i} hi {s} e=>by
  rw [List.take_add_one,List.getElem?_eq_getElem hi,jE,e]
  show cC [c[i]] l s=_
  unfold cC
  rfl
 refine oA cp _ cc _ _ _ _ _ _ _ _ _ V _ fun V1 l1=>JN.mono ?_
 rintro r V2 l2 rfl
 have L2:=l1.trans l2
 refine ⟨_,_,_,_,_,_,_,_,rfl,fun z V'=>∃(i:Nat)(s:Sp),z.1=(i:Int)/\i<=c.length/\cC (c.take i) l cx=some s/\s.sz 100000/\z.2.2.2.2.2.2.2.1=s.a/\z.2.2.2.2.2.2.2.2=s.b/\BU V' (.agg #[.int .i64 z.2.1,.int .i64 z.2.2.1,.pointer z.2.2.2.1,.int .i64 z.2.2.2.2.1,.int .i64 z.2.2.2.2.2.1,.pointer z.2.2.2.2.2.2.1,.bool s.a,.bool s.b]) s,
  fun z=>c.length-z.1.toNat,⟨(0,0,0,none,0,0,none,true,true),by and_intros<;>rfl,0,cx,rfl,Nat.zero_le _,rfl,Gl (by omega),rfl,rfl,⟨_,_,_,_,_,_,rfl,RR.zero _,RR.zero _⟩⟩,?_⟩
 rintro ⟨z1,x1,x2,p,y1,y2,q,ba,bb⟩ V3 l3 ⟨i,s,e1,hi,hp,hs,ea,eb,hv⟩
 dsimp only at e1 ea eb hv ⊢
 subst e1 ea eb
 have L3:=L2.trans l3
 refine ⟨rfl,fun hlt=>?_,fun hlt V7 l7=>?_⟩
 ·have hlt:(i:Int)<c.length:=of_decide_eq_true hlt
  have hi':i<c.length:=by omega
  have w:i64.wrap ((i:Int)+1)=((i+1:Nat):Int):=by rw [ay (by omega)];rfl
  rw [Int.toNat_natCast,w]
  obtain ⟨ps,a1,a2,a3,a4,a5,a6,a7,a8,a9,b1,b2,b3,b4,b5,b6,a,ha,h0,h1,h2,h3,h4,h5,h6,h7,h8,h9,h10,h11,h12,Jg,DM,Jh,h16,hr⟩:=jB (h.le L3 fun _ _ g=>fE.le g L3) hi'
  obtain ⟨rl,ri,-,-⟩:=hr.both
  have pa:=GX hi' hp
  have sd:=hr.2
  refine ⟨ps,⟨by omega,by omega⟩,_,_,_,_,_,_,_,_,_,_,_,_,_,_,_,_,_,a,ha,h0,h1,h2,h3,h4,h5,h6,h7,h8,h9,h10,h11,h12,Jg,DM,Jh,h16,fun V4 l4=>(xW (hl0.le (L3.trans l4)) (hv.le l4) (rl.le l4) (k:=100000) (hb.pH.up (by omega)) hs (sd.1.pH.up (by omega)) (by omega)).mono ?_⟩
  rintro r V5 l5 ⟨w5,rfl,g⟩
  have g0:=g
  obtain ⟨_,_,_,_,_,_,rfl,-,-⟩:=g
  refine ⟨_,_,_,_,_,_,_,_,_,rfl,fun hf V6 l6=>?_,fun hf=>⟨(((i+1:Nat):Int),_,_,_,_,_,_,_,_),by dsimp only;omega,by and_intros<;>rfl,i+1,eM l s c[i].1,rfl,hi',?_,CA hb.pH sd.1.pH hs (by omega),rfl,rfl,g0⟩⟩
  ·have hf:eL l s c[i].1=false:=by simpa using hf
   have e:cC c l cx=none:=by
    have:=jE (c:=c.take (i+1)) (d:=c.drop (i+1)) (l:=l) (v:=cx)
    rw [List.take_append_drop,pa,hf] at this
    exact this
   rw [e]
   exact ⟨_,rfl,⟨_,_,_,_,_,_,rfl,RR.zero _,RR.zero _⟩,I5 _ (by omega),I5 _ (by omega)⟩
  ·have hf:eL l s c[i].1=true:=by simpa using hf
   rw [pa,if_pos hf]
 ·have hlt:¬(i:Int)<c.length:=of_decide_eq_false hlt
  obtain rfl:i=c.length:=by omega
  rw [List.take_length] at hp
  rw [hp]
  exact ⟨_,rfl,hv.le l7,hs⟩
def Jn (c:List Sd)(l:L3):Int:=if (cC c l cx).isSome=true then 0 else dG c l
theorem vZ {V:View}{cp:OA}{cn cc:Nat}{c:List Sd}{lv:Value}{l:L3}(h:cR 17 fE V cp cn c)(hl:sW V lv l)(hb:Bd l)(hn:c.length<=1000000) :
  ab prog 78 #[.slice cp cn cc,lv] V fun r V'=>r=.int .i64 (Jn c l):=by
 have hl0:=hl
 obtain rfl:=h.len
 obtain ⟨_,_,_,_,_,_,_,_,_,rfl,-,-,-⟩:=hl
 refine ny cp _ cc _ _ _ _ _ _ _ _ _ V _ fun V1 l1=>(oM (h.le l1 fun _ _ g=>fE.le g l1) (hl0.le l1) hb hn).mono ?_
 rintro r V2 l2 ⟨w,rfl,g,-⟩
 obtain ⟨_,_,_,_,_,_,rfl,-,-⟩:=g
 have L2:=l1.trans l2
 refine ⟨_,_,_,_,_,_,_,_,_,rfl,fun hp V3 l3=>by unfold Jn;rw [if_pos hp],fun hp=>?_⟩
 have hp:(cC c l cx).isSome=false:=hp
 have e0:Jn c l=dG c l:=by unfold Jn;rw [if_neg (by rw [hp];exact Bool.false_ne_true)]
 rw [e0]
 refine ⟨fun z V'=>∃i:Nat,z=(i:Int)/\i<=c.length/\dG c l=dG (c.drop i) l,fun z=>c.length-z.toNat,⟨0,by and_intros<;>rfl,0,rfl,Nat.zero_le _,rfl⟩,?_⟩
 rintro z V4 l4 ⟨i,rfl,hi,hpl⟩
 have L4:=L2.trans l4
 refine ⟨rfl,fun hlt=>?_,fun hlt oI fm=>?_⟩
 ·have hlt:(i:Int)<c.length:=of_decide_eq_true hlt
  have hi':i<c.length:=by omega
  have w:i64.wrap ((i:Int)+1)=((i+1:Nat):Int):=by rw [ay (by omega)];rfl
  rw [Int.toNat_natCast,w]
  obtain ⟨ps,a1,a2,a3,a4,a5,a6,a7,a8,a9,b1,b2,b3,b4,b5,b6,a,ha,h0,h1,h2,h3,h4,h5,h6,h7,h8,h9,h10,h11,h12,Jg,DM,Jh,h16,hr⟩:=jB (h.le L4 fun _ _ g=>fE.le g L4) hi'
  obtain ⟨rl,ri,-,-⟩:=hr.both
  have sd:=hr.2
  have ed:c.drop i=c[i]::c.drop (i+1):=List.drop_eq_getElem_cons hi'
  rw [ed] at hpl
  have hpl:dG c l=if (az l (jW c[i].1 c[i].2.dk) (jX c[i].1 c[i].2.dk)).num.sign≠0 then (az l (jW c[i].1 c[i].2.dk) (jX c[i].1 c[i].2.dk)).num.sign else if c[i].1=l then 1 else dG (c.drop (i+1)) l:=hpl.trans (by rfl)
  generalize c[i]=S at *
  have N0:=Hb sd.2
  refine ⟨ps,⟨by omega,by omega⟩,_,_,_,_,_,_,_,_,_,_,_,_,_,_,_,_,_,a,ha,h0,h1,h2,h3,h4,h5,h6,h7,h8,h9,h10,h11,h12,Jg,DM,Jh,h16,fun V5 l5=>(xV (ri.le l5) sd.2 (by omega)).mono ?_⟩
  rintro r V6 l6 g
  have g0:=g
  obtain ⟨_,_,_,rfl⟩:=g.shape
  refine ⟨_,_,_,rfl,fun V7 l7=>(M9 (rl.le (l5.trans (l6.trans l7))) (g0.le l7) (k:=300000) (sd.1.pH.up (by omega)) (N0.mono (by omega)) (by omega)).mono ?_⟩
  rintro r V8 l8 gp
  have QR:=gp
  obtain ⟨_,_,_,_,_,_,rfl,-,-⟩:=gp
  have sx:=I2 (sd.1.pH.up (show 1000<=300000 by omega)) (N0.mono (show 2*100000+10<=300000 by omega))
  have sy:=I3 (sd.1.pH.up (show 1000<=300000 by omega)) (N0.mono (show 2*100000+10<=300000 by omega))
  refine ⟨_,_,_,_,_,_,rfl,fun V9 l9=>(Iz (hl0.le (L4.trans (l5.trans (l6.trans (l7.trans (l8.trans l9)))))) (QR.le l9) (hb.pH.up (by omega)) sx sy (by omega)).mono ?_⟩
  rintro r kX l10 rfl
  refine ⟨_,rfl,fun hs lJ bU=>?_,fun hs pA cV=>(Gz (rl.le (l5.trans (l6.trans (l7.trans (l8.trans (l9.trans (l10.trans cV))))))) (hl0.le (L4.trans (l5.trans (l6.trans (l7.trans (l8.trans (l9.trans (l10.trans cV)))))))) (k:=1000) sd.1.pH hb.pH (by omega)).mono ?_⟩
  ·rw [hpl,if_pos (by simpa using hs)]
  ·rintro r vN dM rfl
   rw [if_neg (by simpa using hs)] at hpl
   refine ⟨_,rfl,fun he oH eY=>?_,fun he=>⟨((i+1:Nat):Int),by dsimp only;omega,by and_intros<;>rfl,i+1,rfl,hi',?_⟩⟩
   ·rw [hpl,if_pos (of_decide_eq_true he)]
   ·rw [hpl,if_neg (of_decide_eq_false he)]
 ·have hlt:¬(i:Int)<c.length:=of_decide_eq_false hlt
  obtain rfl:i=c.length:=by omega
  rw [hpl,List.drop_length]
  rfl
end Go.Proofs.Tryz
namespace Go.bq
open Go.Lib
variable {P:Program}
theorem ik (w:World)(dT sT ty elem:TypeId)(sz b o dLen dCap:Nat)(a:Addr)(sLen sCap:Nat)(cs:List Value)
  (hu:P.underlying dT=some (.slice elem))(hs:(P.info? elem).map (·.size)=some sz)(hn:cs.length=Nat.min sLen dLen*sz)
  (hsrc:∀j v,cs[j]?=some v->w.cell? (a.add j)=some v)(hc:∀j,j<cs.length->(w.cell? ⟨b,o+j,none⟩).isSome=true)(hf:∀j,j<cs.length->w.frozen? ⟨b,o+j,none⟩=false)(h1:∀v∈cs,v.oneCell'=true) :
  (Builtin.copy_ #[dT,sT] ty #[.slice (some ⟨b,o,none⟩) dLen dCap,.slice (some a) sLen sCap]).run P w=.ok (goInt (Nat.min sLen dLen)) (w.setCells b o cs):=by
 have hl:=run_loadCells_list (P:=P) w a cs hsrc
 have hst:=run_storeCells_cells (P:=P) b o cs 0 w (by simpa using hc) (by simpa using hf) h1
 cases hq:P.info? elem with
 | none=>simp [hq] at hs
 | some i=>
  have hi:i.size=sz:=by simpa [hq] using hs
  simp [Builtin.copy_,run_underlying hu,Builtin.lenOf,Builtin.firstCells,sizeOf,typeInfo,hq,hi,←hn,hl,hst]
theorem xB (w:World){o:Oper}{a:Act}{K:Act->World->Prop}{Q:Exit->Act->World->Prop}(d s:Operand)(t t':TypeId)
  (ho:o.op=.call { callee:=.builtin .copy,args:=#[d,s],argTypes:=#[t,t'] })(v u:Value)(hd:a.eval d=v)(hs:a.eval s=u){v':Value}{w':World}
  (hr:(Builtin.copy_ #[t,t'] o.type #[v,u]).run P w=.ok v' w')(h:K (a.put o.dst v') w'):o.wp P a w K Q:=by
 unfold Oper.wp execOp
 simp only [ho,resolve,invoke,builtin,Sem.run_bind,Sem.run_pure,Result.andThen_ok,List.map_toArray,List.map_cons,List.map_nil,hd,hs,hr]
 exact h
theorem jd (w:World){ops:Array Oper}{rest:List Oper}{o:Oper}{a:Act}{Q:Exit->Act->World->Prop}(hgd:o.guard=none)(d s:Operand)(t t':TypeId)
  (ho:o.op=.call { callee:=.builtin .copy,args:=#[d,s],argTypes:=#[t,t'] })(v u:Value)(hd:a.eval d=v)(hs:a.eval s=u){v':Value}{w':World}
  (hr:(Builtin.copy_ #[t,t'] o.type #[v,u]).run P w=.ok v' w')(h:wpList P ops Q rest (a.put o.dst v') w'):wpList P ops Q (o::rest) a w:=
 wpList_plain hgd fun _ hK=>xB w d s t t' ho v u hd hs hr (hK _ _ h)
theorem ku {ops:Array Oper}{o:Oper}{a:Act}{w:World}{K:Act->World->Prop}{Q:Exit->Act->World->Prop}{E:Prop}
  (hg:o.guard=none)(d x:Operand)(dT sT:TypeId)(hop:o.op=Op.call { callee:=Callee.builtin Builtin.copy,args:=#[d,x],argTypes:=#[dT,sT] })
  (v u:Value)(hd:a.eval d=v)(hx:a.eval x=u){v':Value}{w':World}(hr:(Builtin.copy_ #[dT,sT] o.type #[v,u]).run P w=.ok v' w')(hK:K (a.put o.dst v') w') :
  if Region.wanted o (yielded ops a.tmps)=true then Oper.wp P o a w K Q else E:=by
 have hw:Region.wanted o (yielded ops a.tmps)=true:=by simp [Region.wanted,hg]
 rw [if_pos hw]
 unfold Oper.wp
 simp [execOp,hop,resolve,invoke,builtin,hd,hx,hr,Result.andThen]
 exact hK
theorem dZ {w:World}{b o:Nat}{vs:List Value}{ty:TypeId}(h:w.heap[b]?=some (.cells vs.toArray ty (0,0))):w.frozen? ⟨b,o,none⟩=false:=by simp [World.frozen?,h]
theorem vG {w:World}{b:Nat}{vs:List Value}{ty:TypeId}(h:w.heap[b]?=some (.cells vs.toArray ty (0,0))):w.shape? b=some (ty,vs.length):=by simp [World.shape?,h]
theorem bB {w:World}{b o:Nat}{vs:List Value}{ty:TypeId}(h:w.heap[b]?=some (.cells vs.toArray ty (0,0))):w.cell? ⟨b,o,none⟩=vs[o]?:=cell_of_row h
theorem qU (X:Nat->Prop)(w:World):dJ X w w.drew:=⟨Nat.le_refl _,fun _ _ _=>rfl,rfl,rfl,rfl⟩
theorem nX (X:Nat->Prop)(w:World)(o:Obj):dJ X w (w.alloc o):=⟨by rw [show (w.alloc o).heap.size=w.heap.size+1 from Array.size_push ..];omega,fun b hb _=>bE w o hb,rfl,rfl,rfl⟩
theorem AV {w:World}{g:Nat}{old cs:Array Value}{ty:TypeId}(h:w.heap[g]?=some (.cells old ty (0,0))):dJ (·=g) w (w.setRow g cs):=by
 refine ⟨?_,fun b hb hn=>?_,?_,?_,?_⟩
 ·rw [dm h,Array.size_setIfInBounds];exact Nat.le_refl _
 ·rw [dm h,Array.getElem?_setIfInBounds_ne (fun e=>hn e.symm)]
 all_goals simp [World.setRow,h]
theorem b_ {b:Nat}{ty:TypeId}:∀(xs:List Value)(o:Nat)(vs:List Value)(w:World),w.heap[b]?=some (.cells vs.toArray ty (0,0))->o+xs.length<=vs.length ->
  (w.setCells b o xs).heap[b]?=some (.cells (vs.take o++xs++vs.drop (o+xs.length)).toArray ty (0,0))/\dJ (·=b) w (w.setCells b o xs)
 | [],o,vs,w,h,hl=>⟨by rw [World.setCells,List.append_nil,List.length_nil,Nat.add_zero,List.take_append_drop];exact h,dJ.refl _ _⟩
 | x::xs,o,vs,w,h,hl=>by
  rw [List.length_cons] at hl
  have e1:w.setCell ⟨b,o,none⟩ x=w.setRow b (vs.toArray.setIfInBounds o x):=setCell_eq_setRow w b o vs.toArray ty (0,0) x h
  have e2:vs.toArray.setIfInBounds o x=(vs.set o x).toArray:=by simp
  rw [World.setCells,e1,e2]
  have h2:(w.setRow b (vs.set o x).toArray).heap[b]?=some (.cells (vs.set o x).toArray ty (0,0)):=setRow_heap w b vs.toArray _ ty (0,0) h
  obtain ⟨g1,g2⟩:=b_ xs (o+1) (vs.set o x) _ h2 (by rw [List.length_set];omega)
  refine ⟨?_,(AV h).trans g2⟩
  rw [g1]
  congr 3
  rw [List.take_set,List.take_add_one,List.getElem?_eq_getElem (by omega),List.drop_set_of_lt (by omega),List.length_cons,show o+1+xs.length=o+(xs.length+1) by omega]
  rw [List.set_append_right _ _ (by rw [List.length_take];omega),List.length_take,Nat.min_eq_left (by omega),Nat.sub_self]
  simp
end Go.bq
namespace Go.Proofs.Tryz
open Go.bq Go.RowKit Go.Lib
theorem mS:∃i z,prog.info? 211=some i/\i.zero=some z/\i.size=17/\i.bytes=128/\z.cells.size=17:=by
 have h:=Bu 211 _ rfl
 unfold iV at h
 split at h
 ·rename_i i d e1 e2
  split at h
  ·rename_i z ez
   have h:=Option.some.inj h
   injection h with h1 h2 h3 h4
   refine ⟨i,z,e1,ez,h2,h3,?_⟩
   have:=congrArg List.length h4
   rw [List.length_map,Array.length_toList] at this
   rw [this]
   rfl
  ·cases h
 ·cases h
theorem cY (b o j:Nat):(⟨b,o,none⟩:Addr).add j=⟨b,o+j,none⟩:=by
 unfold Addr.add
 split
 ·rename_i h;subst h;rfl
 ·rfl
theorem HJ (w:World){t:TypeId}{i:TypeInfo}(h:prog.info? t=some i):(Go.sizeOf t).run prog w=.ok i.size w:=by
 simp [sizeOf,typeInfo,h]
set_option maxHeartbeats 4000000 in
set_option maxRecDepth 100000 in
theorem De (b n c i vb:Nat)(cs vs:List Value)(w:World)(hi:i<n)(hroom:n+1<=c)(hn63:n<=1000000)(hvb:vb≠b)(hcl:c*17<=cs.length)(hvl:vs.length=17)
  (hb:w.heap[b]?=some (.cells cs.toArray 211 (0,0)))(hv:w.heap[vb]?=some (.cells vs.toArray 211 (0,0)))
  (h1c:∀v∈(cs.take (n*17)).drop (i*17),v.oneCell'=true)(h1v:∀v∈vs,v.oneCell'=true) :
  Calls prog 164 #[.slice (some ⟨b,0,none⟩) n c,.int .i64 i,.slice (some ⟨vb,0,none⟩) 1 1] w fun e w'=>
   e=.returned (.slice (some ⟨b,0,none⟩) (n+1) c)/\w'=(w.drew.setCells b ((i+1)*17) ((cs.take (n*17)).drop (i*17))).setCells b (i*17) vs:=by
 obtain ⟨ti,z,e1,e2,e3,e4,e5⟩:=mS
 have hz2:¬((i:Int)=(n:Int)):=by omega
 have hsz:(prog.info? 211).map (·.size)=some 17:=by rw [e1];simp [e3]
 have uT:=underlying119
 have uV:=underlying118
 have rz:∀w,(Go.sizeOf 211).run prog w=.ok 17 w:=fun w=>by rw [HJ w e1,e3]
 have ru:=run_underlying uT
 have rv:=run_underlying uV
 have hov:∀lb cb,(callFunc 197 #[.slice (some ⟨vb,0,none⟩) 1 1,.slice (some ⟨b,(i+1)*17,none⟩) lb cb]).run prog w=.ok (.value (.bool false)) w:=fun lb cb=>by
  rw [run_callFunc_extern func197 (by kernel_rfl) (by kernel_rfl) (by kernel_rfl) (e:=Extern.SlicesOverlaps.overlaps #[118,118] #[4]) (by kernel_rfl),
   Lib.run_overlaps_apart w 118 4 211 uV 17 rz ⟨vb,0,none⟩ ⟨b,(i+1)*17,none⟩ 1 1 lb cb hvb _ _ _ _ (vG hv) (vG hb) (by omega) (dZ hv) (dZ hv)]
  rfl
 obtain ⟨mid,hmid⟩:∃mid,mid=(cs.take (n*17)).drop (i*17):=⟨_,rfl⟩
 rw [←hmid] at h1c ⊢
 have hml:mid.length=(n-i)*17:=by rw [hmid,List.length_drop,List.length_take];omega
 have hcell:∀(W:World)(o:Nat),W.heap[b]?=some (.cells cs.toArray 211 (0,0))->o<cs.length->(W.cell? ⟨b,o,none⟩).isSome=true:=fun W o hW ho=>by rw [bB hW,List.getElem?_eq_getElem ho];rfl
 have hbd:(w.drew).heap[b]?=some (.cells cs.toArray 211 (0,0)):=hb
 have hmn:∀x:Nat,Nat.min (n+1-i) (n+1-(i+1))=n-i:=fun _=>by simp only [Nat.min_def];split<;>omega
 have hcp1:∀ty dc sc,(Builtin.copy_ #[119,119] ty #[.slice (some ⟨b,(i+1)*17,none⟩) (n+1-(i+1)) dc,.slice (some ⟨b,i*17,none⟩) (n+1-i) sc]).run prog w.drew=  .ok (goInt ((n-i:Nat):Int)) (w.drew.setCells b ((i+1)*17) mid):=fun ty dc sc=>by
  have:=ik (P:=prog) w.drew 119 119 ty 211 17 b ((i+1)*17) (n+1-(i+1)) dc ⟨b,i*17,none⟩ (n+1-i) sc mid uT hsz (by rw [hmn 0,hml])
   (fun j v hj=>by
    rw [cY b,bB hbd]
    rw [hmid,List.getElem?_drop,List.getElem?_take] at hj
    split at hj
    ·exact hj
    ·cases hj)
   (fun j hj=>hcell _ _ hbd (by rw [hml] at hj;omega)) (fun j hj=>dZ hbd) h1c
  rw [hmn 0] at this
  exact this
 obtain ⟨g1,g2⟩:=b_ mid ((i+1)*17) cs w.drew hbd (by rw [hml];omega)
 obtain ⟨W1,hW1⟩:∃W1,W1=w.drew.setCells b ((i+1)*17) mid:=⟨_,rfl⟩
 rw [←hW1] at hcp1 g1 g2 ⊢
 have J2:Nat.min 1 (n+1-i)=1:=by simp only [Nat.min_def];split<;>omega
 have hvw:vb<w.heap.size:=(Array.getElem?_eq_some_iff.1 hv).1
 have hv1:W1.heap[vb]?=some (.cells vs.toArray 211 (0,0)):=by rw [g2.bo vb hvw hvb];exact hv
 have hcp2:∀ty dc,(Builtin.copy_ #[119,118] ty #[.slice (some ⟨b,i*17,none⟩) (n+1-i) dc,.slice (some ⟨vb,0,none⟩) 1 1]).run prog W1=.ok (goInt 1) (W1.setCells b (i*17) vs):=fun ty dc=>by
  have:=ik (P:=prog) W1 119 118 ty 211 17 b (i*17) (n+1-i) dc ⟨vb,0,none⟩ 1 1 vs uT hsz (by rw [J2,hvl])
   (fun j v hj=>by rw [cY vb,Nat.zero_add,bB hv1];exact hj)
   (fun j hj=>by rw [bB g1,List.getElem?_eq_getElem (by rw [hvl] at hj;simp only [List.length_append,List.length_take,List.length_drop,hml];omega)];rfl) (fun j hj=>dZ g1) h1v
  rw [J2] at this
  exact this
 clear g1 g2 hmid h1c hW1
 have mixed:=mixed
 have hw1:i64.wrap ((i:Int)+1)=(i:Int)+1:=by rw [IntKind.wrap_i64];omega
 have hb1:(0:Int)<=(i:Int)+1:=by omega
 have hin:i<=n:=by omega
 have htn:((i:Int)+1).toNat=i+1:=by omega
 have hb2:¬(c=i+1):=by omega
 have hb3:(i:Int)<=(n:Int)+1:=by omega
 have hb4:¬(c=i):=by omega
 go_enter func164,ntmps164
 go_wp2_with (simp only [hov])
 go_region_law_o (refine ku rfl _ _ 119 119 rfl (.slice (some ⟨b,(i+1)*17,none⟩) (n+1-(i+1)) (c-(i+1))) (.slice (some ⟨b,i*17,none⟩) (n+1-i) (c-i)) (by simp [Act.eval,Act.put]) (by simp [Act.eval,Act.put]) (hcp1 3 _ _) ?_)
 go_wp2_with (at_builtin;refine jd _ rfl _ _ 119 118 rfl _ _ rfl rfl (hcp2 _ _) ?_)
 go_ret
 exact ⟨rfl,rfl⟩
end Go.Proofs.Tryz
