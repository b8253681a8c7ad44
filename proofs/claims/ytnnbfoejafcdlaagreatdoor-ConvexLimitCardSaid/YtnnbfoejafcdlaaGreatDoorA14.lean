import Derived.Test.YtnnbfoejafcdlaaGreatDoorA13
import Derived.Test.YtnnbfoejafcdlaaGreatDoorA12
import Derived.Test.YtnnbfoejafcdlaaGreatDoorA7
import Derived.Test.YtnnbfoejafcdlaaGreatDoorA5
import Derived.Test.YtnnbfoejafcdlaaGreatDoorA9
import Derived.Laws.IdiomCopy
import Derived.Lib.Overlaps
import Derived.Lib.JoinLaws
import Derived.Lib.AppendZerosOnto
set_option linter.unusedVariables false
open Go.IntKind (i64 u64 u32)
namespace Go.Proofs.Tryz.aD
open Go.bo Go.eu
def half (u:V2):Int:=if u.2.num.sign>0\/u.2.num.sign=0/\u.1.num.sign>0 then 1 else if u.2.num.sign<0\/u.1.num.sign<0 then 2 else 0
def iq (u v:V2):Int:=if half u<half v then -1 else if half u>half v then 1 else -(cr u v).num.sign
theorem pg {q:Rat}:q.num.sign>0↔q>0:=by
 have:=Rat.num_nonneg (q:=-q)
 rw [Rat.neg_num] at this
 rw [gt_iff_lt,Int.sign_pos_iff]
 have h2:(0<=-q)↔¬q>0:=by constructor<;>intro h<;>grind
 rw [h2] at this
 by_cases h:q>0
 ·exact ⟨fun _=>h,fun _=>by
   have:¬0<=-q.num:=fun g=>this.1 g h
   omega⟩
 ·exact ⟨fun g=>by have:=this.2 h;omega,fun g=>absurd g h⟩
theorem Cr {q:Rat}:q.num.sign<0↔q<0:=by
 have:=@pg (-q)
 rw [Rat.neg_num,Int.sign_neg] at this
 constructor
 ·intro h;have:=this.1 (by omega);grind
 ·intro h;have:=this.2 (by grind);omega
theorem cG (u:V2):half u=1/\up u\/half u=2/\dn u\/half u=0/\u.1=0/\u.2=0:=by
 unfold half up dn
 split
 ·rename_i h;rw [pg,pg,ng] at h;exact .inl ⟨rfl,h⟩
 ·rename_i h
  rw [pg,pg,ng] at h
  split
  ·rename_i h';rw [Cr,Cr] at h';exact .inr (.inl ⟨rfl,by grind⟩)
  ·rename_i h';rw [Cr,Cr] at h';exact .inr (.inr ⟨rfl,by grind,by grind⟩)
theorem vO {u v:V2}:iq u v<0↔half u<half v\/half u=half v/\cr u v>0:=by
 have:=@pg (cr u v)
 unfold iq
 by_cases h1:half u<half v
 ·simp [h1]
 ·by_cases h2:half u>half v
  ·rw [if_neg h1,if_pos h2];omega
  ·rw [if_neg h1,if_neg h2];constructor
   ·intro h;exact .inr ⟨by omega,this.1 (by omega)⟩
   ·rintro (h|⟨h,h'⟩)
    ·omega
    ·have:=this.2 h';omega
theorem xJ {u v:V2}:iq u v=0↔half u=half v/\cr u v=0:=by
 have:=@ng (cr u v)
 unfold iq
 by_cases h1:half u<half v
 ·rw [if_pos h1];constructor
  ·intro h;omega
  ·rintro ⟨h,_⟩;omega
 ·by_cases h2:half u>half v
  ·rw [if_neg h1,if_pos h2];constructor
   ·intro h;omega
   ·rintro ⟨h,_⟩;omega
  ·rw [if_neg h1,if_neg h2];constructor
   ·intro h;exact ⟨by omega,this.1 (by omega)⟩
   ·rintro ⟨_,h⟩;have:=this.2 h;omega
theorem HW (u v:V2):iq u v<0\/iq u v=0\/iq v u<0:=by
 rw [vO,xJ,vO]
 have:=B5 u v
 rcases Int.lt_trichotomy (half u) (half v) with h|h|h
 ·exact .inl (.inl h)
 ·by_cases p:cr u v>0
  ·exact .inl (.inr ⟨h,p⟩)
  ·by_cases q:cr u v=0
   ·exact .inr (.inl ⟨h,q⟩)
   ·exact .inr (.inr (.inr ⟨h.symm,by grind⟩))
 ·exact .inr (.inr (.inl h))
theorem F2 (u v:V2)(h:iq u v<0):¬iq v u<0:=by
 rw [vO] at *
 have:=B5 u v
 rintro (h'|⟨h',g'⟩)<;>rcases h with h|⟨h,g⟩
 ·omega
 ·omega
 ·omega
 ·grind
theorem Gb {a b d:V2}(tG:half a=half b)(hbd:half b=half d)(h1:cr a b<=0)(h2:cr b d<=0):cr a d<=0:=by
 by_cases h:cr a d<=0
 ·exact h
 exfalso
 have c:cr a d>0:=by grind
 have j1:=M6 a d b
 have j2:=ED a d b
 rcases cG b with ⟨e,hb⟩|⟨e,hb⟩|⟨e,hb⟩
 ·have ha:up a:=by rcases cG a with ⟨e',h⟩|⟨e',h⟩|⟨e',h⟩<;>first|exact h|omega
  have hd:up d:=by rcases cG d with ⟨e',h⟩|⟨e',h⟩|⟨e',h⟩<;>first|exact h|omega
  unfold up at ha hb hd
  have m1:=mn (show -(cr a b)≥0 by grind) (show d.2≥0 by grind)
  have m2:=mn (show -(cr b d)≥0 by grind) (show a.2≥0 by grind)
  have m3:=mn (show cr a d≥0 by grind) (show b.2≥0 by grind)
  have z3:cr a d*b.2=0:=by grind
  have b2:b.2=0:=by rcases Rat.mul_eq_zero.1 z3 with h|h<;>grind
  have b1:b.1>0:=by grind
  have d2:d.2=0:=by
   by_cases q:d.2>0
   ·have:=mp b1 q;unfold cr at h2;rw [b2] at h2;grind
   ·grind
  have d1:d.1>0:=by grind
  have:=mn (show a.2≥0 by grind) (show d.1≥0 by grind)
  unfold cr at c
  rw [d2] at c
  grind
 ·have ha:dn a:=by rcases cG a with ⟨e',h⟩|⟨e',h⟩|⟨e',h⟩<;>first|exact h|omega
  have hd:dn d:=by rcases cG d with ⟨e',h⟩|⟨e',h⟩|⟨e',h⟩<;>first|exact h|omega
  unfold dn at ha hb hd
  have m1:=mn (show -(cr a b)≥0 by grind) (show -d.2≥0 by grind)
  have m2:=mn (show -(cr b d)≥0 by grind) (show -a.2≥0 by grind)
  have m3:=mn (show cr a d≥0 by grind) (show -b.2≥0 by grind)
  have z3:cr a d*b.2=0:=by grind
  have b2:b.2=0:=by rcases Rat.mul_eq_zero.1 z3 with h|h<;>grind
  have b1:-b.1>0:=by grind
  have d2:d.2=0:=by
   by_cases q:-d.2>0
   ·have:=mp b1 q;unfold cr at h2;rw [b2] at h2;grind
   ·grind
  have d1:d.1<0:=by grind
  have:=mn (show -a.2≥0 by grind) (show -d.1≥0 by grind)
  unfold cr at c
  rw [d2] at c
  grind
 ·have ha:a.1=0/\a.2=0:=by rcases cG a with ⟨e',h⟩|⟨e',h⟩|⟨e',h⟩<;>first|exact h|omega
  unfold cr at c
  rw [ha.1,ha.2] at c
  grind
theorem HV {u v:V2}:¬iq u v<0↔half v<half u\/half u=half v/\cr u v<=0:=by
 rw [vO]
 constructor
 ·intro h
  rcases Int.lt_trichotomy (half u) (half v) with g|g|g
  ·exact absurd (.inl g) h
  ·exact .inr ⟨g,by by_cases p:cr u v>0;exact absurd (.inr ⟨g,p⟩) h;grind⟩
  ·exact .inl g
 ·rintro (h|⟨h,g⟩) (h'|⟨h',g'⟩)
  ·omega
  ·omega
  ·omega
  ·grind
theorem HX (a b d:V2)(h:¬iq a b<0)(h':¬iq b d<0):¬iq a d<0:=by
 rw [HV] at *
 rcases h with h|⟨h,g⟩<;>rcases h' with h'|⟨h',g'⟩
 ·exact .inl (by omega)
 ·exact .inl (by omega)
 ·exact .inl (by omega)
 ·exact .inr ⟨by omega,Gb h h' g g'⟩
theorem DU {u v:V2}(hu:nz u)(h:iq u v=0):∃c:Rat,c>0/\u=(c*v.1,c*v.2):=by
 rw [xJ] at h
 obtain ⟨e,c⟩:=h
 have fin:∀k:Rat,k>0->u.1=k*v.1->u.2=k*v.2->∃c:Rat,c>0/\u=(c*v.1,c*v.2):=fun k h0 h1 h2=>⟨k,h0,Prod.ext h1 h2⟩
 have pos:∀x y:Rat,y≠0->x*y>0->x*y⁻¹>0:=fun x y hy h=>by
  have e:=inv_mul hy x
  generalize x*y⁻¹=t at *
  have e2:t*(y*y)=x*y:=by grind
  have:=sq_pos (u:=(y,0)) (.inl hy)
  unfold dt at this
  by_cases q:t>0
  ·exact q
  ·have:=mn (show -t≥0 by grind) (show y*y≥0 by grind);grind
 unfold cr at c
 have two:v.2≠0->u.2*v.2>0->∃c:Rat,c>0/\u=(c*v.1,c*v.2):=fun h0 h1=>by
  refine fin (u.2*v.2⁻¹) (pos _ _ h0 h1) ?_ (inv_mul h0 _).symm
  have:=inv_mul h0 u.1
  have:u.1*v.2*v.2⁻¹=u.2*v.1*v.2⁻¹:=by rw [show u.1*v.2=u.2*v.1 by grind]
  grind
 have one:v.1≠0->u.1*v.1>0->v.2=0->u.2=0->∃c:Rat,c>0/\u=(c*v.1,c*v.2):=fun h0 h1 h2 h3=>
  fin (u.1*v.1⁻¹) (pos _ _ h0 h1) (inv_mul h0 _).symm (by rw [h2,h3];grind)
 rcases cG u with ⟨e1,h⟩|⟨e1,h⟩|⟨e1,h⟩
 ·have h':up v:=by rcases cG v with ⟨e',h⟩|⟨e',h⟩|⟨e',h⟩<;>first|exact h|omega
  unfold up at h h'
  by_cases q:v.2>0
  ·refine two (by grind) ?_
   by_cases q':u.2>0
   ·exact mp q' q
   ·have u2:u.2=0:=by grind
    have:=mp (show u.1>0 by grind) q
    rw [u2] at c;grind
  ·have v2:v.2=0:=by grind
   have v1:v.1>0:=by grind
   by_cases q':u.2>0
   ·have:=mp q' v1;rw [v2] at c;grind
   ·exact one (by grind) (mp (by grind) v1) v2 (by grind)
 ·have h':dn v:=by rcases cG v with ⟨e',h⟩|⟨e',h⟩|⟨e',h⟩<;>first|exact h|omega
  unfold dn at h h'
  by_cases q:v.2<0
  ·refine two (by grind) ?_
   by_cases q':u.2<0
   ·have:=mp (show -u.2>0 by grind) (show -v.2>0 by grind);grind
   ·have u2:u.2=0:=by grind
    have:=mp (show -u.1>0 by grind) (show -v.2>0 by grind)
    rw [u2] at c;grind
  ·have v2:v.2=0:=by grind
   have v1:-v.1>0:=by grind
   by_cases q':u.2<0
   ·have:=mp (show -u.2>0 by grind) v1;rw [v2] at c;grind
   ·refine one (by grind) ?_ v2 (by grind)
    have:=mp (show -u.1>0 by grind) v1;grind
 ·unfold nz at hu;grind
section
variable {D:List V2} (h:LA D)
include h
omit h in
end
theorem qa {a b c x y z:Int}(h1:a*y=b*x)(h2:a*z=c*x)(g:Nat.gcd (Nat.gcd x.natAbs y.natAbs) z.natAbs=1):x.natAbs∣a.natAbs:=by
 have e1:a.natAbs*y.natAbs=b.natAbs*x.natAbs:=by rw [←Int.natAbs_mul,←Int.natAbs_mul,h1]
 have e2:a.natAbs*z.natAbs=c.natAbs*x.natAbs:=by rw [←Int.natAbs_mul,←Int.natAbs_mul,h2]
 have d1:x.natAbs∣a.natAbs*Nat.gcd (Nat.gcd x.natAbs y.natAbs) z.natAbs:=by
  rw [←Nat.gcd_mul_left,←Nat.gcd_mul_left]
  exact Nat.dvd_gcd (Nat.dvd_gcd ⟨a.natAbs,by rw [Nat.mul_comm]⟩ ⟨b.natAbs,by rw [e1,Nat.mul_comm]⟩) ⟨c.natAbs,by rw [e2,Nat.mul_comm]⟩
 rwa [g,Nat.mul_one] at d1
theorem Dw {l m:L3}(ol:fV l=true)(om:fV m=true)(cl:jT l=l)(cm:jT m=m){x y:Rat}(hl:az l x y=0)(hm:az m x y=0)
  (hc:cr (aG l) (aG m)=0):l=m:=by
 unfold fV at ol om
 rw [Bool.and_eq_true,decide_eq_true_iff,decide_eq_true_iff] at ol om
 have c12:l.1*m.2.1=l.2.1*m.1:=by
  unfold cr aG at hc
  have:(l.1:Rat)*(m.2.1:Rat)=(l.2.1:Rat)*(m.1:Rat):=by grind
  exact_mod_cast this
 unfold az at hl hm
 have S6:(l.1:Rat)*(m.2.1:Rat)=(l.2.1:Rat)*(m.1:Rat):=by exact_mod_cast c12
 have c13:l.1*m.2.2=l.2.2*m.1:=by
  have:(l.1:Rat)*(m.2.2:Rat)=(l.2.2:Rat)*(m.1:Rat):=by grind
  exact_mod_cast this
 have c23:l.2.1*m.2.2=l.2.2*m.2.1:=by
  have:(l.2.1:Rat)*(m.2.2:Rat)=(l.2.2:Rat)*(m.2.1:Rat):=by grind
  exact_mod_cast this
 obtain ⟨Rz,Nm⟩:=ol
 obtain ⟨S0,Nn⟩:=om
 unfold fH at Nm Nn
 have QL:Nat.gcd (Nat.gcd l.2.1.natAbs l.1.natAbs) l.2.2.natAbs=1:=by rw [Nat.gcd_comm l.2.1.natAbs];exact Nm
 have QM:Nat.gcd (Nat.gcd m.2.1.natAbs m.1.natAbs) m.2.2.natAbs=1:=by rw [Nat.gcd_comm m.2.1.natAbs];exact Nn
 have a1:l.1.natAbs=m.1.natAbs:=Nat.dvd_antisymm (qa (a:=m.1) (b:=m.2.1) (c:=m.2.2) (by rw [Int.mul_comm,←c12,Int.mul_comm]) (by rw [Int.mul_comm,←c13,Int.mul_comm]) Nm) (qa c12 c13 Nn)
 have a2:l.2.1.natAbs=m.2.1.natAbs:=Nat.dvd_antisymm (qa (a:=m.2.1) (b:=m.1) (c:=m.2.2) (by rw [Int.mul_comm,c12,Int.mul_comm]) (by rw [Int.mul_comm,←c23,Int.mul_comm]) QL) (qa (b:=l.1) (c:=l.2.2) c12.symm c23 QM)
 have sl:¬(l.1<0\/l.1=0/\l.2.1<0):=fun h=>by
  unfold jT at cl
  rw [if_pos h] at cl
  have e1:-l.1=l.1:=congrArg (fun x:L3=>x.1) cl
  have e2:-l.2.1=l.2.1:=congrArg (fun x:L3=>x.2.1) cl
  omega
 have sm:¬(m.1<0\/m.1=0/\m.2.1<0):=fun h=>by
  unfold jT at cm
  rw [if_pos h] at cm
  have e1:-m.1=m.1:=congrArg (fun x:L3=>x.1) cm
  have e2:-m.2.1=m.2.1:=congrArg (fun x:L3=>x.2.1) cm
  omega
 have e1:l.1=m.1:=by omega
 by_cases z:l.1=0
 ·have e2:l.2.1=m.2.1:=by omega
  have n2:l.2.1≠0:=fun h=>Rz ⟨z,h⟩
  have e3:m.2.2=l.2.2:=Int.eq_of_mul_eq_mul_left n2 (by rw [c23,e2,Int.mul_comm])
  exact Prod.ext e1 (Prod.ext e2 e3.symm)
 ·have e2:m.2.1=l.2.1:=Int.eq_of_mul_eq_mul_left z (by rw [c12,e1,Int.mul_comm])
  have e3:m.2.2=l.2.2:=Int.eq_of_mul_eq_mul_left z (by rw [c13,e1,Int.mul_comm])
  exact Prod.ext e1 (Prod.ext e2.symm e3.symm)
end Go.Proofs.Tryz.aD
namespace Go.Proofs.Tryz.aD
def mx (x:Rat×Rat)(t:Rat):Rat:=x.1+t*(x.2-x.1)
theorem A6 {x:Rat×Rat}{t:Rat}(h1:x.1>0)(h2:x.2>0)(t0:t>0)(t1:t<=1):mx x t>0:=by
 have a:=mn (show 1-t≥0 by grind) (show x.1≥0 by grind)
 have b:=mp t0 h2
 unfold mx;grind
theorem IB {x:Rat×Rat}{t s:Rat}(h1:x.1>0)(hs:mx x s≥0)(s0:s>0)(t0:t>0)(ts:t<=s):mx x t≥0:=by
 unfold mx at *
 have e:s*(x.1+t*(x.2-x.1))=(s-t)*x.1+t*(x.1+s*(x.2-x.1)):=by grind
 have a:=mn (show s-t≥0 by grind) (show x.1≥0 by grind)
 have b:=mn (show t≥0 by grind) hs
 by_cases h:x.1+t*(x.2-x.1)≥0
 ·exact h
 ·have:=mp s0 (show -(x.1+t*(x.2-x.1))>0 by grind)
  grind
theorem xB {y:Rat×Rat}(h1:y.1>0){s:Rat}(s0:s>0)(hs:mx y s<=0):∃t,t>0/\t<=s/\mx y t=0:=by
 have hd:y.1-y.2>0:=by
  by_cases c:y.1-y.2>0
  ·exact c
  ·have:=mn (show s≥0 by grind) (show y.2-y.1≥0 by grind)
   unfold mx at hs;grind
 have e:=inv_mul (show y.1-y.2≠0 by grind) y.1
 have p:=mp h1 (Rat.inv_pos.2 hd)
 refine ⟨y.1*(y.1-y.2)⁻¹,p,?_,?_⟩
 ·generalize y.1*(y.1-y.2)⁻¹=t at *
  by_cases c:t<=s
  ·exact c
  ·have:=mp (show t-s>0 by grind) hd
   unfold mx at hs;grind
 ·generalize y.1*(y.1-y.2)⁻¹=t at *
  unfold mx;grind
theorem AP:∀(L:List (Rat×Rat)),(∀x∈L,x.1>0)->(∃x∈L,x.2<=0)->∃t,t>0/\t<=1/\(∀x∈L,mx x t≥0)/\∃x∈L,mx x t=0
 | [],_,h=>by obtain ⟨x,hx,_⟩:=h;cases hx
 | y::L,h0,h=>by
  have hy:=h0 y (List.mem_cons_self ..)
  have hL:=fun x hx=>h0 x (List.mem_cons_of_mem y hx)
  by_cases c:∃x∈L,x.2<=0
  ·obtain ⟨t,t0,t1,a,x,hx,e⟩:=AP L hL c
   by_cases g:mx y t≥0
   ·exact ⟨t,t0,t1,fun z hz=>by rcases List.mem_cons.1 hz with rfl|hz;exact g;exact a z hz,x,List.mem_cons_of_mem _ hx,e⟩
   ·obtain ⟨s,s0,st,es⟩:=xB hy t0 (by grind)
    exact ⟨s,s0,by grind,fun z hz=>by rcases List.mem_cons.1 hz with rfl|hz;grind;exact IB (hL z hz) (a z hz) t0 s0 st,y,List.mem_cons_self ..,es⟩
  ·obtain ⟨x,hx,hx2⟩:=h
   have:x=y:=by
    rcases List.mem_cons.1 hx with rfl|hx
    ·rfl
    ·exact absurd ⟨x,hx,hx2⟩ c
   subst this
   obtain ⟨s,s0,st,es⟩:=xB hy (s:=1) (by decide) (by unfold mx;grind)
   refine ⟨s,s0,st,fun z hz=>?_,x,List.mem_cons_self ..,es⟩
   rcases List.mem_cons.1 hz with rfl|hz
   ·grind
   ·have:z.2>0:=by
     by_cases q:z.2>0
     ·exact q
     ·exact absurd ⟨z,hz,by grind⟩ c
    have:=A6 (hL z hz) this s0 st
    grind
theorem wR:∀(L:List (Rat×Rat)),(∀x∈L,x.1>0)->∃s,s>0/\∀x∈L,x.1+s*x.2>0
 | [],_=>⟨1,by decide,fun x h=>by cases h⟩
 | y::L,h0=>by
  have hy:=h0 y (List.mem_cons_self ..)
  obtain ⟨s,s0,h⟩:=wR L fun x hx=>h0 x (List.mem_cons_of_mem y hx)
  by_cases c:y.1+s*y.2>0
  ·exact ⟨s,s0,fun z hz=>by rcases List.mem_cons.1 hz with rfl|hz;exact c;exact h z hz⟩
  ·have hn:-y.2>0:=by
    by_cases q:y.2<0
    ·grind
    ·have:=mn (show s≥0 by grind) (show y.2≥0 by grind);grind
   have e:=inv_mul (show -y.2≠0 by grind) y.1
   have p:=mp hy (Rat.inv_pos.2 hn)
   generalize y.1*(-y.2)⁻¹=r at *
   have hr:r<=s:=by
    by_cases q:r<=s
    ·exact q
    ·have:=mp (show r-s>0 by grind) hn;grind
   refine ⟨r*(1 / 2),by grind,fun z hz=>?_⟩
   rcases List.mem_cons.1 hz with rfl|hz
   ·grind
   ·have hz1:=h0 z (List.mem_cons_of_mem _ hz)
    have hz2:=h z hz
    by_cases q:z.2≥0
    ·have:=mn (show r*(1 / 2)≥0 by grind) q;grind
    ·have:=mn (show s-r*(1 / 2)≥0 by grind) (show -z.2≥0 by grind)
     grind
def pos (M:List L3)(p:V2):Prop:=∀m∈M,az m p.1 p.2>0
def Es (M:List L3)(l:L3):Prop:=∃p:V2,az l p.1 p.2=0/\∀m∈M,m≠l->az m p.1 p.2>0
def Og (M:List L3):Prop:=∀l∈M,∀m∈M,l≠m->∀p:V2,az l p.1 p.2=0->az m p.1 p.2=0->cr (aG l) (aG m)≠0
theorem GU {l m:L3}{w:V2}(hw:w.1≠0\/w.2≠0)(h1:nv l w=0)(h2:nv m w=0):cr (aG l) (aG m)=0:=by
 have e1:cr (aG l) (aG m)*w.1=0:=by unfold nv at *;unfold cr aG;grind
 have e2:cr (aG l) (aG m)*w.2=0:=by unfold nv at *;unfold cr aG;grind
 rcases hw with h|h
 ·rcases Rat.mul_eq_zero.1 e1 with g|g;exact g;exact absurd g h
 ·rcases Rat.mul_eq_zero.1 e2 with g|g;exact g;exact absurd g h
theorem B4 (u:V2):cr u u=0:=by unfold cr;grind
theorem wY (m:L3)(q p:V2)(t:Rat):az m (q.1+t*(p.1-q.1)) (q.2+t*(p.2-q.2))=az m q.1 q.2+t*(az m p.1 p.2-az m q.1 q.2):=by unfold az;grind
theorem ID (m:L3)(q p:V2)(t:Rat):nv m (q.1+t*(p.1-q.1),q.2+t*(p.2-q.2))=nv m q+t*(nv m p-nv m q):=by unfold nv;grind
theorem IF (m:L3)(q x:V2):nv m (q.1-x.1,q.2-x.2)=az m q.1 q.2-az m x.1 x.2:=by unfold nv az;grind
theorem QA {M:List L3}(hd:Og M)(hn:∀m∈M,(aG m).1≠0\/(aG m).2≠0){q p:V2}(hq:pos M q)(hp:∀m∈M,Es M m->az m p.1 p.2>0):pos M p:=by
 intro m0 hm0
 by_cases c:az m0 p.1 p.2>0
 ·exact c
 exfalso
 let f:L3->Rat×Rat:=fun m=>(az m q.1 q.2,az m p.1 p.2)
 obtain ⟨t,t0,t1,ge,x,hx,ex⟩:=AP (M.map f) (fun x hx=>by obtain ⟨m,hm,rfl⟩:=List.mem_map.1 hx;exact hq m hm) ⟨f m0,List.mem_map_of_mem hm0,by show az m0 p.1 p.2<=0;grind⟩
 obtain ⟨m1,hm1,rfl⟩:=List.mem_map.1 hx
 let X:V2:=(q.1+t*(p.1-q.1),q.2+t*(p.2-q.2))
 have vX:∀m,az m X.1 X.2=mx (f m) t:=fun m=>wY m q p t
 have QJ:∀m∈M,az m X.1 X.2≥0:=fun m hm=>by rw [vX];exact ge _ (List.mem_map_of_mem hm)
 have zX:az m1 X.1 X.2=0:=by rw [vX];exact ex
 let u:V2:=(q.1-X.1,q.2-X.2)
 have vu:∀m,nv m u=az m q.1 q.2-az m X.1 X.2:=fun m=>IF m q X
 let Z:=M.filter fun m=>decide (az m X.1 X.2=0)
 have GJ:∀m,m∈Z↔m∈M/\az m X.1 X.2=0:=fun m=>by simp [Z,List.mem_filter]
 have Rw:m1∈Z:=(GJ m1).2 ⟨hm1,zX⟩
 let d:=aG m1
 have d0:nv m1 d=0:=by rw [Cj];exact B4 _
 let g:L3->Rat×Rat:=fun m=>(nv m u,nv m d)
 obtain ⟨k,k0,k1,QK,y,hy,ey⟩:=AP (Z.map g) (fun x hx=>by
  obtain ⟨m,hm,rfl⟩:=List.mem_map.1 hx
  obtain ⟨Q8,hz⟩:=(GJ m).1 hm
  show nv m u>0
  rw [vu,hz];have:=hq m Q8;grind) ⟨g m1,List.mem_map_of_mem Rw,by show nv m1 d<=0;rw [d0];grind⟩
 obtain ⟨m2,hm2,rfl⟩:=List.mem_map.1 hy
 obtain ⟨Ng,Nh⟩:=(GJ m2).1 hm2
 let w:V2:=(u.1+k*(d.1-u.1),u.2+k*(d.2-u.2))
 have vw:∀m,nv m w=mx (g m) k:=fun m=>ID m u d k
 have wz:nv m2 w=0:=by rw [vw];exact ey
 have w0:w.1≠0\/w.2≠0:=by
  by_cases e:k=1
  ·have:=hn m1 hm1
   have e1:w.1=d.1:=by dsimp only [w];rw [e];grind
   have e2:w.2=d.2:=by dsimp only [w];rw [e];grind
   rw [e1,e2];exact this
  ·have a:nv m1 w>0:=by
    rw [vw]
    show nv m1 u+k*(nv m1 d-nv m1 u)>0
    rw [d0]
    have:nv m1 u>0:=by rw [vu,zX];have:=hq m1 hm1;grind
    have:=mp (show 1-k>0 by grind) this
    grind
   by_cases e1:w.1=0
   ·by_cases e2:w.2=0
    ·unfold nv at a;rw [e1,e2] at a;grind
    ·exact .inr e2
   ·exact .inl e1
 obtain ⟨s,s0,hs⟩:=wR ((M.filter fun m=>decide (az m X.1 X.2>0)).map fun m=>(az m X.1 X.2,nv m w)) (fun x hx=>by
  obtain ⟨m,hm,rfl⟩:=List.mem_map.1 hx
  simpa using (List.mem_filter.1 hm).2)
 have es:Es M m2:=by
  refine ⟨(X.1+s*w.1,X.2+s*w.2),?_,fun m hm hne=>?_⟩
  ·rw [il,Nh,wz];grind
  ·rw [il]
   by_cases z:az m X.1 X.2=0
   ·have Q9:=(GJ m).2 ⟨hm,z⟩
    have g0:nv m w≥0:=by rw [vw];exact QK _ (List.mem_map_of_mem Q9)
    have ne:nv m w≠0:=fun e=>hd m2 Ng m hm (fun h=>hne h.symm) X Nh z (GU w0 wz e)
    have:=mp s0 (show nv m w>0 by grind)
    rw [z];grind
   ·have gz:=QJ m hm
    have hmem:(az m X.1 X.2,nv m w)∈((M.filter fun m=>decide (az m X.1 X.2>0)).map fun m=>(az m X.1 X.2,nv m w)):=List.mem_map.2 ⟨m,List.mem_filter.2 ⟨hm,by simp;grind⟩,rfl⟩
    exact hs _ hmem
 have a:=hp m2 Ng es
 have b:=hq m2 Ng
 have:=A6 (x:=f m2) b a t0 t1
 rw [←vX,Nh] at this
 grind
def GL (l:L3):V2:=((l.1:Rat),(l.2.1:Rat))
theorem NX {x y:Rat}(h:x≠0\/y≠0):x*x+y*y>0:=by
 have p:∀z:Rat,z≠0->z*z>0:=fun z hz=>by
  by_cases c:z>0
  ·exact mp c c
  ·have:=mp (show -z>0 by grind) (show -z>0 by grind);grind
 have q:∀z:Rat,z*z≥0:=fun z=>by
  by_cases c:z≥0
  ·exact mn c c
  ·have:=mn (show -z≥0 by grind) (show -z≥0 by grind);grind
 rcases h with h|h
 ·have:=p x h;have:=q y;grind
 ·have:=p y h;have:=q x;grind
theorem IE {l:L3}(h:(aG l).1≠0\/(aG l).2≠0):nv l (GL l)>0:=by
 have:nv l (GL l)=(l.1:Rat)*(l.1:Rat)+(l.2.1:Rat)*(l.2.1:Rat):=rfl
 rw [this]
 refine NX ?_
 rcases h with h|h
 ·exact .inr h
 ·left;intro e;apply h;show -(l.1:Rat)=0;rw [e];grind
theorem Eh {M:List L3}{l:L3}(hn:(aG l).1≠0\/(aG l).2≠0){x:V2}(hx:az l x.1 x.2=0)(h:∀m∈M,m≠l->az m x.1 x.2>0)(L:List L3)(hL:∀m∈L,az m x.1 x.2>0):∃q:V2,pos M q/\az l q.1 q.2>0/\pos L q:=by
 have h1:=IE hn
 obtain ⟨s,s0,hs⟩:=wR (((M.filter fun m=>decide (m≠l))++L).map fun m=>(az m x.1 x.2,nv m (GL l))) (fun y hy=>by
  obtain ⟨m,hm,rfl⟩:=List.mem_map.1 hy
  rcases List.mem_append.1 hm with hm|hm
  ·have:=List.mem_filter.1 hm
   exact h m this.1 (by simpa using this.2)
  ·exact hL m hm)
 have hl:az l (x.1+s*(GL l).1) (x.2+s*(GL l).2)>0:=by rw [il,hx];have:=mp s0 h1;grind
 refine ⟨(x.1+s*(GL l).1,x.2+s*(GL l).2),fun m hm=>?_,hl,fun m hm=>?_⟩
 ·by_cases e:m=l
  ·rw [e];exact hl
  ·rw [il]
   exact hs (az m x.1 x.2,nv m (GL l)) (List.mem_map.2 ⟨m,List.mem_append_left _ (List.mem_filter.2 ⟨hm,by simpa using e⟩),rfl⟩)
 ·rw [il]
  exact hs (az m x.1 x.2,nv m (GL l)) (List.mem_map.2 ⟨m,List.mem_append_right _ hm,rfl⟩)
theorem yY {M:List L3}{l:L3}(hno:∀x:V2,az l x.1 x.2=0->¬pos M x){q p:V2}(hq:pos M q)(hp:pos M p):az l q.1 q.2>0->az l p.1 p.2>0:=by
 intro h
 by_cases c:az l p.1 p.2>0
 ·exact c
 exfalso
 obtain ⟨t,t0,t1,e⟩:=xB (y:=(az l q.1 q.2,az l p.1 p.2)) h (s:=1) (by decide) (by unfold mx;grind)
 refine hno (q.1+t*(p.1-q.1),q.2+t*(p.2-q.2)) ?_ fun m hm=>?_
 ·rw [wY];exact e
 ·rw [wY];exact A6 (x:=(az m q.1 q.2,az m p.1 p.2)) (hq m hm) (hp m hm) t0 t1
end Go.Proofs.Tryz.aD
namespace Go.Proofs.Tryz
open Go.bo Go.eu
def Sp.nF (s:Sp)(t:Rat):Prop:=(s.a=true\/s.lo<t)/\(s.b=true\/t<s.hi)
def De (ss:List Sp)(t:Rat):Prop:=∃s∈ss,s.nF t
def Sp.nY (s:Sp):Prop:=s.can/\s.emp=false
def Sp.Ja (s t:Sp):Prop:=s.b=false/\t.a=false/\s.hi<t.lo
def DN (ss:List Sp):Prop:=(∀s∈ss,s.nY)/\ss.Pairwise Sp.Ja
theorem pick (E:List Rat):∀l u:Rat,l<u->∃t,l<t/\t<u/\t∉E:=by
 induction E with
 | nil=>exact fun l u h=>⟨(l+u) / 2,by grind,by grind,by simp⟩
 | cons e r ih=>
  intro l u h
  by_cases c:l<e/\e<u
  ·obtain ⟨t,h1,h2,h3⟩:=ih l e c.1
   refine ⟨t,h1,by grind,fun hm=>?_⟩
   rcases List.mem_cons.1 hm with rfl|hm
   ·grind
   ·exact h3 hm
  ·obtain ⟨t,h1,h2,h3⟩:=ih l u h
   refine ⟨t,h1,h2,fun hm=>?_⟩
   rcases List.mem_cons.1 hm with rfl|hm
   ·exact c ⟨h1,h2⟩
   ·exact h3 hm
theorem yN {s:Sp}(h:s.emp=false)(ha:s.a=false)(hb:s.b=false):s.lo<s.hi:=by
 rcases Sp.mI.1 h with h|h|h
 ·rw [ha] at h;cases h
 ·rw [hb] at h;cases h
 ·exact h
theorem DN.tail {s:Sp}{r:List Sp}(h:DN (s::r)):DN r:=⟨fun x hx=>h.1 x (by simp [hx]),(List.pairwise_cons.1 h.2).2⟩
theorem DN.Ja {s:Sp}{r:List Sp}(h:DN (s::r)){x:Sp}(hx:x∈r):s.Ja x:=(List.pairwise_cons.1 h.2).1 x hx
set_option linter.unusedSectionVars false
section
variable {s s':Sp} {r r':List Sp} {E:List Rat} (h:DN (s :: r)) (h':DN (s' :: r')) (e:∀t,t ∉ E->De (s :: r) t->De (s' :: r') t)
include h h' e
end
theorem Sp.ext' {s t:Sp}(h1:s.a=t.a)(h2:s.b=t.b)(h3:s.lo=t.lo)(h4:s.hi=t.hi):s=t:=by
 cases s;cases t;simp at *;exact ⟨h3,h4,h1,h2⟩
end Go.Proofs.Tryz
namespace Go.Proofs.Tryz
open Go.bo Go.eu
theorem row_one {α:Type}{sz:Nat}{R:View->Value->α->Prop}{V:View}{xs:List Value}{a:α}(hx:xs.length=sz)(ha:R V (.agg xs.toArray) a):Row sz R V xs [a]:=by
 refine ⟨fun i hi=>?_⟩
 obtain rfl:i=0:=by simpa using hi
 exact ⟨xs,hx,ha,fun j x hj=>by rw [Nat.zero_mul,Nat.zero_add];exact hj⟩
theorem Bl {α:Type}{sz:Nat}{R:View->Value->α->Prop}{V:View}{vs:List Value}{ls:List α}(h:Row sz R V vs ls){k:Nat}(hk:k<=ls.length){xs sp:List Value}{a:α}(hx:xs.length=sz)(ha:R V (.agg xs.toArray) a)(hs:0<sz) :
  Row sz R V (vs.take (k*sz)++(xs++(vs.take (ls.length*sz)).drop (k*sz))++sp) (ls.take k++a::ls.drop k):=by
 have hl:=h.jz hs
 have hks:k*sz<=ls.length*sz:=Nat.mul_le_mul_right _ hk
 have t1:(vs.take (k*sz)).length=k*sz:=by rw [List.length_take];omega
 have t2:((vs.take (ls.length*sz)).drop (k*sz)).length=ls.length*sz-k*sz:=by rw [List.length_drop,List.length_take];omega
 have a1:(ls.take k).length=k:=by rw [List.length_take];omega
 refine ⟨fun i hi=>?_⟩
 rw [List.append_assoc]
 by_cases c1:i<k
 ·have hi':i<ls.length:=by omega
  obtain ⟨ys,y1,y2,y3⟩:=h.at_ i hi'
  have e:(ls.take k++a::ls.drop k)[i]=ls[i]:=by rw [List.getElem_append_left (by omega),List.getElem_take]
  refine ⟨ys,y1,by rw [e];exact y2,fun j x hj=>?_⟩
  have hj':=(List.getElem?_eq_some_iff.1 hj).1
  have hlt:i*sz+j<k*sz:=by
   have:(i+1)*sz<=k*sz:=Nat.mul_le_mul_right _ c1
   rw [Nat.succ_mul] at this
   omega
  rw [List.getElem?_append_left (by omega),List.getElem?_take,if_pos hlt]
  exact y3 j x hj
 ·by_cases c2:i=k
  ·subst c2
   have e:(ls.take i++a::ls.drop i)[i]=a:=by
    rw [List.getElem_append_right (by omega)]
    simp [a1]
   refine ⟨xs,hx,by rw [e];exact ha,fun j x hj=>?_⟩
   have hj':=(List.getElem?_eq_some_iff.1 hj).1
   rw [List.getElem?_append_right (by omega),t1,Nat.add_sub_cancel_left,List.append_assoc,List.getElem?_append_left hj']
   exact hj
  ·have hi':i-1<ls.length:=by
    rw [List.length_append,a1,List.length_cons,List.length_drop] at hi
    omega
   obtain ⟨ys,y1,y2,y3⟩:=h.at_ (i-1) hi'
   have e:(ls.take k++a::ls.drop k)[i]=ls[i-1]:=by
    rw [List.getElem_append_right (by omega)]
    obtain ⟨m,hm⟩:∃m,i=k+(m+1):=⟨i-k-1,by omega⟩
    subst hm
    simp only [a1,Nat.add_sub_cancel_left,List.getElem_cons_succ,List.getElem_drop]
    congr 1
   refine ⟨ys,y1,by rw [e];exact y2,fun j x hj=>?_⟩
   have hj':=(List.getElem?_eq_some_iff.1 hj).1
   obtain ⟨m,hm⟩:∃m,i=k+1+m:=⟨i-k-1,by omega⟩
   subst hm
   have e1:(k+1+m)*sz=k*sz+sz+m*sz:=by rw [Nat.add_mul,Nat.add_mul,Nat.one_mul]
   have e2:(k+1+m-1)*sz=k*sz+m*sz:=by rw [show k+1+m-1=k+m by omega,Nat.add_mul]
   have:=y3 j x hj
   rw [e2] at this
   have hlt:k*sz+m*sz+j<ls.length*sz:=by
    have:(k+m+1)*sz<=ls.length*sz:=Nat.mul_le_mul_right _ (by omega)
    rw [Nat.add_mul,Nat.add_mul,Nat.one_mul] at this
    omega
   rw [List.getElem?_append_right (by omega),t1,List.append_assoc,List.getElem?_append_right (by omega),hx,List.getElem?_append_left (by omega),List.getElem?_drop,List.getElem?_take,if_pos (by omega)]
   rw [show k*sz+((k+1+m)*sz+j-k*sz-sz)=k*sz+m*sz+j by omega]
   exact this
theorem lT {α:Type}{sz:Nat}{R:View->Value->α->Prop}{V:View}{vs xs sp:List Value}{ls ms:List α}(h:Row sz R V vs ls)(h':Row sz R V xs ms)(hs:0<sz):Row sz R V (vs.take (ls.length*sz)++xs++sp) (ls++ms):=by
 have hl:=h.jz hs
 have hl':=h'.jz hs
 have ht:(vs.take (ls.length*sz)).length=ls.length*sz:=by rw [List.length_take];omega
 refine ⟨fun i hi=>?_⟩
 by_cases c:i<ls.length
 ·obtain ⟨ys,y1,y2,y3⟩:=h.at_ i c
  refine ⟨ys,y1,by rw [List.getElem_append_left c];exact y2,fun j x hj=>?_⟩
  have hj':=(List.getElem?_eq_some_iff.1 hj).1
  have hlt:i*sz+j<ls.length*sz:=by
   have:(i+1)*sz<=ls.length*sz:=Nat.mul_le_mul_right _ c
   rw [Nat.succ_mul] at this
   omega
  rw [List.append_assoc,List.getElem?_append_left (by omega),List.getElem?_take,if_pos hlt]
  exact y3 j x hj
 ·rw [List.length_append] at hi
  obtain ⟨m,rfl⟩:∃m,i=ls.length+m:=⟨i-ls.length,by omega⟩
  have hm:m<ms.length:=by omega
  obtain ⟨ys,y1,y2,y3⟩:=h'.at_ m hm
  refine ⟨ys,y1,?_,fun j x hj=>?_⟩
  ·have e:(ls++ms)[ls.length+m]=ms[m]:=by rw [List.getElem_append_right (by omega)];simp
   rw [e];exact y2
  ·have hj':=(List.getElem?_eq_some_iff.1 hj).1
   have hlt:m*sz+j<xs.length:=by
    have:(m+1)*sz<=ms.length*sz:=Nat.mul_le_mul_right _ hm
    rw [Nat.succ_mul] at this
    omega
   rw [List.append_assoc,List.getElem?_append_right (by rw [ht,Nat.add_mul];omega),ht,Nat.add_mul,List.getElem?_append_left (by omega)]
   rw [show ls.length*sz+m*sz+j-ls.length*sz=m*sz+j by omega]
   exact y3 j x hj
theorem wQ {α:Type}{sz:Nat}{R:View->Value->α->Prop}{V:View}{vs:List Value}{al:List α}(h:Row sz R V vs al)(hs:0<sz)(hc:∀xs a,R V (.agg (List.toArray xs)) a->∀v∈xs,v.oneCell'=true){m:Nat}(hm:m<al.length*sz){v:Value}(hv:vs[m]?=some v):v.oneCell'=true:=by
 have hi:m / sz<al.length:=Nat.div_lt_of_lt_mul (by rw [Nat.mul_comm];exact hm)
 obtain ⟨xs,hl,hx,hat⟩:=h.at_ (m / sz) hi
 have hlt:m%sz<xs.length:=by rw [hl];exact Nat.mod_lt _ hs
 have e3:m=m / sz*sz+m%sz:=by rw [Nat.mul_comm];exact (Nat.div_add_mod m sz).symm
 have:=hat (m%sz) _ (List.getElem?_eq_getElem hlt)
 rw [←e3,hv] at this
 obtain rfl:=Option.some.inj this
 exact hc xs _ hx _ (List.getElem_mem hlt)
theorem wW:Sz 2 (((2:Int):Rat)):=⟨by show (2:Int).natAbs<_;decide,by show (1:Nat)<_;decide⟩
theorem fW:Sz 2 (((1:Int):Rat)):=⟨by show (1:Int).natAbs<_;decide,by show (1:Nat)<_;decide⟩
theorem G_ {s:Sp}{k:Nat}(ss:s.sz k):Sz (2*k+10) s.dj:=by
 have z:Sz (2*k+10) (0:Rat):=⟨by show (0:Int).natAbs<_;exact Nat.lt_of_lt_of_le (by decide) (Nat.one_le_two_pow),Nat.one_lt_two_pow (by omega)⟩
 unfold Sp.dj
 split
 ·split
  ·exact z
  ·exact (ss.2.sub fW).mono (by omega)
 ·split
  ·exact (ss.1.add fW).mono (by omega)
  ·exact ((ss.1.add ss.2).mul (fK wW)).mono (by omega)
theorem I8.raw {V:View}{v:Value}{l:L3}{s:Sp}(h:I8 V v l s)(ho:PK l s){k:Nat}(sl:kU k l)(ss:s.sz k)(hk:k<=1000000):∃f:FW,Lw V v f/\f.ok=true/\f.ln=l/\f.sp=s/\f.short:=by
 obtain ⟨b1,p1,n1,c1,b2,p2,n2,c2,b3,p3,n3,c3,b,p,n,c,p',n',c',d,q,m,e,q',m',e',rfl,h1,h2⟩:=h
 obtain ⟨_,_,_,_,_,_,_,_,_,el,x1,x2,x3⟩:=h1
 have el:=congrArg Array.toList (Value.agg.inj el)
 simp only [List.cons.injEq,Value.bool.injEq,Value.slice.injEq,and_true] at el
 obtain ⟨rfl,⟨rfl,rfl,rfl⟩,rfl,⟨rfl,rfl,rfl⟩,rfl,rfl,rfl,rfl⟩:=el
 obtain ⟨_,_,_,_,_,_,_,_,_,_,_,_,_,_,es,y1,y2⟩:=h2
 have es:=congrArg Array.toList (Value.agg.inj es)
 simp only [List.cons.injEq,Value.bool.injEq,Value.slice.injEq,and_true] at es
 obtain ⟨rfl,⟨rfl,rfl,rfl⟩,⟨rfl,rfl,rfl⟩,rfl,⟨rfl,rfl,rfl⟩,⟨rfl,rfl,rfl⟩⟩:=es
 obtain ⟨ok,can,emp⟩:=ho
 obtain ⟨w1,us,vs,r1,o1,e1,z1⟩:=y1.raw can.1
 obtain ⟨w2,ws,ts,r2,o2,e2,z2⟩:=y2.raw can.2
 have i1:=r1
 have i2:=r2
 obtain ⟨_,_,_,_,_,_,f1,-,-⟩:=i1
 obtain ⟨_,_,_,_,_,_,f2,-,-⟩:=i2
 have f1:=congrArg Array.toList (Value.agg.inj f1)
 have f2:=congrArg Array.toList (Value.agg.inj f2)
 simp only [List.cons.injEq,Value.bool.injEq,Value.slice.injEq,and_true] at f1 f2
 obtain ⟨rfl,-⟩:=f1
 obtain ⟨rfl,-⟩:=f2
 have len:∀{z:Int},Sz k (z:Rat)->(af z.natAbs).length<=1000000:=fun h=>Nat.le_trans (ag h.1) hk
 have d1:=z1 k ss.1
 have d2:=z2 k ss.2
 refine ⟨⟨decide (l.1<0),af l.1.natAbs,decide (l.2.1<0),af l.2.1.natAbs,decide (l.2.2<0),af l.2.2.natAbs,b,us,vs,d,ws,ts,s.a,s.b⟩,⟨_,_,_,_,_,_,_,_,_,_,_,_,_,_,_,_,_,_,_,_,_,rfl,⟨_,_,_,_,_,_,_,_,_,rfl,x1,x2,x3⟩,⟨_,_,_,_,_,_,_,_,_,_,_,_,rfl,r1,r2⟩⟩,?_,?_,?_,⟨len sl.1,len sl.2.1,len sl.2.2,Nat.le_trans d1.1 hk,Nat.le_trans d1.2 hk,Nat.le_trans d2.1 hk,Nat.le_trans d2.2 hk⟩⟩
 ·have e3:K5 b us vs d ws ts s.a s.b=s:=by unfold K5;rw [e1,e2]
  unfold FW.ok okW
  dsimp only
  rw [yX,o1,o2,e3,emp]
  show fV l&&true=true
  rw [ok];rfl
 ·unfold FW.ln Ps
  dsimp only
  rw [aF,aF,aF]
 ·unfold FW.sp K5
  dsimp only
  rw [e1,e2]
theorem wu {c:List Rat}{i:Nat}(h:i<c.length):c.getD i 0=c[i]:=by rw [List.getD_eq_getElem?_getD,List.getElem?_eq_getElem h];rfl
theorem IQ {V:View}{vs:List Value}{qs:List Rat}(h:Row 3 RQ V vs qs){i:Nat}(hi:i<qs.length):∃b p1 n1 c1 p2 n2 c2,i*3+3<=vs.length/\(vs.drop (i*3)).take 3=[.bool b,.slice p1 n1 c1,.slice p2 n2 c2]/\RQ V (.agg #[.bool b,.slice p1 n1 c1,.slice p2 n2 c2]) qs[i]:=by
 obtain ⟨xs,-,hq,hc⟩:=h.at_ i hi
 have hq0:=hq
 obtain ⟨p1,n1,c1,p2,n2,c2,e⟩:=hq.shape
 have e:=congrArg Array.toList (Value.agg.inj e)
 dsimp only at e
 subst e
 have a0:=hc 0 _ rfl
 have a1:=hc 1 _ rfl
 have a2:=hc 2 _ rfl
 have hl:=(List.getElem?_eq_some_iff.1 a2).1
 refine ⟨_,p1,n1,c1,p2,n2,c2,by omega,?_,hq0⟩
 apply List.ext_getElem?
 intro j
 rw [List.getElem?_take]
 by_cases h0:j<3
 ·rw [if_pos h0,List.getElem?_drop]
  have:j=0\/j=1\/j=2:=by omega
  rcases this with rfl|rfl|rfl
  ·exact a0
  ·exact a1
  ·exact a2
 ·rw [if_neg h0,List.getElem?_eq_none (by simp;omega)]
theorem bY {V:View}{vs:List Value}{qs:List Rat}(h:Row 3 RQ V vs qs){m:Nat}(hm:m<qs.length*3){v:Value}(hv:vs[m]?=some v):v.oneCell'=true:=by
 have hi:m / 3<qs.length:=by omega
 obtain ⟨b,p1,n1,c1,p2,n2,c2,hl,e,-⟩:=IQ h hi
 have e3:m=m / 3*3+m%3:=by omega
 have hlt:m%3<3:=Nat.mod_lt _ (by decide)
 have:((vs.drop (m / 3*3)).take 3)[m%3]?=some v:=by
  rw [List.getElem?_take,if_pos hlt,List.getElem?_drop,←e3];exact hv
 rw [e] at this
 have hj:m%3=0\/m%3=1\/m%3=2:=by omega
 rcases hj with hj|hj|hj<;>rw [hj] at this<;>cases this<;>rfl
def fS (cuts:List Rat)(i:Nat):Sp:=⟨if 0<i then cuts.getD (i-1) 0 else 0,if i<cuts.length then cuts.getD i 0 else 0,decide (i=0),decide (i=cuts.length)⟩
def EK (out:List Sp)(s:Sp):List Sp:=out.dropLast++[⟨(out.getLastD Sp.zero).lo,s.hi,(out.getLastD Sp.zero).a,s.b⟩]
def eN (cuts:List Rat)(marks:List Bool):Nat->List Sp
 | 0=>[]
 | i+1=>if marks.getD i false=true then (if 0<i/\marks.getD (i-1) false=true/\0<(eN cuts marks i).length then EK (eN cuts marks i) (fS cuts i) else eN cuts marks i++[fS cuts i]) else eN cuts marks i
end Go.Proofs.Tryz
namespace Go.Proofs.Tryz
open Go.bo Go.eu
set_option linter.unusedSectionVars false
def p_ (c:List Rat):Prop:=c.Pairwise (·< ·)
section
variable {c:List Rat} (h:p_ c)
include h
theorem vR {i j:Nat}(Ie:i<j)(hj:j<c.length):c.getD i 0<c.getD j 0:=by
 rw [wu (by omega),wu hj]
 exact List.pairwise_iff_getElem.1 h i j (by omega) hj Ie
omit h
include h
theorem Ej {i:Nat}(hi:i<=c.length):(fS c i).nY:=by
 refine ⟨⟨fun e=>?_,fun e=>?_⟩,Sp.mI.2 ?_⟩
 ·have e:i=0:=of_decide_eq_true e
  subst e;rfl
 ·have e:i=c.length:=of_decide_eq_true e
  subst e
  exact if_neg (Nat.lt_irrefl _)
 ·by_cases h0:i=0
  ·exact .inl (decide_eq_true h0)
  ·by_cases h1:i=c.length
   ·exact .inr (.inl (decide_eq_true h1))
   ·refine .inr (.inr ?_)
    show (if 0<i then c.getD (i-1) 0 else 0)<(if i<c.length then c.getD i 0 else 0)
    rw [if_pos (by omega),if_pos (by omega)]
    exact vR h (by omega) (by omega)
omit h
end
section
variable {c:List Rat} {ms:List Bool}
structure FI (c:List Rat) (ms:List Bool) (i:Nat):Prop where
 r:DN (eN c ms i)
 mem:∀t,t∉c->(De (eN c ms i) t↔∃j,j<i/\ms.getD j false=true/\(fS c j).nF t)
 top:0<i->i<=c.length->∀s∈eN c ms i,s.b=false/\s.hi<=c.getD (i-1) 0
 str:0<i->i<=c.length->ms.getD (i-1) false=false->∀s∈eN c ms i,s.hi<c.getD (i-1) 0
 last:0<i->i<=c.length->ms.getD (i-1) false=true->∃l0 l,eN c ms i=l0++[l]/\l.hi=c.getD (i-1) 0
theorem oe {ss:List Sp}{s:Sp}{t:Rat}:De (ss++[s]) t↔De ss t\/s.nF t:=by
 unfold De
 constructor
 ·rintro ⟨x,hx,hi⟩
  rcases List.mem_append.1 hx with hx|hx
  ·exact .inl ⟨x,hx,hi⟩
  ·obtain rfl:x=s:=by simpa using hx
   exact .inr hi
 ·rintro (⟨x,hx,hi⟩|hi)
  ·exact ⟨x,by simp [hx],hi⟩
  ·exact ⟨s,by simp,hi⟩
theorem zm {ss:List Sp}{s:Sp}(h:DN ss)(hs:s.nY)(hb:∀x∈ss,x.Ja s):DN (ss++[s]):=by
 refine ⟨fun x hx=>?_,List.pairwise_append.2 ⟨h.2,by simp,fun x hx y hy=>?_⟩⟩
 ·rcases List.mem_append.1 hx with hx|hx
  ·exact h.1 x hx
  ·obtain rfl:x=s:=by simpa using hx
   exact hs
 ·obtain rfl:y=s:=by simpa using hy
  exact hb x hx
theorem Fp {ss:List Sp}{s:Sp}(h:DN (ss++[s])):DN ss/\s.nY/\∀x∈ss,x.Ja s:=by
 obtain ⟨h1,-,h3⟩:=List.pairwise_append.1 h.2
 exact ⟨⟨fun x hx=>h.1 x (by simp [hx]),h1⟩,h.1 s (by simp),fun x hx=>h3 x hx s (by simp)⟩
theorem wq {P:Nat->Prop}{i:Nat}:(∃j,j<i+1/\P j)↔(∃j,j<i/\P j)\/P i:=by
 constructor
 ·rintro ⟨j,hj,hp⟩
  rcases Nat.lt_or_ge j i with h|h
  ·exact .inl ⟨j,h,hp⟩
  ·obtain rfl:j=i:=by omega
   exact .inr hp
 ·rintro (⟨j,hj,hp⟩|hp)
  ·exact ⟨j,by omega,hp⟩
  ·exact ⟨i,by omega,hp⟩
theorem Gh (h:p_ c){i:Nat}(hi:i<=c.length)(F:FI c ms i):FI c ms (i+1):=by
 have hg:=Ej h hi
 have LH:i<c.length->(fS c i).hi=c.getD i 0:=fun h0=>if_pos h0
 have LI:0<i->(fS c i).lo=c.getD (i-1) 0:=fun h0=>if_pos h0
 have ga:0<i->(fS c i).a=false:=fun h0=>decide_eq_false (by omega)
 have gb:i<c.length->(fS c i).b=false:=fun h0=>decide_eq_false (by omega)
 by_cases hm:ms.getD i false=true
 ·have hne:¬ms.getD i false=false:=by rw [hm];decide
  by_cases h0:0<i/\ms.getD (i-1) false=true
  ·obtain ⟨l0,l,el,hl⟩:=F.last h0.1 hi h0.2
   have e:eN c ms (i+1)=l0++[⟨l.lo,(fS c i).hi,l.a,(fS c i).b⟩]:=by
    rw [eN,if_pos hm,if_pos ⟨h0.1,h0.2,by rw [el];simp⟩,el]
    simp [EK]
   have F1:=F.r
   rw [el] at F1
   obtain ⟨f1,f2,f3⟩:=Fp F1
   have hlb:l.b=false:=(F.top h0.1 hi l (by rw [el];simp)).1
   have hgood:(⟨l.lo,(fS c i).hi,l.a,(fS c i).b⟩:Sp).nY:=by
    refine ⟨⟨f2.1.1,hg.1.2⟩,Sp.mI.2 ?_⟩
    dsimp only
    cases ha:l.a with
    | true=>exact .inl rfl
    | false=>
     cases hb:(fS c i).b with
     | true=>exact .inr (.inl rfl)
     | false=>
      have h1:=yN f2.2 ha hlb
      have h2:=yN hg.2 (ga h0.1) hb
      rw [LI h0.1] at h2
      exact .inr (.inr (by grind))
   refine ⟨?_,fun t ht=>?_,fun _ hi1 s hs=>?_,fun _ hi1 hx=>?_,fun _ hi1 _=>?_⟩
   ·rw [e]
    exact zm f1 hgood fun x hx=>⟨(f3 x hx).1,(f3 x hx).2.1,(f3 x hx).2.2⟩
   ·rw [e,wq,←F.mem t ht,oe,el,oe,or_assoc]
    refine or_congr Iff.rfl ?_
    have hk:(fS c i).nF t↔c.getD (i-1) 0<t/\((fS c i).b=true\/t<(fS c i).hi):=by
     unfold Sp.nF;rw [ga h0.1,LI h0.1];simp
    have hne':t≠c.getD (i-1) 0:=by
     rintro rfl
     rw [wu (by omega)] at ht
     exact ht (List.getElem_mem _)
    rw [hk]
    show (l.a=true\/l.lo<t)/\((fS c i).b=true\/t<(fS c i).hi)↔((l.a=true\/l.lo<t)/\(l.b=true\/t<l.hi))\/_
    rw [hl,hlb]
    have h1:l.a=true\/l.lo<c.getD (i-1) 0:=by
     cases ha:l.a with
     | true=>exact .inl rfl
     | false=>have:=yN f2.2 ha hlb;rw [hl] at this;exact .inr this
    have h2:(fS c i).b=true\/c.getD (i-1) 0<(fS c i).hi:=by
     cases hb:(fS c i).b with
     | true=>exact .inl rfl
     | false=>have:=yN hg.2 (ga h0.1) hb;rw [LI h0.1] at this;exact .inr this
    constructor
    ·rintro ⟨g1,g2⟩
     by_cases g:t<c.getD (i-1) 0
     ·exact .inl ⟨g1,.inr g⟩
     ·exact .inr ⟨hm,by grind,g2⟩
    ·rintro (⟨g1,g2⟩|⟨-,g1,g2⟩)
     ·have g3:t<c.getD (i-1) 0:=by
       rcases g2 with g2|g2
       ·cases g2
       ·exact g2
      exact ⟨g1,h2.imp_right fun h2=>by grind⟩
     ·exact ⟨h1.imp_right fun h1=>by grind,g2⟩
   ·rw [e] at hs
    rw [Nat.add_sub_cancel]
    rcases List.mem_append.1 hs with hs|hs
    ·have b:=f3 s hs
     refine ⟨b.1,?_⟩
     have h1:l.lo<c.getD (i-1) 0:=by have:=yN f2.2 b.2.1 hlb;rwa [hl] at this
     have h2:=vR h (show i-1<i by omega) hi1
     have:=b.2.2
     grind
    ·obtain rfl:s=_:=by simpa using hs
     refine ⟨gb hi1,?_⟩
     show (fS c i).hi<=_
     rw [LH hi1];grind
   ·rw [Nat.add_sub_cancel] at hx;exact absurd hx hne
   ·rw [Nat.add_sub_cancel]
    exact ⟨l0,_,e,LH hi1⟩
  ·have e:eN c ms (i+1)=eN c ms i++[fS c i]:=by
    rw [eN,if_pos hm,if_neg (fun g=>h0 ⟨g.1,g.2.1⟩)]
   have hb:∀x∈eN c ms i,x.Ja (fS c i):=fun x hx=>by
    by_cases hz:0<i
    ·have Q_:ms.getD (i-1) false=false:=by
      cases hq:ms.getD (i-1) false with
      | false=>rfl
      | true=>exact absurd ⟨hz,hq⟩ h0
     exact ⟨(F.top hz hi x hx).1,ga hz,by rw [LI hz];exact F.str hz hi Q_ x hx⟩
    ·obtain rfl:i=0:=by omega
     cases hx
   refine ⟨?_,fun t ht=>?_,fun _ hi1 s hs=>?_,fun _ hi1 hx=>?_,fun _ hi1 _=>?_⟩
   ·rw [e];exact zm F.r hg hb
   ·rw [e,wq,←F.mem t ht,oe]
    exact or_congr Iff.rfl ⟨fun g=>⟨hm,g⟩,fun g=>g.2⟩
   ·rw [e] at hs
    rw [Nat.add_sub_cancel]
    rcases List.mem_append.1 hs with hs|hs
    ·refine ⟨(hb s hs).1,?_⟩
     by_cases hz:0<i
     ·have h1:=(F.top hz hi s hs).2
      have h2:=vR h (show i-1<i by omega) hi1
      grind
     ·obtain rfl:i=0:=by omega
      cases hs
    ·obtain rfl:s=_:=by simpa using hs
     refine ⟨gb hi1,?_⟩
     rw [LH hi1];grind
   ·rw [Nat.add_sub_cancel] at hx;exact absurd hx hne
   ·rw [Nat.add_sub_cancel]
    exact ⟨_,_,e,LH hi1⟩
 ·have e:eN c ms (i+1)=eN c ms i:=by rw [eN,if_neg hm]
  have hlt:i<c.length->∀s∈eN c ms i,s.b=false/\s.hi<c.getD i 0:=fun hi1 s hs=>by
   by_cases hz:0<i
   ·obtain ⟨h1,h2⟩:=F.top hz hi s hs
    have h3:=vR h (show i-1<i by omega) hi1
    exact ⟨h1,by grind⟩
   ·obtain rfl:i=0:=by omega
    cases hs
  refine ⟨by rw [e];exact F.r,fun t ht=>?_,fun _ hi1 s hs=>?_,fun _ hi1 hx s hs=>?_,fun _ hi1 hx=>?_⟩
  ·rw [e,wq,F.mem t ht]
   exact ⟨.inl,fun g=>g.elim id fun g=>absurd g.1 hm⟩
  ·rw [e] at hs
   rw [Nat.add_sub_cancel]
   obtain ⟨h1,h2⟩:=hlt hi1 s hs
   exact ⟨h1,by grind⟩
  ·rw [e] at hs
   rw [Nat.add_sub_cancel]
   exact (hlt hi1 s hs).2
  ·rw [Nat.add_sub_cancel] at hx;exact absurd hx hm
theorem fi (h:p_ c):∀{i:Nat},i<=c.length+1->FI c ms i:=by
 intro i
 induction i with
 | zero=>exact fun _=>⟨⟨(fun _ h=>by cases h),List.Pairwise.nil⟩,(fun t _=>⟨(fun ⟨_,h,_⟩=>by cases h),(fun ⟨_,h,_⟩=>absurd h (Nat.not_lt_zero _))⟩),(fun h=>absurd h (Nat.lt_irrefl _)),(fun h=>absurd h (Nat.lt_irrefl _)),(fun h=>absurd h (Nat.lt_irrefl _))⟩
 | succ i ih=>exact fun hi=>Gh h (by omega) (ih (by omega))
end
end Go.Proofs.Tryz
namespace Go.Proofs.Tryz
open Go.bo Go.eu
theorem yR {s u:Sp}{t:Rat}:(s.meet u).nF t↔s.nF t/\u.nF t:=by
 have h1:A2 s.lo u.lo<t↔s.lo<t/\u.lo<t:=by
  unfold A2
  rcases wi u.lo s.lo with ⟨h,e⟩|⟨h,e⟩|⟨h,e⟩<;>rw [e]<;>simp<;>grind
 have h2:t<A5 s.hi u.hi↔t<s.hi/\t<u.hi:=by
  unfold A5
  rcases wi u.hi s.hi with ⟨h,e⟩|⟨h,e⟩|⟨h,e⟩<;>rw [e]<;>simp<;>grind
 unfold Sp.nF Sp.meet
 cases s.a<;>cases s.b<;>cases u.a<;>cases u.b<;>simp [h1,h2]<;>grind
theorem vS {l:L3}(h:Nz l)(t:Rat):az l (jV l t) (jW l t)=0/\Fc l (jV l t) (jW l t)=t:=by
 have hn:=h.norm
 have hi:=Rat.mul_inv_cancel _ hn
 unfold az Fc jV jW
 unfold ic at *
 constructor<;>grind
theorem B0 (l:L3):jT (jT l)=jT l:=by
 unfold jT
 by_cases h:l.1<0\/l.1=0/\l.2.1<0
 ·rw [if_pos h,if_neg]
  unfold jI
  dsimp only
  omega
 ·rw [if_neg h,if_neg h]
theorem E3 {l:L3}(h:fV l=true):fV (jT l)=true:=by
 unfold jT
 split
 ·unfold fV jI fH at *
  simp only [Int.natAbs_neg]
  rw [Bool.and_eq_true,decide_eq_true_iff,decide_eq_true_iff] at h ⊢
  exact ⟨fun e=>h.1 ⟨by omega,by omega⟩,h.2⟩
 ·exact h
theorem o_ {l:L3}(h:fV l=true):¬(l.1=0/\l.2.1=0):=by
 unfold fV at h
 rw [Bool.and_eq_true,decide_eq_true_iff] at h
 exact h.1
theorem wo {s:Sp}:s.emp=false↔∃t,s.nF t:=by
 constructor
 ·intro h
  obtain ⟨h1,h2⟩:=Sp.Cq h
  refine ⟨s.dj,?_,?_⟩
  ·cases ha:s.a
   ·exact .inr (h1 ha)
   ·exact .inl rfl
  ·cases hb:s.b
   ·exact .inr (h2 hb)
   ·exact .inl rfl
 ·rintro ⟨t,h1,h2⟩
  rw [Sp.mI]
  rcases h1 with h1|h1
  ·exact .inl h1
  ·rcases h2 with h2|h2
   ·exact .inr (.inl h2)
   ·exact .inr (.inr (by grind))
theorem mF {l:L3}{s:Sp}{m:L3} :
  (eK l s m=true->∀t,(eL l s m).nF t↔s.nF t/\0<az m (jV l t) (jW l t))/\(s.emp=false->eK l s m=false->∀t,s.nF t->¬0<az m (jV l t) (jW l t)):=by
 have key:jv m l≠0->∀t,(eL l s m).nF t↔s.nF t/\0<jZ m l+jv m l*t:=fun hd t=>by
  have hi:=Rat.mul_inv_cancel _ hd
  unfold eL
  rcases qh (jv m l) with ⟨h,e⟩|⟨h,e⟩|⟨h,e⟩
  ·exact absurd h hd
  ·rw [e]
   show (s.meet ⟨fF m l,0,false,true⟩).nF t↔_
   rw [yR]
   have e2:jv m l*(t-fF m l)=jZ m l+jv m l*t:=by unfold fF;grind
   have:(⟨fF m l,0,false,true⟩:Sp).nF t↔fF m l<t:=by unfold Sp.nF;simp
   rw [this,←e2]
   refine and_congr_right fun _=>⟨fun h'=>Rat.mul_pos h (by grind),fun h'=>?_⟩
   by_cases c:fF m l<t
   ·exact c
   ·have:=Rat.mul_nonneg (show 0<=jv m l by grind) (show 0<=fF m l-t by grind)
    grind
  ·rw [e]
   show (s.meet ⟨0,fF m l,true,false⟩).nF t↔_
   rw [yR]
   have e2:-jv m l*(fF m l-t)=jZ m l+jv m l*t:=by unfold fF;grind
   have:(⟨0,fF m l,true,false⟩:Sp).nF t↔t<fF m l:=by unfold Sp.nF;simp
   rw [this,←e2]
   refine and_congr_right fun _=>⟨fun h'=>Rat.mul_pos (by grind) (by grind),fun h'=>?_⟩
   by_cases c:t<fF m l
   ·exact c
   ·have:=Rat.mul_nonneg (show 0<=-jv m l by grind) (show 0<=t-fF m l by grind)
    grind
 by_cases hd:jv m l=0
 ·have ec:eL l s m=s:=by unfold eL;rw [hd];rfl
  have eb:eK l s m=decide ((jZ m l).num.sign>0):=by unfold eK;rw [hd];rfl
  constructor
  ·intro hb t
   rw [ec,wX,hd]
   rw [eb] at hb
   have hb:(jZ m l).num.sign>0:=by simpa using hb
   have:0<jZ m l:=by
    rcases qh (jZ m l) with ⟨h,e⟩|⟨h,e⟩|⟨h,e⟩
    ·omega
    ·exact h
    ·omega
   exact ⟨fun h=>⟨h,by grind⟩,fun h=>h.1⟩
  ·intro _ hb t _ hp
   rw [wX,hd] at hp
   rw [eb] at hb
   have hb:¬(jZ m l).num.sign>0:=by simpa using hb
   rcases qh (jZ m l) with ⟨h,e⟩|⟨h,e⟩|⟨h,e⟩
   ·grind
   ·omega
   ·grind
 ·have eb:eK l s m=!(eL l s m).emp:=by
   unfold eK
   rcases qh (jv m l) with ⟨h,e⟩|⟨h,e⟩|⟨h,e⟩
   ·exact absurd h hd
   ·rw [e];rfl
   ·rw [e];rfl
  constructor
  ·intro _ t
   rw [wX];exact key hd t
  ·intro _ hb t ht hp
   rw [wX] at hp
   rw [eb] at hb
   have:=wo.2 ⟨t,(key hd t).2 ⟨ht,hp⟩⟩
   rw [this] at hb;cases hb
theorem qL {l:L3}{s:Sp}{m:L3}(hs:s.nY)(hb:eK l s m=true):(eL l s m).nY:=⟨Eb hs.1,Ea hs.2 hb⟩
abbrev Sd:=L3×Sp
def cB:List Sd->L3->Sp->Option Sp
 | [],_,v=>some v
 | s::c,l,v=>if eK l v s.1 then cB c l (eL l v s.1) else none
theorem vr:∀{c:List Sd} {l:L3} {v w:Sp},v.nY->cB c l v=some w->w.nY/\∀t,w.nF t↔v.nF t/\∀s∈c,0<az s.1 (jV l t) (jW l t)
 | [],_,v,w,h,e=>by cases e;exact ⟨h,fun t=>⟨fun g=>⟨g,fun s hs=>by cases hs⟩,fun g=>g.1⟩⟩
 | s::c,l,v,w,h,e=>by
  unfold cB at e
  split at e
  ·rename_i hb
   obtain ⟨g1,g2⟩:=vr (qL h hb) e
   refine ⟨g1,fun t=>?_⟩
   rw [g2,(mF.1 hb t)]
   simp only [List.forall_mem_cons,and_assoc]
  ·cases e
theorem vq:∀{c:List Sd} {l:L3} {v:Sp},v.nY->cB c l v=none->∀t,v.nF t->¬∀s∈c,0<az s.1 (jV l t) (jW l t)
 | [],_,v,h,e=>by cases e
 | s::c,l,v,h,e=>by
  intro t ht hall
  unfold cB at e
  split at e
  ·rename_i hb
   exact vq (qL h hb) e t ((mF.1 hb t).2 ⟨ht,hall s (List.mem_cons_self ..)⟩) fun u hu=>hall u (List.mem_cons_of_mem _ hu)
  ·rename_i hb
   exact mF.2 h.2 (by simpa using hb) t ht (hall s (List.mem_cons_self ..))
theorem qI (l:L3):jT l=l\/jT l=jI l:=by unfold jT;split;exact .inr rfl;exact .inl rfl
theorem rev_rev (l:L3):jI (jI l)=l:=by unfold jI;simp
theorem B6 (l:L3):aD.aG (jI l)=(-(aD.aG l).1,-(aD.aG l).2):=by unfold aD.aG jI;simp only [Rat.intCast_neg]
theorem GM {l:L3}(h:fV l=true):(aD.aG l).1≠0\/(aD.aG l).2≠0:=by
 have:=o_ h
 unfold aD.aG
 by_cases e:l.2.1=0
 ·right;intro e'
  have:(l.1:Rat)=0:=by grind
  exact o_ h ⟨by exact_mod_cast this,e⟩
 ·left;show (l.2.1:Rat)≠0;exact_mod_cast e
theorem HF {l m:L3}(ol:fV l=true)(om:fV m=true){p:aD.V2}(h1:az l p.1 p.2=0)(h2:az m p.1 p.2=0)(hc:aD.cr (aD.aG l) (aD.aG m)=0):l=m\/l=jI m:=by
 have vz:∀{x:L3},az x p.1 p.2=0->az (jT x) p.1 p.2=0:=fun {x} h=>by
  rcases qI x with e|e<;>rw [e]
  ·exact h
  ·rw [val_rev];grind
 have c0:aD.cr (aD.aG (jT l)) (aD.aG (jT m))=0:=by
  unfold aD.cr at *
  rcases qI l with e|e<;>rcases qI m with e'|e'<;>rw [e,e']<;>(try rw [B6 l])<;>(try rw [B6 m])<;>(try dsimp only)<;>grind
 have:=aD.Dw (E3 ol) (E3 om) (B0 l) (B0 m) (vz h1) (vz h2) c0
 rcases qI l with e|e<;>rcases qI m with e'|e'<;>rw [e,e'] at this
 ·exact .inl this
 ·exact .inr this
 ·right;rw [←this,rev_rev]
 ·left;have:=congrArg jI this;rwa [rev_rev,rev_rev] at this
theorem H4 {M:List L3}(hk:∀m∈M,fV m=true){q:aD.V2}(hq:aD.pos M q):aD.Og M:=by
 intro l hl m hm hne p h1 h2 hc
 rcases HF (hk l hl) (hk m hm) h1 h2 hc with e|e
 ·exact hne e
 ·have a:=hq l hl
  have b:=hq m hm
  rw [e,val_rev] at a
  grind
theorem Cl {l:L3}(h:Nz l){x y:Rat}(hp:az l x y=0):∃t,x=jV l t/\y=jW l t:=by
 have hi:=Rat.mul_inv_cancel _ h.norm
 unfold az at hp
 refine ⟨Fc l x y,?_,?_⟩
 ·unfold jV Fc ic at *;grind
 ·unfold jW Fc ic at *;grind
def cu:Sp:=⟨0,0,true,true⟩
theorem vd:cu.nY:=⟨⟨fun _=>rfl,fun _=>rfl⟩,rfl⟩
theorem yy (t:Rat):cu.nF t:=⟨.inl rfl,.inl rfl⟩
structure iI (M:List L3) (c:List Sd):Prop where
 pos:∃q,aD.pos M q
 mem:∀s∈c,s.1∈M/\s.2.nY/\∀t,s.2.nF t↔∀m∈M,m≠s.1->0<az m (jV s.1 t) (jW s.1 t)
 all:∀l∈M,aD.Es M l->∃v,(l,v)∈c
 p_:c.Pairwise fun s u=>aD.iq (aD.aG s.1) (aD.aG u.1)<0
def kf (x:Sd):List Sd->List Sd
 | []=>[x]
 | s::r=>if aD.iq (aD.aG s.1) (aD.aG x.1)<0 then s::kf x r else x::s::r
def jU (c:List Sd)(l:L3):List Sd:=c.filterMap fun s=>if eK s.1 s.2 l then some (s.1,eL s.1 s.2 l) else none
def dF:List Sd->L3->Int
 | [],_=>-1
 | s::c,l=>if (az l (jV s.1 s.2.dj) (jW s.1 s.2.dj)).num.sign≠0 then (az l (jV s.1 s.2.dj) (jW s.1 s.2.dj)).num.sign else if s.1=l then 1 else dF c l
def fa (c:List Sd)(l:L3):Option (List Sd):=
 match cB c l cu with
 | some v=>some (kf (l,v) (jU c l))
 | none=>if 0<dF c l then some c else none
theorem kg {x y:Sd}:∀{r:List Sd},y∈kf x r↔y=x\/y∈r
 | []=>by simp [kf]
 | s::r=>by
  unfold kf
  split
  ·rw [List.mem_cons,kg,List.mem_cons];exact or_left_comm
  ·rw [List.mem_cons]
theorem BU {a b d:aD.V2}(h:aD.iq a b<0)(h':aD.iq b d<0):aD.iq a d<0:=by
 by_cases q:aD.iq a d<0
 ·exact q
 ·exact absurd h (aD.HX _ _ _ q (aD.F2 _ _ h'))
theorem yJ {x:Sd}:∀{r:List Sd},(r.Pairwise fun s u=>aD.iq (aD.aG s.1) (aD.aG u.1)<0)->(∀s∈r,aD.iq (aD.aG s.1) (aD.aG x.1)≠0)->(kf x r).Pairwise fun s u=>aD.iq (aD.aG s.1) (aD.aG u.1)<0
 | [],_,_=>List.pairwise_singleton ..
 | s::r,h,hn=>by
  obtain ⟨h1,h2⟩:=List.pairwise_cons.1 h
  unfold kf
  split
  ·rename_i hs
   refine List.pairwise_cons.2 ⟨fun y hy=>?_,yJ h2 fun u hu=>hn u (List.mem_cons_of_mem _ hu)⟩
   rcases kg.1 hy with rfl|hy
   ·exact hs
   ·exact h1 y hy
  ·rename_i hs
   have hx:aD.iq (aD.aG x.1) (aD.aG s.1)<0:=by
    rcases aD.HW (aD.aG s.1) (aD.aG x.1) with g|g|g
    ·exact absurd g hs
    ·exact absurd g (hn s (List.mem_cons_self ..))
    ·exact g
   refine List.pairwise_cons.2 ⟨fun y hy=>?_,h⟩
   rcases List.mem_cons.1 hy with rfl|hy
   ·exact hx
   ·exact BU hx (h1 y hy)
theorem yn {c:List Sd}{l:L3}{y:Sd}:y∈jU c l↔∃s∈c,eK s.1 s.2 l=true/\y=(s.1,eL s.1 s.2 l):=by
 unfold jU
 rw [List.mem_filterMap]
 constructor
 ·rintro ⟨s,hs,e⟩
  split at e
  ·rename_i hb;cases e;exact ⟨s,hs,hb,rfl⟩
  ·cases e
 ·rintro ⟨s,hs,hb,rfl⟩
  exact ⟨s,hs,by rw [if_pos hb]⟩
theorem ym {c:List Sd}{l:L3}(h:c.Pairwise fun s u=>aD.iq (aD.aG s.1) (aD.aG u.1)<0):(jU c l).Pairwise fun s u=>aD.iq (aD.aG s.1) (aD.aG u.1)<0:=by
 unfold jU
 refine List.Pairwise.filterMap _ ?_ h
 intro a b tG x hx y hy
 split at hx
 ·split at hy
  ·cases hx;cases hy;exact tG
  ·cases hy
 ·cases hx
theorem Fe {l s:L3}(hl:aD.nz (aD.aG s))(h:aD.iq (aD.aG s) (aD.aG l)=0){p r:aD.V2}(p0:az l p.1 p.2=0)(p1:0<az s p.1 p.2)(r0:az s r.1 r.2=0)(r1:0<az l r.1 r.2):False:=by
 obtain ⟨c,c0,e⟩:=aD.DU hl h
 have e1:(s.2.1:Rat)=c*(l.2.1:Rat):=congrArg Prod.fst e
 have e2:-(s.1:Rat)=c*-(l.1:Rat):=congrArg Prod.snd e
 have e2:(s.1:Rat)=c*(l.1:Rat):=by grind
 have key:∀x:aD.V2,az s x.1 x.2=c*(az l x.1 x.2-(l.2.2:Rat))+(s.2.2:Rat):=fun x=>by unfold az;rw [e1,e2];grind
 have k:=aD.mp c0 r1
 rw [key] at p1 r0
 rw [p0] at p1
 generalize az l r.1 r.2=z at *
 grind
section
variable {M:List L3} {c:List Sd} (h:iI M c) (hk:∀m ∈ M,fV m=true)
include h hk
theorem iI.int {p:aD.V2}(hp:∀s∈c,0<az s.1 p.1 p.2):aD.pos M p:=by
 obtain ⟨q,hq⟩:=h.pos
 refine aD.QA (H4 hk hq) (fun m hm=>GM (hk m hm)) hq fun m hm he=>?_
 obtain ⟨v,hv⟩:=h.all m hm he
 exact hp _ hv
theorem CV {l:L3}(hl:fV l=true){v:Sp}(e:cB c l cu=some v):iI (l::M) (kf (l,v) (jU c l)):=by
 have hN:Nz l:=o_ hl
 obtain ⟨gv,hv⟩:=vr vd e
 have qZ:∀t,v.nF t↔aD.pos M (jV l t,jW l t):=fun t=>⟨fun g=>h.int hk ((hv t).1 g).2,fun g=>(hv t).2 ⟨yy t,fun s hs=>g s.1 (h.mem s hs).1⟩⟩
 obtain ⟨t0,ht0⟩:=wo.1 gv.2
 have p0:=(qZ t0).1 ht0
 have z0:=(vS hN t0).1
 have lM:l∉M:=fun hm=>by have:=p0 l hm;dsimp only at this;grind
 have ne:∀m∈M,m≠l:=fun m hm e=>lM (e▸hm)
 obtain ⟨q,hq,Rc,-⟩:=aD.Eh (M:=M) (x:=(jV l t0,jW l t0)) (GM hl) z0 (fun m hm _=>p0 m hm) [] (fun m hm=>by cases hm)
 have Kt:∀s∈jU c l,s.1∈M/\s.2.nY/\∀t,s.2.nF t↔∀m∈l::M,m≠s.1->0<az m (jV s.1 t) (jW s.1 t):=fun s hs=>by
  obtain ⟨s0,h0,hb,rfl⟩:=yn.1 hs
  obtain ⟨m1,m2,m3⟩:=h.mem s0 h0
  refine ⟨m1,qL m2 hb,fun t=>?_⟩
  dsimp only
  rw [mF.1 hb t,m3 t,List.forall_mem_cons]
  exact ⟨fun g=>⟨fun _=>g.2,g.1⟩,fun g=>⟨g.2,g.1 (fun e=>ne _ m1 e.symm)⟩⟩
 refine ⟨⟨q,List.forall_mem_cons.2 ⟨Rc,hq⟩⟩,fun s hs=>?_,fun l' hl' he=>?_,yJ (ym h.p_) fun s hs e0=>?_⟩
 ·rcases kg.1 hs with rfl|hs
  ·refine ⟨List.mem_cons_self ..,gv,fun t=>?_⟩
   rw [qZ t,List.forall_mem_cons]
   exact ⟨fun g=>⟨fun h=>absurd rfl h,fun m hm _=>g m hm⟩,fun g m hm=>g.2 m hm (ne m hm)⟩
  ·obtain ⟨a,b⟩:=Kt s hs
   exact ⟨List.mem_cons_of_mem _ a,b⟩
 ·rcases List.mem_cons.1 hl' with rfl|hl'
  ·exact ⟨v,kg.2 (.inl rfl)⟩
  ·obtain ⟨p,pz,hp⟩:=he
   obtain ⟨w,hw⟩:=h.all l' hl' ⟨p,pz,fun m hm hne=>hp m (List.mem_cons_of_mem _ hm) hne⟩
   obtain ⟨m1,m2,m3⟩:=h.mem _ hw
   obtain ⟨t,e1,e2⟩:=Cl (o_ (hk l' hl')) pz
   have hb:eK l' w l=true:=by
    cases hb:eK l' w l
    ·exfalso
     refine mF.2 m2.2 hb t ((m3 t).2 fun m hm hne=>?_) ?_
     ·dsimp only;rw [←e1,←e2];exact hp m (List.mem_cons_of_mem _ hm) hne
     ·rw [←e1,←e2];exact hp l (List.mem_cons_self ..) (fun e=>lM (e▸hl'))
    ·rfl
   exact ⟨eL l' w l,kg.2 (.inr (yn.2 ⟨_,hw,hb,rfl⟩))⟩
 ·obtain ⟨m1,m2,m3⟩:=Kt s hs
  obtain ⟨t,ht⟩:=wo.1 m2.2
  have hr:=(m3 t).1 ht l (List.mem_cons_self ..) (fun e=>ne _ m1 e.symm)
  exact Fe (GM (hk _ m1)) e0 (p:=(jV l t0,jW l t0)) (r:=(jV s.1 t,jW s.1 t)) z0 (p0 _ m1) (vS (o_ (hk _ m1)) t).1 hr
omit h in
theorem nT {l:L3}(hl:fV l=true)(hno:∀x:aD.V2,az l x.1 x.2=0->¬aD.pos M x){q:aD.V2}(hq:aD.pos M q){s:L3}(hs:s∈M){x:aD.V2}(xz:az s x.1 x.2=0)(hx:∀m∈M,m≠s->0<az m x.1 x.2) :
  (0<az l q.1 q.2->0<az l x.1 x.2\/s=l)/\(az l q.1 q.2<0->az l x.1 x.2<0\/az l x.1 x.2=0/\s≠l):=by
 have side:∀g:L3,(∀x:aD.V2,az g x.1 x.2=0->¬aD.pos M x)->0<az g q.1 q.2->∀y:aD.V2,az s y.1 y.2=0->(∀m∈M,m≠s->0<az m y.1 y.2)->¬az g y.1 y.2<0:=fun g hno gq y yz hy hneg=>by
  obtain ⟨q',h1,-,h3⟩:=aD.Eh (GM (hk s hs)) yz hy [jI g] (fun m hm=>by rcases List.mem_singleton.1 hm with rfl;rw [val_rev];grind)
  have h3:=h3 _ (List.mem_singleton.2 rfl)
  rw [val_rev] at h3
  have:=aD.yY hno hq h1 gq
  grind
 constructor
 ·intro hp
  by_cases c1:0<az l x.1 x.2
  ·exact .inl c1
  right
  have z:az l x.1 x.2=0:=by have:=side l hno hp x xz hx;grind
  by_cases e:s=l
  ·exact e
  exfalso
  have Qx:aD.cr (aD.aG l) (aD.aG s)≠0:=fun e0=>by
   rcases HF hl (hk s hs) z xz e0 with g|g
   ·exact e g.symm
   ·rw [g,val_rev] at hp
    have:=hq s hs
    grind
  have step:∀d:aD.V2,aD.nv s d=0->aD.nv l d<0->False:=fun d d0 d1=>by
   obtain ⟨r,r0,hr⟩:=aD.wR ((M.filter fun m=>decide (m≠s)).map fun m=>(az m x.1 x.2,aD.nv m d)) (fun y hy=>by
    obtain ⟨m,hm,rfl⟩:=List.mem_map.1 hy
    have:=List.mem_filter.1 hm
    exact hx m this.1 (by simpa using this.2))
   refine side l hno hp (x.1+r*d.1,x.2+r*d.2) ?_ (fun m hm hne=>?_) ?_
   ·rw [aD.il,xz,d0];grind
   ·rw [aD.il]
    exact hr (az m x.1 x.2,aD.nv m d) (List.mem_map.2 ⟨m,List.mem_filter.2 ⟨hm,by simpa using hne⟩,rfl⟩)
   ·rw [aD.il,z]
    have:=aD.mp r0 (show -aD.nv l d>0 by grind)
    grind
  have s0:aD.nv s (aD.aG s)=0:=by rw [aD.Cj];exact aD.B4 _
  have ls:aD.nv l (aD.aG s)≠0:=by rw [aD.Cj];exact Qx
  by_cases c2:aD.nv l (aD.aG s)<0
  ·exact step _ s0 c2
  ·have e1:aD.nv s (-(aD.aG s).1,-(aD.aG s).2)=-aD.nv s (aD.aG s):=by unfold aD.nv;dsimp only;grind
   have e2:aD.nv l (-(aD.aG s).1,-(aD.aG s).2)=-aD.nv l (aD.aG s):=by unfold aD.nv;dsimp only;grind
   exact step (-(aD.aG s).1,-(aD.aG s).2) (by rw [e1,s0];grind) (by rw [e2];grind)
 ·intro hp
  have:=side (jI l) (fun x hx=>hno x (by rw [val_rev] at hx;grind)) (by rw [val_rev];grind) x xz hx
  rw [val_rev] at this
  by_cases c1:az l x.1 x.2<0
  ·exact .inl c1
  ·refine .inr ⟨by grind,fun e=>?_⟩
   have:=hq s hs
   rw [e] at this
   grind
theorem pf {s:Sd}(hs:s∈c):az s.1 (jV s.1 s.2.dj) (jW s.1 s.2.dj)=0/\∀m∈M,m≠s.1->0<az m (jV s.1 s.2.dj) (jW s.1 s.2.dj):=by
 obtain ⟨m1,m2,m3⟩:=h.mem s hs
 refine ⟨(vS (o_ (hk _ m1)) _).1,(m3 _).1 ?_⟩
 obtain ⟨h1,h2⟩:=Sp.Cq m2.2
 constructor
 ·cases ha:s.2.a
  ·exact .inr (h1 ha)
  ·exact .inl rfl
 ·cases hb:s.2.b
  ·exact .inr (h2 hb)
  ·exact .inl rfl
theorem Dj {l:L3}(hl:fV l=true)(hno:∀x:aD.V2,az l x.1 x.2=0->¬aD.pos M x){q:aD.V2}(hq:aD.pos M q)(hp:0<az l q.1 q.2)(h0:c≠[]):dF c l=1:=by
 cases hc:c with
 | nil=>exact absurd hc h0
 | cons s r=>
  have hs:s∈c:=by rw [hc];exact List.mem_cons_self ..
  obtain ⟨e1,e2⟩:=pf h hk hs
  have:=(nT hk hl hno hq (h.mem s hs).1 (x:=(jV s.1 s.2.dj,jW s.1 s.2.dj)) e1 e2).1 hp
  unfold dF
  dsimp only at this
  by_cases c1:0<az l (jV s.1 s.2.dj) (jW s.1 s.2.dj)
  ·rw [aD.IU.2 c1];rfl
  ·have hsl:s.1=l:=this.resolve_left c1
   have z:az l (jV s.1 s.2.dj) (jW s.1 s.2.dj)=0:=by
    have h:=e1;rw [hsl] at h ⊢;exact h
   rw [aD.ng.2 z,if_neg (by simp),if_pos hsl]
theorem Di {l:L3}(hl:fV l=true)(hno:∀x:aD.V2,az l x.1 x.2=0->¬aD.pos M x){q:aD.V2}(hq:aD.pos M q)(hp:az l q.1 q.2<0):dF c l=-1:=by
 have:∀r:List Sd,(∀s∈r,s∈c)->dF r l=-1:=by
  intro r
  induction r with
  | nil=>intro _;rfl
  | cons s r ih=>
   intro hr
   have hs:=hr s (List.mem_cons_self ..)
   obtain ⟨e1,e2⟩:=pf h hk hs
   have:=(nT hk hl hno hq (h.mem s hs).1 (x:=(jV s.1 s.2.dj,jW s.1 s.2.dj)) e1 e2).2 hp
   dsimp only at this
   unfold dF
   rcases this with g|⟨g,g'⟩
   ·rw [aD.Fw.2 g];rfl
   ·rw [aD.ng.2 g,if_neg (by simp),if_neg g']
    exact ih fun u hu=>hr u (List.mem_cons_of_mem _ hu)
 exact this c fun _ h=>h
theorem B1 {l:L3}(hl:fV l=true):(∀c',fa c l=some c'->iI (l::M) c')/\(fa c l=none->¬∃q,aD.pos (l::M) q):=by
 unfold fa
 cases e:cB c l cu with
 | some v=>exact ⟨fun c' e'=>by cases e';exact CV h hk hl e,fun e'=>by cases e'⟩
 | none=>
  dsimp only
  have hno:∀x:aD.V2,az l x.1 x.2=0->¬aD.pos M x:=fun x hx hp=>by
   obtain ⟨t,e1,e2⟩:=Cl (o_ hl) hx
   refine vq vd e t (yy t) fun s hs=>?_
   rw [←e1,←e2];exact hp s.1 (h.mem s hs).1
  have h0:c≠[]:=fun e0=>by rw [e0] at e;cases e
  obtain ⟨q,hq⟩:=h.pos
  by_cases c1:0<az l q.1 q.2
  ·rw [Dj h hk hl hno hq c1 h0]
   refine ⟨fun c' e'=>?_,fun e'=>by cases e'⟩
   cases e'
   refine ⟨⟨q,List.forall_mem_cons.2 ⟨c1,hq⟩⟩,fun s hs=>?_,fun l' hl' he=>?_,h.p_⟩
   ·obtain ⟨m1,m2,m3⟩:=h.mem s hs
    refine ⟨List.mem_cons_of_mem _ m1,m2,fun t=>?_⟩
    rw [m3 t,List.forall_mem_cons]
    refine ⟨fun g=>⟨fun hne=>?_,g⟩,fun g=>g.2⟩
    exact ((nT hk hl hno hq m1 (x:=(jV s.1 t,jW s.1 t)) (vS (o_ (hk _ m1)) t).1 g).1 c1).resolve_right fun e=>hne e.symm
   ·obtain ⟨p,pz,hp⟩:=he
    by_cases hm:l'∈M
    ·exact h.all l' hm ⟨p,pz,fun m hm hne=>hp m (List.mem_cons_of_mem _ hm) hne⟩
    ·exfalso
     have e1:l'=l:=(List.mem_cons.1 hl').resolve_right hm
     refine hno p (e1▸pz) fun m hm'=>hp m (List.mem_cons_of_mem _ hm') fun e2=>hm (e2▸hm')
  ·have c2:az l q.1 q.2<0:=by
    by_cases z:az l q.1 q.2=0
    ·exact absurd hq (hno q z)
    ·grind
   rw [Di h hk hl hno hq c2]
   refine ⟨fun c' e'=>(by cases e'),fun _=>?_⟩
   rintro ⟨q',hq'⟩
   obtain ⟨a,b⟩:=List.forall_mem_cons.1 hq'
   have:=aD.yY hno (fun m hm=>b m hm) hq a
   grind
end
theorem iI.nil:iI [] []:=⟨⟨(0,0),fun m hm=>by cases hm⟩,(fun s hs=>by cases hs),(fun l hl=>by cases hl),List.Pairwise.nil⟩
def bE:List L3->List L3->List Sd->Option (List Sd)
 | [],_,c=>some c
 | l::r,M,c=>match fa c l with
  | some c'=>bE r (l::M) c'
  | none=>none
theorem yj:∀{ls M:List L3} {c:List Sd},iI M c->(∀m∈M,fV m=true)->(∀m∈ls,fV m=true)->(∀c',bE ls M c=some c'->iI (ls.reverse++M) c')/\(bE ls M c=none->¬∃q,aD.pos (ls.reverse++M) q)
 | [],M,c,h,hk,hl=>⟨fun c' e=>by cases e;exact h,fun e=>by cases e⟩
 | l::r,M,c,h,hk,hl=>by
  obtain ⟨h1,h2⟩:=B1 h hk (hl l (List.mem_cons_self ..))
  rw [List.reverse_cons,List.append_assoc]
  unfold bE
  cases e:fa c l with
  | some c'=>exact yj (h1 c' e) (List.forall_mem_cons.2 ⟨hl l (List.mem_cons_self ..),hk⟩) fun m hm=>hl m (List.mem_cons_of_mem _ hm)
  | none=>
   refine ⟨fun c' e'=>(by cases e'),fun _=>?_⟩
   rintro ⟨q,hq⟩
   exact h2 e ⟨q,fun m hm=>hq m (List.mem_append_right _ hm)⟩
end Go.Proofs.Tryz
namespace Go.Proofs.Tryz
open Go.bo Go.eu
theorem Es.of {M N:List L3}(h:∀x,x∈M->x∈N){l:L3}(e:aD.Es N l):aD.Es M l:=by
 obtain ⟨p,p0,p1⟩:=e
 exact ⟨p,p0,fun m hm=>p1 m (h m hm)⟩
section
variable {M:List L3} {c:List Sd} (h:iI M c) (hk:∀m ∈ M,fV m=true)
include h hk
omit h hk in
omit hk in
end
end Go.Proofs.Tryz
namespace Go.Proofs.Tryz
open Go.bo Go.eu
section
variable {M:List L3} {c:List Sd} (h:iI M c) (hk:∀m ∈ M,fV m=true)
include h hk
end
end Go.Proofs.Tryz
namespace Go.Proofs.Tryz
open Go.bo Go.eu
namespace aD
end aD
section
variable {M:List L3} {c:List Sd} (h:iI M c) (hk:∀m ∈ M,fV m=true)
include h hk
end
end Go.Proofs.Tryz
namespace Go.Proofs.Tryz
open Go.bo Go.eu
namespace aD
end aD
section
variable {M:List L3} {c:List Sd} (h:iI M c) (hk:∀m ∈ M,fV m=true)
include h hk
end
end Go.Proofs.Tryz
namespace Go.Proofs.Tryz
open Go.bo Go.eu
def tw (l:List aD.V2):Rat:=((List.range l.length).map fun i=>aD.cr (l.getD i (0,0)) (l.getD ((i+1)%l.length) (0,0))).sum
def lk (S:List L3):List aD.V2:=(List.range S.length).filterMap fun i=>if 0<aD.cr (aD.aG (S.getD i (0,0,0))) (aD.aG (S.getD ((i+1)%S.length) (0,0,0))) then some (Iz (S.getD i (0,0,0)) (S.getD ((i+1)%S.length) (0,0,0)),IA (S.getD i (0,0,0)) (S.getD ((i+1)%S.length) (0,0,0))) else none
section
variable {M:List L3} {c:List Sd} (h:iI M c) (hk:∀m ∈ M,fV m=true) (hb:∀s ∈ c,s.2.a=false/\s.2.b=false)
include h hk hb
end
end Go.Proofs.Tryz
namespace Go.Proofs.Tryz
open Go.bo Go.eu
section
variable {M:List L3} {c:List Sd} (h:iI M c) (hk:∀m ∈ M,fV m=true) (hb:∀s ∈ c,s.2.a=false/\s.2.b=false)
include h hk hb
omit hk in
end
end Go.Proofs.Tryz
namespace Go.Proofs.Tryz
open Go.bo Go.eu
section
variable {M:List L3} {c:List Sd} (h:iI M c) (hk:∀m ∈ M,fV m=true) (hb:∀s ∈ c,s.2.a=false/\s.2.b=false)
include h hk hb
end
end Go.Proofs.Tryz
namespace Go.Proofs.Tryz
open Go.bo Go.eu
section
variable {M:List L3} {c:List Sd} (h:iI M c) (hk:∀m ∈ M,fV m=true)
include h hk
end
end Go.Proofs.Tryz
namespace Go.Proofs.Tryz
open Go.bo Go.eu
theorem kU.up {k K:Nat}{l:L3}(h:kU k l)(hk:k<=K):kU K l:=⟨h.1.mono hk,h.2.1.mono hk,h.2.2.mono hk⟩
theorem Cx {L M:L3}{s:Sp}{k K:Nat}(sl:kU k L)(sm:kU k M)(hs:s.sz K)(hk:60*k+60<=K):(eL L s M).sz K:=by
 have z:=I2 K (by omega)
 have c:=(wV sl sm).mono hk
 unfold eL
 split
 ·exact hs
 ·split
  ·exact Sp.wE hs ⟨c,z⟩
  ·exact Sp.wE hs ⟨z,c⟩
theorem Gj {k:Nat}(hk:0<k):cu.sz k:=⟨I2 k hk,I2 k hk⟩
def Mf (s:Sd):Prop:=Bd s.1/\s.2.sz 100000
theorem B9 {x:Sd}:∀{r:List Sd} {i:Nat},i<=r.length->(∀k (h:k<r.length),k<i->aD.iq (aD.aG r[k].1) (aD.aG x.1)<0)->(∀h:i<r.length,¬aD.iq (aD.aG r[i].1) (aD.aG x.1)<0)->kf x r=r.take i++x::r.drop i
 | [],i,hi,_,_=>by simp [kf]
 | s::r,0,_,_,h=>by
  have:¬aD.iq (aD.aG s.1) (aD.aG x.1)<0:=h (Nat.zero_lt_succ _)
  unfold kf
  rw [if_neg this]
  rfl
 | s::r,i+1,hi,h1,h2=>by
  have:aD.iq (aD.aG s.1) (aD.aG x.1)<0:=h1 0 (Nat.zero_lt_succ _) (Nat.zero_lt_succ _)
  unfold kf
  rw [if_pos this,B9 (r:=r) (i:=i) (by simpa using hi) (fun k hk hki=>h1 (k+1) (by simpa using hk) (by omega)) fun h=>h2 (by simpa using h)]
  rfl
structure Bs (r:List Sd) (l:L3) (i j:Nat):Prop where
 le:i<=j
 len:j<=r.length
 lo:∀k (h:k<r.length),k<i->aD.iq (aD.aG r[k].1) (aD.aG l)<0
 hi:∀h:j<r.length,¬aD.iq (aD.aG r[j].1) (aD.aG l)<0
theorem Bs.start (r:List Sd)(l:L3):Bs r l 0 r.length:=⟨Nat.zero_le _,Nat.le_refl _,fun k h hk=>absurd hk (Nat.not_lt_zero _),fun h=>absurd h (Nat.lt_irrefl _)⟩
theorem Bs.up {r:List Sd}{l:L3}{i j h:Nat}(b:Bs r l i j)(p_:r.Pairwise fun s u=>aD.iq (aD.aG s.1) (aD.aG u.1)<0)(h2:h<j)(hl:h<r.length)(hc:aD.iq (aD.aG r[h].1) (aD.aG l)<0):Bs r l (h+1) j:=
 ⟨h2,b.len,fun k hk hkh=>by
  by_cases e:k=h
  ·subst e;exact hc
  ·exact BU (List.pairwise_iff_getElem.1 p_ k h hk hl (by omega)) hc,b.hi⟩
theorem Bs.down {r:List Sd}{l:L3}{i j h:Nat}(b:Bs r l i j)(h1:i<=h)(hl:h<r.length)(hc:¬aD.iq (aD.aG r[h].1) (aD.aG l)<0):Bs r l i h:=
 ⟨h1,by omega,b.lo,fun _=>hc⟩
theorem Bs.done {r:List Sd}{l:L3}{i:Nat}(b:Bs r l i i)(v:Sp):kf (l,v) r=r.take i++(l,v)::r.drop i:=B9 b.len b.lo b.hi
theorem RR.half (V:View):RR V (.agg #[.int .i64 1,.int .i64 1,.pointer none]) (((2:Int):Rat)⁻¹):=by
 have e1:(((2:Int):Rat)⁻¹).num=1:=by decide +kernel
 have e2:(((2:Int):Rat)⁻¹).den=2:=by decide +kernel
 refine .inl ⟨by rw [e1,e2];rfl,?_⟩
 unfold Wd
 rw [e1,e2];decide
theorem xU {V:View}{v:Value}{x:Rat}(hx:RR V v x){k:Nat}(hk:Sz k x)(hkm:k+2<1099511627776) :
  ab prog 151 #[v] V fun r V'=>RR V' r (x*((2:Int):Rat)⁻¹):=by
 have hx0:=hx
 obtain ⟨a,b,c,rfl⟩:=hx.shape
 refine sk a b c V _ fun V1 l1=>(dP (hx0.le l1) (RR.half V1) hk (fK wW) hkm).mono ?_
 rintro r V2 l2 g
 have g0:=g
 obtain ⟨u,v,w,rfl⟩:=g.shape
 exact ⟨_,_,_,rfl,fun V3 l3=>g0.le l3⟩
theorem xS {V:View}{v:Value}{s:Sp}(h:BQ V v s){k:Nat}(hs:s.sz k)(hk:4*k+8<1099511627776) :
  ab prog 133 #[v] V fun r V'=>RR V' r s.dj:=by
 obtain ⟨x1,x2,p,y1,y2,q,rfl,h1,h2⟩:=h
 have a1:s.a=true->s.b=true->s.dj=0:=fun x y=>by simp [Sp.dj,x,y]
 have a2:s.a=true->s.b=false->s.dj=s.hi-((1:Int):Rat):=fun x y=>by simp [Sp.dj,x,y]
 have a3:s.a=false->s.b=true->s.dj=s.lo+((1:Int):Rat):=fun x y=>by simp [Sp.dj,x,y]
 have a4:s.a=false->s.b=false->s.dj=(s.lo+s.hi)*((2:Int):Rat)⁻¹:=fun x y=>by simp [Sp.dj,x,y]
 have no:∀{P:Prop},s.a=true->s.a=false->P:=fun x y=>by rw [x] at y;cases y
 have SW:∀{P:Prop},s.b=true->s.b=false->P:=fun x y=>by rw [x] at y;cases y
 refine oz x1 x2 p y1 y2 q s.a s.b V _ ⟨fun ha=>⟨fun hb V1 l1=>?_,fun hb=>⟨fun _ V2 l2=>(gB 1 (by decide) (by decide)).mono ?_,fun e=>no ha e⟩⟩,fun ha=>⟨fun e=>no e ha,fun _=>⟨fun hb xD kj=>(gB 1 (by decide) (by decide)).mono ?_,fun hb Jp oV=>(gZ (h1.le oV) (h2.le oV) hs.1 hs.2 (by omega)).mono ?_⟩⟩⟩
 ·rw [a1 ha hb];exact RR.zero _
 ·rintro r V3 l3 g
  have g0:=g
  obtain ⟨u,v,w,rfl⟩:=g.shape
  refine ⟨_,_,_,rfl,fun V4 l4=>(mz (h2.le (l2.trans (l3.trans l4))) (g0.le l4) hs.2 fW (by omega)).mono ?_⟩
  rintro r V5 l5 f
  have f0:=f
  obtain ⟨u,v,w,rfl⟩:=f.shape
  exact ⟨_,_,_,rfl,fun V6 l6=>by rw [a2 ha hb];exact f0.le l6⟩
 ·rintro r V3 l3 g
  have g0:=g
  obtain ⟨u,v,w,rfl⟩:=g.shape
  refine ⟨_,_,_,rfl,fun V4 l4=>(gZ (h1.le (kj.trans (l3.trans l4))) (g0.le l4) hs.1 fW (by omega)).mono ?_⟩
  rintro r V5 l5 f
  have f0:=f
  obtain ⟨u,v,w,rfl⟩:=f.shape
  exact ⟨_,_,_,rfl,fun V6 l6=>by rw [a3 ha hb];exact f0.le l6⟩
 ·rintro r V3 l3 g
  have g0:=g
  obtain ⟨u,v,w,rfl⟩:=g.shape
  refine ⟨_,_,_,rfl,fun V4 l4=>(xU (g0.le l4) (hs.1.add hs.2) (by omega)).mono ?_⟩
  rintro r V5 l5 f
  have f0:=f
  obtain ⟨u,v,w,rfl⟩:=f.shape
  exact ⟨_,_,_,rfl,fun V6 l6=>by rw [a4 ha hb];exact f0.le l6⟩
theorem JK {V:View}:ab prog 179 #[] V fun r V'=>r=.agg #[.int .i64 0,.int .i64 0,.pointer none,.int .i64 0,.int .i64 0,.pointer none,.bool true,.bool true]:=
 Bu V _ fun V1 l1=>rfl
def fD (V:View)(v:Value)(s:Sd):Prop:=HP V v s.1 s.2/\Mf s
theorem fD.le {V V':View}{v:Value}{s:Sd}(h:fD V v s)(l:V.Le V'):fD V' v s:=⟨h.1.le l,h.2⟩
theorem fD.shape {V:View}{v:Value}{s:Sd}(h:fD V v s):∃(x1:Int)(x2:Int)(p:OA)(y1:Int)(y2:Int)(q:OA)(z1:Int)(z2:Int)(r:OA)(u1:Int)(u2:Int)(t:OA)(w1:Int)(w2:Int)(o:OA),v=.agg #[.int .i64 x1,.int .i64 x2,.pointer p,.int .i64 y1,.int .i64 y2,.pointer q,.int .i64 z1,.int .i64 z2,.pointer r,.int .i64 u1,.int .i64 u2,.pointer t,.int .i64 w1,.int .i64 w2,.pointer o,.bool s.2.a,.bool s.2.b]:=by
 obtain ⟨x1,x2,p,y1,y2,q,z1,z2,r,u1,u2,t,w1,w2,o,e,-⟩:=h.1
 exact ⟨x1,x2,p,y1,y2,q,z1,z2,r,u1,u2,t,w1,w2,o,e⟩
theorem E4 {x1:Int}{x2:Int}{p:OA}{y1:Int}{y2:Int}{q:OA}{z1:Int}{z2:Int}{r:OA}{u1:Int}{u2:Int}{t:OA}{w1:Int}{w2:Int}{o:OA}{c d:Bool}:∀v∈([.int .i64 x1,.int .i64 x2,.pointer p,.int .i64 y1,.int .i64 y2,.pointer q,.int .i64 z1,.int .i64 z2,.pointer r,.int .i64 u1,.int .i64 u2,.pointer t,.int .i64 w1,.int .i64 w2,.pointer o,.bool c,.bool d]:List Value),v.oneCell'=true:=by
 intro v hm
 simp only [List.mem_cons,List.not_mem_nil,or_false] at hm
 rcases hm with rfl|rfl|rfl|rfl|rfl|rfl|rfl|rfl|rfl|rfl|rfl|rfl|rfl|rfl|rfl|rfl|rfl<;>rfl
theorem G5 {V:View}{s:Sd}:∀xs,fD V (.agg (List.toArray xs)) s->∀v∈xs,v.oneCell'=true:=by
 intro xs h
 obtain ⟨x1,x2,p,y1,y2,q,z1,z2,r,u1,u2,t,w1,w2,o,e⟩:=h.shape
 have e:=congrArg Array.toList (Value.agg.inj e)
 dsimp only at e
 subst e
 exact E4
theorem jA {V:View}{c:OA}{n:Nat}{al:List Sd}(h:cQ 17 fD V c n al){i:Nat}(hi:i<al.length) :
  c.isSome=true/\∃(x1:Int)(x2:Int)(p:OA)(y1:Int)(y2:Int)(q:OA)(z1:Int)(z2:Int)(r:OA)(u1:Int)(u2:Int)(t:OA)(w1:Int)(w2:Int)(o:OA)(a:Addr),aj c (i*17)=some a/\V.at (a.add 0) (.int .i64 x1)/\V.at (a.add 1) (.int .i64 x2)/\V.at (a.add 2) (.pointer p)/\V.at (a.add 3) (.int .i64 y1)/\V.at (a.add 4) (.int .i64 y2)/\V.at (a.add 5) (.pointer q)/\V.at (a.add 6) (.int .i64 z1)/\V.at (a.add 7) (.int .i64 z2)/\V.at (a.add 8) (.pointer r)/\V.at (a.add 9) (.int .i64 u1)/\V.at (a.add 10) (.int .i64 u2)/\V.at (a.add 11) (.pointer t)/\V.at (a.add 12) (.int .i64 w1)/\V.at (a.add 13) (.int .i64 w2)/\V.at (a.add 14) (.pointer o)/\V.at (a.add 15) (.bool al[i].2.a)/\V.at (a.add 16) (.bool al[i].2.b) /\
   fD V (.agg #[.int .i64 x1,.int .i64 x2,.pointer p,.int .i64 y1,.int .i64 y2,.pointer q,.int .i64 z1,.int .i64 z2,.pointer r,.int .i64 u1,.int .i64 u2,.pointer t,.int .i64 w1,.int .i64 w2,.pointer o,.bool al[i].2.a,.bool al[i].2.b]) al[i]:=by
 obtain ⟨ad,h0,xs,h1,h2,h3⟩:=h.at_ i hi
 have h20:=h2
 obtain ⟨x1,x2,p,y1,y2,q,z1,z2,r,u1,u2,t,w1,w2,o,e⟩:=h2.shape
 have e:=congrArg Array.toList (Value.agg.inj e)
 dsimp only at e
 subst e
 refine ⟨?_,x1,x2,p,y1,y2,q,z1,z2,r,u1,u2,t,w1,w2,o,ad,h0,h3 0 _ rfl,h3 1 _ rfl,h3 2 _ rfl,h3 3 _ rfl,h3 4 _ rfl,h3 5 _ rfl,h3 6 _ rfl,h3 7 _ rfl,h3 8 _ rfl,h3 9 _ rfl,h3 10 _ rfl,h3 11 _ rfl,h3 12 _ rfl,h3 13 _ rfl,h3 14 _ rfl,h3 15 _ rfl,h3 16 _ rfl,h20⟩
 cases c with
 | none=>cases h0
 | some a=>rfl
theorem Cp {V:View}{vs:List Value}{al:List Sd}(h:Row 17 fD V vs al){i:Nat}(hi:i<al.length):∃(x1:Int)(x2:Int)(p:OA)(y1:Int)(y2:Int)(q:OA)(z1:Int)(z2:Int)(r:OA)(u1:Int)(u2:Int)(t:OA)(w1:Int)(w2:Int)(o:OA),i*17+17<=vs.length/\(vs.drop (i*17)).take 17=[.int .i64 x1,.int .i64 x2,.pointer p,.int .i64 y1,.int .i64 y2,.pointer q,.int .i64 z1,.int .i64 z2,.pointer r,.int .i64 u1,.int .i64 u2,.pointer t,.int .i64 w1,.int .i64 w2,.pointer o,.bool al[i].2.a,.bool al[i].2.b] /\
  fD V (.agg #[.int .i64 x1,.int .i64 x2,.pointer p,.int .i64 y1,.int .i64 y2,.pointer q,.int .i64 z1,.int .i64 z2,.pointer r,.int .i64 u1,.int .i64 u2,.pointer t,.int .i64 w1,.int .i64 w2,.pointer o,.bool al[i].2.a,.bool al[i].2.b]) al[i]:=by
 obtain ⟨xs,h1,h2,h3⟩:=h.at_ i hi
 have hl:=h.jz (by decide)
 have h20:=h2
 obtain ⟨x1,x2,p,y1,y2,q,z1,z2,r,u1,u2,t,w1,w2,o,e⟩:=h2.shape
 have e:=congrArg Array.toList (Value.agg.inj e)
 dsimp only at e
 subst e
 refine ⟨x1,x2,p,y1,y2,q,z1,z2,r,u1,u2,t,w1,w2,o,by omega,?_,h20⟩
 apply List.ext_getElem?
 intro j
 rw [List.getElem?_take]
 split
 ·rename_i hj
  rw [List.getElem?_drop]
  exact h3 j _ (List.getElem?_eq_getElem (by show j<17;omega))▸(List.getElem?_eq_getElem (by show j<17;omega)).symm
 ·rename_i hj
  rw [List.getElem?_eq_none (by show 17<=j;omega)]
theorem fD.both {V:View}{s:Sd}{x1:Int}{x2:Int}{p:OA}{y1:Int}{y2:Int}{q:OA}{z1:Int}{z2:Int}{r:OA}{u1:Int}{u2:Int}{t:OA}{w1:Int}{w2:Int}{o:OA}{c d:Bool}(h:fD V (.agg #[.int .i64 x1,.int .i64 x2,.pointer p,.int .i64 y1,.int .i64 y2,.pointer q,.int .i64 z1,.int .i64 z2,.pointer r,.int .i64 u1,.int .i64 u2,.pointer t,.int .i64 w1,.int .i64 w2,.pointer o,.bool c,.bool d]) s) :
  sU V (.agg #[.int .i64 x1,.int .i64 x2,.pointer p,.int .i64 y1,.int .i64 y2,.pointer q,.int .i64 z1,.int .i64 z2,.pointer r]) s.1/\BQ V (.agg #[.int .i64 u1,.int .i64 u2,.pointer t,.int .i64 w1,.int .i64 w2,.pointer o,.bool s.2.a,.bool s.2.b]) s.2/\c=s.2.a/\d=s.2.b:=by
 obtain ⟨Td,Te,p',y1',y2',q',z1',z2',r',S8,S9,t',w1',w2',o',e,h1,h2⟩:=h.1
 have e:=congrArg Array.toList (Value.agg.inj e)
 simp only [List.cons.injEq,Value.bool.injEq,Value.int.injEq,Value.pointer.injEq,true_and,and_true] at e
 obtain ⟨rfl,rfl,rfl,rfl,rfl,rfl,rfl,rfl,rfl,rfl,rfl,rfl,rfl,rfl,rfl,rfl,rfl⟩:=e
 exact ⟨h1,h2,rfl,rfl⟩
theorem jD:∀{c d:List Sd} {l:L3} {v:Sp},cB (c++d) l v=(cB c l v).bind (cB d l)
 | [],_,_,_=>rfl
 | s::c,d,l,v=>by
  rw [List.cons_append]
  unfold cB
  split
  ·exact jD
  ·rfl
theorem oK {V:View}{cp:OA}{cn cc:Nat}{c:List Sd}{lv:Value}{l:L3}(h:cQ 17 fD V cp cn c)(hl:sU V lv l)(hb:Bd l)(hn:c.length<=1000000) :
  ab prog 130 #[.slice cp cn cc,lv] V fun r V'=>∃w,r=.tuple #[w,.bool (cB c l cu).isSome]/\BQ V' w ((cB c l cu).getD Sp.zero)/\((cB c l cu).getD Sp.zero).sz 100000:=by
 have hl0:=hl
 obtain rfl:=h.len
 obtain ⟨_,_,_,_,_,_,_,_,_,rfl,-,-,-⟩:=hl
 have GV:∀{i:Nat} (hi:i<c.length) {s:Sp},cB (c.take i) l cu=some s->cB (c.take (i+1)) l cu=if eK l s c[i].1=true then some (eL l s c[i].1) else none:=fun {i} hi {s} e=>by
  rw [List.take_add_one,List.getElem?_eq_getElem hi,jD,e]
  show cB [c[i]] l s=_
  unfold cB
  rfl
 refine ow cp _ cc _ _ _ _ _ _ _ _ _ V _ fun V1 l1=>JK.mono ?_
 rintro r V2 l2 rfl
 have L2:=l1.trans l2
 refine ⟨_,_,_,_,_,_,_,_,rfl,fun z V'=>∃(i:Nat)(s:Sp),z.1=(i:Int)/\i<=c.length/\cB (c.take i) l cu=some s/\s.sz 100000/\z.2.2.2.2.2.2.2.1=s.a/\z.2.2.2.2.2.2.2.2=s.b/\BQ V' (.agg #[.int .i64 z.2.1,.int .i64 z.2.2.1,.pointer z.2.2.2.1,.int .i64 z.2.2.2.2.1,.int .i64 z.2.2.2.2.2.1,.pointer z.2.2.2.2.2.2.1,.bool s.a,.bool s.b]) s,
  fun z=>c.length-z.1.toNat,⟨(0,0,0,none,0,0,none,true,true),by and_intros<;>rfl,0,cu,rfl,Nat.zero_le _,rfl,Gj (by omega),rfl,rfl,⟨_,_,_,_,_,_,rfl,RR.zero _,RR.zero _⟩⟩,?_⟩
 rintro ⟨z1,x1,x2,p,y1,y2,q,ba,bb⟩ V3 l3 ⟨i,s,e1,hi,hp,hs,ea,eb,hv⟩
 dsimp only at e1 ea eb hv ⊢
 subst e1 ea eb
 have L3:=L2.trans l3
 refine ⟨rfl,fun hlt=>?_,fun hlt V7 l7=>?_⟩
 ·have hlt:(i:Int)<c.length:=of_decide_eq_true hlt
  have hi':i<c.length:=by omega
  have w:i64.wrap ((i:Int)+1)=((i+1:Nat):Int):=by rw [ay (by omega)];rfl
  rw [Int.toNat_natCast,w]
  obtain ⟨ps,a1,a2,a3,a4,a5,a6,a7,a8,a9,b1,b2,b3,b4,b5,b6,a,ha,h0,h1,h2,h3,h4,h5,h6,h7,h8,h9,h10,h11,h12,Jd,DI,Je,h16,hr⟩:=jA (h.le L3 fun _ _ g=>fD.le g L3) hi'
  obtain ⟨rl,ri,-,-⟩:=hr.both
  have pa:=GV hi' hp
  have sd:=hr.2
  refine ⟨ps,⟨by omega,by omega⟩,_,_,_,_,_,_,_,_,_,_,_,_,_,_,_,_,_,a,ha,h0,h1,h2,h3,h4,h5,h6,h7,h8,h9,h10,h11,h12,Jd,DI,Je,h16,fun V4 l4=>(xT (hl0.le (L3.trans l4)) (hv.le l4) (rl.le l4) (k:=100000) (hb.pG.up (by omega)) hs (sd.1.pG.up (by omega)) (by omega)).mono ?_⟩
  rintro r V5 l5 ⟨w5,rfl,g⟩
  have g0:=g
  obtain ⟨_,_,_,_,_,_,rfl,-,-⟩:=g
  refine ⟨_,_,_,_,_,_,_,_,_,rfl,fun hf V6 l6=>?_,fun hf=>⟨(((i+1:Nat):Int),_,_,_,_,_,_,_,_),by dsimp only;omega,by and_intros<;>rfl,i+1,eL l s c[i].1,rfl,hi',?_,Cx hb.pG sd.1.pG hs (by omega),rfl,rfl,g0⟩⟩
  ·have hf:eK l s c[i].1=false:=by simpa using hf
   have e:cB c l cu=none:=by
    have:=jD (c:=c.take (i+1)) (d:=c.drop (i+1)) (l:=l) (v:=cu)
    rw [List.take_append_drop,pa,hf] at this
    exact this
   rw [e]
   exact ⟨_,rfl,⟨_,_,_,_,_,_,rfl,RR.zero _,RR.zero _⟩,I2 _ (by omega),I2 _ (by omega)⟩
  ·have hf:eK l s c[i].1=true:=by simpa using hf
   rw [pa,if_pos hf]
 ·have hlt:¬(i:Int)<c.length:=of_decide_eq_false hlt
  obtain rfl:i=c.length:=by omega
  rw [List.take_length] at hp
  rw [hp]
  exact ⟨_,rfl,hv.le l7,hs⟩
def Jk (c:List Sd)(l:L3):Int:=if (cB c l cu).isSome=true then 0 else dF c l
theorem vW {V:View}{cp:OA}{cn cc:Nat}{c:List Sd}{lv:Value}{l:L3}(h:cQ 17 fD V cp cn c)(hl:sU V lv l)(hb:Bd l)(hn:c.length<=1000000) :
  ab prog 78 #[.slice cp cn cc,lv] V fun r V'=>r=.int .i64 (Jk c l):=by
 have hl0:=hl
 obtain rfl:=h.len
 obtain ⟨_,_,_,_,_,_,_,_,_,rfl,-,-,-⟩:=hl
 refine nu cp _ cc _ _ _ _ _ _ _ _ _ V _ fun V1 l1=>(oK (h.le l1 fun _ _ g=>fD.le g l1) (hl0.le l1) hb hn).mono ?_
 rintro r V2 l2 ⟨w,rfl,g,-⟩
 obtain ⟨_,_,_,_,_,_,rfl,-,-⟩:=g
 have L2:=l1.trans l2
 refine ⟨_,_,_,_,_,_,_,_,_,rfl,fun hp V3 l3=>by unfold Jk;rw [if_pos hp],fun hp=>?_⟩
 have hp:(cB c l cu).isSome=false:=hp
 have e0:Jk c l=dF c l:=by unfold Jk;rw [if_neg (by rw [hp];exact Bool.false_ne_true)]
 rw [e0]
 refine ⟨fun z V'=>∃i:Nat,z=(i:Int)/\i<=c.length/\dF c l=dF (c.drop i) l,fun z=>c.length-z.toNat,⟨0,by and_intros<;>rfl,0,rfl,Nat.zero_le _,rfl⟩,?_⟩
 rintro z V4 l4 ⟨i,rfl,hi,hpl⟩
 have L4:=L2.trans l4
 refine ⟨rfl,fun hlt=>?_,fun hlt oG fl=>?_⟩
 ·have hlt:(i:Int)<c.length:=of_decide_eq_true hlt
  have hi':i<c.length:=by omega
  have w:i64.wrap ((i:Int)+1)=((i+1:Nat):Int):=by rw [ay (by omega)];rfl
  rw [Int.toNat_natCast,w]
  obtain ⟨ps,a1,a2,a3,a4,a5,a6,a7,a8,a9,b1,b2,b3,b4,b5,b6,a,ha,h0,h1,h2,h3,h4,h5,h6,h7,h8,h9,h10,h11,h12,Jd,DI,Je,h16,hr⟩:=jA (h.le L4 fun _ _ g=>fD.le g L4) hi'
  obtain ⟨rl,ri,-,-⟩:=hr.both
  have sd:=hr.2
  have ed:c.drop i=c[i]::c.drop (i+1):=List.drop_eq_getElem_cons hi'
  rw [ed] at hpl
  have hpl:dF c l=if (az l (jV c[i].1 c[i].2.dj) (jW c[i].1 c[i].2.dj)).num.sign≠0 then (az l (jV c[i].1 c[i].2.dj) (jW c[i].1 c[i].2.dj)).num.sign else if c[i].1=l then 1 else dF (c.drop (i+1)) l:=hpl.trans (by rfl)
  generalize c[i]=S at *
  have NY:=G_ sd.2
  refine ⟨ps,⟨by omega,by omega⟩,_,_,_,_,_,_,_,_,_,_,_,_,_,_,_,_,_,a,ha,h0,h1,h2,h3,h4,h5,h6,h7,h8,h9,h10,h11,h12,Jd,DI,Je,h16,fun V5 l5=>(xS (ri.le l5) sd.2 (by omega)).mono ?_⟩
  rintro r V6 l6 g
  have g0:=g
  obtain ⟨_,_,_,rfl⟩:=g.shape
  refine ⟨_,_,_,rfl,fun V7 l7=>(M7 (rl.le (l5.trans (l6.trans l7))) (g0.le l7) (k:=300000) (sd.1.pG.up (by omega)) (NY.mono (by omega)) (by omega)).mono ?_⟩
  rintro r V8 l8 gp
  have QO:=gp
  obtain ⟨_,_,_,_,_,_,rfl,-,-⟩:=gp
  have sx:=IZ (sd.1.pG.up (show 1000<=300000 by omega)) (NY.mono (show 2*100000+10<=300000 by omega))
  have sy:=I0 (sd.1.pG.up (show 1000<=300000 by omega)) (NY.mono (show 2*100000+10<=300000 by omega))
  refine ⟨_,_,_,_,_,_,rfl,fun V9 l9=>(Iv (hl0.le (L4.trans (l5.trans (l6.trans (l7.trans (l8.trans l9)))))) (QO.le l9) (hb.pG.up (by omega)) sx sy (by omega)).mono ?_⟩
  rintro r kV l10 rfl
  refine ⟨_,rfl,fun hs lH bS=>?_,fun hs pw cU=>(Gx (rl.le (l5.trans (l6.trans (l7.trans (l8.trans (l9.trans (l10.trans cU))))))) (hl0.le (L4.trans (l5.trans (l6.trans (l7.trans (l8.trans (l9.trans (l10.trans cU)))))))) (k:=1000) sd.1.pG hb.pG (by omega)).mono ?_⟩
  ·rw [hpl,if_pos (by simpa using hs)]
  ·rintro r vL dW rfl
   rw [if_neg (by simpa using hs)] at hpl
   refine ⟨_,rfl,fun he oF eX=>?_,fun he=>⟨((i+1:Nat):Int),by dsimp only;omega,by and_intros<;>rfl,i+1,rfl,hi',?_⟩⟩
   ·rw [hpl,if_pos (of_decide_eq_true he)]
   ·rw [hpl,if_neg (of_decide_eq_false he)]
 ·have hlt:¬(i:Int)<c.length:=of_decide_eq_false hlt
  obtain rfl:i=c.length:=by omega
  rw [hpl,List.drop_length]
  rfl
end Go.Proofs.Tryz
namespace Go.bo
open Go.Lib
variable {P:Program}
theorem ij (w:World)(dT sT ty elem:TypeId)(sz b o dLen dCap:Nat)(a:Addr)(sLen sCap:Nat)(cs:List Value)
  (hu:P.underlying dT=some (.slice elem))(hs:(P.info? elem).map (·.size)=some sz)(hn:cs.length=Nat.min sLen dLen*sz)
  (hsrc:∀j v,cs[j]?=some v->w.cell? (a.add j)=some v)(hc:∀j,j<cs.length->(w.cell? ⟨b,o+j,none⟩).isSome=true)(hf:∀j,j<cs.length->w.frozen? ⟨b,o+j,none⟩=false)(h1:∀v∈cs,v.oneCell'=true) :
  (Builtin.copy_ #[dT,sT] ty #[.slice (some ⟨b,o,none⟩) dLen dCap,.slice (some a) sLen sCap]).run P w=.ok (goInt (Nat.min sLen dLen)) (w.setCells b o cs):=by
 have hl:=run_loadCells_list (P:=P) w a cs hsrc
 have hst:=run_storeCells_cells (P:=P) b o cs 0 w (by simpa using hc) (by simpa using hf) h1
 cases hq:P.info? elem with
 | none=>simp [hq] at hs
 | some i=>
  have hi:i.size=sz:=by simpa [hq] using hs
  simp [Builtin.copy_,run_underlying hu,Builtin.lenOf,Builtin.firstCells,sizeOf,typeInfo,hq,hi,←hn,hl,hst]
theorem xu (w:World){o:Oper}{a:Act}{K:Act->World->Prop}{Q:Exit->Act->World->Prop}(d s:Operand)(t t':TypeId)
  (ho:o.op=.call { callee:=.builtin .copy,args:=#[d,s],argTypes:=#[t,t'] })(v u:Value)(hd:a.eval d=v)(hs:a.eval s=u){v':Value}{w':World}
  (hr:(Builtin.copy_ #[t,t'] o.type #[v,u]).run P w=.ok v' w')(h:K (a.put o.dst v') w'):o.wp P a w K Q:=by
 unfold Oper.wp execOp
 simp only [ho,resolve,invoke,builtin,Sem.run_bind,Sem.run_pure,Result.andThen_ok,List.map_toArray,List.map_cons,List.map_nil,hd,hs,hr]
 exact h
theorem jc (w:World){ops:Array Oper}{rest:List Oper}{o:Oper}{a:Act}{Q:Exit->Act->World->Prop}(hgd:o.guard=none)(d s:Operand)(t t':TypeId)
  (ho:o.op=.call { callee:=.builtin .copy,args:=#[d,s],argTypes:=#[t,t'] })(v u:Value)(hd:a.eval d=v)(hs:a.eval s=u){v':Value}{w':World}
  (hr:(Builtin.copy_ #[t,t'] o.type #[v,u]).run P w=.ok v' w')(h:wpList P ops Q rest (a.put o.dst v') w'):wpList P ops Q (o::rest) a w:=
 wpList_plain hgd fun _ hK=>xu w d s t t' ho v u hd hs hr (hK _ _ h)
theorem kr {ops:Array Oper}{o:Oper}{a:Act}{w:World}{K:Act->World->Prop}{Q:Exit->Act->World->Prop}{E:Prop}
  (hg:o.guard=none)(d x:Operand)(dT sT:TypeId)(hop:o.op=Op.call { callee:=Callee.builtin Builtin.copy,args:=#[d,x],argTypes:=#[dT,sT] })
  (v u:Value)(hd:a.eval d=v)(hx:a.eval x=u){v':Value}{w':World}(hr:(Builtin.copy_ #[dT,sT] o.type #[v,u]).run P w=.ok v' w')(hK:K (a.put o.dst v') w') :
  if Region.wanted o (yielded ops a.tmps)=true then Oper.wp P o a w K Q else E:=by
 have hw:Region.wanted o (yielded ops a.tmps)=true:=by simp [Region.wanted,hg]
 rw [if_pos hw]
 unfold Oper.wp
 simp [execOp,hop,resolve,invoke,builtin,hd,hx,hr,Result.andThen]
 exact hK
theorem dY {w:World}{b o:Nat}{vs:List Value}{ty:TypeId}(h:w.heap[b]?=some (.cells vs.toArray ty (0,0))):w.frozen? ⟨b,o,none⟩=false:=by simp [World.frozen?,h]
theorem vE {w:World}{b:Nat}{vs:List Value}{ty:TypeId}(h:w.heap[b]?=some (.cells vs.toArray ty (0,0))):w.shape? b=some (ty,vs.length):=by simp [World.shape?,h]
theorem bY {w:World}{b o:Nat}{vs:List Value}{ty:TypeId}(h:w.heap[b]?=some (.cells vs.toArray ty (0,0))):w.cell? ⟨b,o,none⟩=vs[o]?:=cell_of_row h
theorem qT (X:Nat->Prop)(w:World):dI X w w.drew:=⟨Nat.le_refl _,fun _ _ _=>rfl,rfl,rfl,rfl⟩
theorem nV (X:Nat->Prop)(w:World)(o:Obj):dI X w (w.alloc o):=⟨by rw [show (w.alloc o).heap.size=w.heap.size+1 from Array.size_push ..];omega,fun b hb _=>bC w o hb,rfl,rfl,rfl⟩
theorem AO {w:World}{g:Nat}{old cs:Array Value}{ty:TypeId}(h:w.heap[g]?=some (.cells old ty (0,0))):dI (·=g) w (w.setRow g cs):=by
 refine ⟨?_,fun b hb hn=>?_,?_,?_,?_⟩
 ·rw [dk h,Array.size_setIfInBounds];exact Nat.le_refl _
 ·rw [dk h,Array.getElem?_setIfInBounds_ne (fun e=>hn e.symm)]
 all_goals simp [World.setRow,h]
theorem bZ {b:Nat}{ty:TypeId}:∀(xs:List Value)(o:Nat)(vs:List Value)(w:World),w.heap[b]?=some (.cells vs.toArray ty (0,0))->o+xs.length<=vs.length ->
  (w.setCells b o xs).heap[b]?=some (.cells (vs.take o++xs++vs.drop (o+xs.length)).toArray ty (0,0))/\dI (·=b) w (w.setCells b o xs)
 | [],o,vs,w,h,hl=>⟨by rw [World.setCells,List.append_nil,List.length_nil,Nat.add_zero,List.take_append_drop];exact h,dI.refl _ _⟩
 | x::xs,o,vs,w,h,hl=>by
  rw [List.length_cons] at hl
  have e1:w.setCell ⟨b,o,none⟩ x=w.setRow b (vs.toArray.setIfInBounds o x):=setCell_eq_setRow w b o vs.toArray ty (0,0) x h
  have e2:vs.toArray.setIfInBounds o x=(vs.set o x).toArray:=by simp
  rw [World.setCells,e1,e2]
  have h2:(w.setRow b (vs.set o x).toArray).heap[b]?=some (.cells (vs.set o x).toArray ty (0,0)):=setRow_heap w b vs.toArray _ ty (0,0) h
  obtain ⟨g1,g2⟩:=bZ xs (o+1) (vs.set o x) _ h2 (by rw [List.length_set];omega)
  refine ⟨?_,(AO h).trans g2⟩
  rw [g1]
  congr 3
  rw [List.take_set,List.take_add_one,List.getElem?_eq_getElem (by omega),List.drop_set_of_lt (by omega),List.length_cons,show o+1+xs.length=o+(xs.length+1) by omega]
  rw [List.set_append_right _ _ (by rw [List.length_take];omega),List.length_take,Nat.min_eq_left (by omega),Nat.sub_self]
  simp
end Go.bo
