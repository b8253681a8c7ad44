import Derived.Test.YtnnbfoejafcdlaaGreatDoorD12
import Derived.Test.YtnnbfoejafcdlaaGreatDoorD13
import Derived.Test.YtnnbfoejafcdlaaGreatDoorD5
import Derived.Test.YtnnbfoejafcdlaaGreatDoorD9
import Derived.Test.YtnnbfoejafcdlaaGreatDoorD7
set_option linter.unusedVariables false
open Go.IntKind (i64 u64 u32)
namespace Go.Proofs.Tryz
open Go.bF Go.eK
structure GR {α:Type} (sz:Nat) (R:View->Value->α->Prop) (V:View) (n c:Nat) (vs:List Value) (l:List α):Prop where
 len:n=l.length
 le:n<=c
 cap:c*sz<=vs.length
 row:Row sz R V vs l
theorem GR.nil {α:Type}{sz:Nat}{R:View->Value->α->Prop}{V:View}:GR sz R V 0 0 [] []:=⟨rfl,Nat.le_refl _,by simp,Row.nil⟩
theorem GR.mono {α:Type}{sz:Nat}{R:View->Value->α->Prop}{V V':View}{n c:Nat}{vs:List Value}{l:List α}(h:GR sz R V n c vs l)(m:∀v a,R V v a->R V' v a):GR sz R V' n c vs l:=⟨h.len,h.le,h.cap,h.row.le m⟩
theorem GR.snoc {α:Type}{sz:Nat}{R:View->Value->α->Prop}{V:View}{n c:Nat}{vs:List Value}{l:List α}(h:GR sz R V n c vs l){xs:List Value}{a:α}(hx:xs.length=sz)(ha:R V (.agg xs.toArray) a)(h0:0<sz){sp:List Value}{c':Nat}(h1:n+1<=c')(h2:c'*sz<=(n+1)*sz+sp.length) :
  GR sz R V (n+1) c' (vs.take (n*sz)++xs++sp) (l++[a]):=by
 have hn:=h.len
 have hc:=h.cap
 have hl:n*sz<=c*sz:=Nat.mul_le_mul_right _ h.le
 refine ⟨by rw [List.length_append,hn];rfl,h1,?_,?_⟩
 ·have ht:(vs.take (n*sz)).length=n*sz:=by rw [List.length_take];omega
  rw [List.length_append,List.length_append,ht,hx]
  rw [Nat.succ_mul] at h2
  exact h2
 ·have:=h.row.snoc (sp:=sp) hx ha h0
  rw [←hn] at this
  exact this
def kV (l:L3):L3:=if l.1<0\/l.1=0/\l.2.1<0 then bE l else l
theorem Bd.rev {l:L3}(h:Bd l):Bd (bE l):=by
 obtain ⟨h1,h2,h3⟩:=h
 unfold Bd bE
 simp only [Int.natAbs_neg]
 exact ⟨h1,h2,h3⟩
theorem Bd.can {l:L3}(h:Bd l):Bd (kV l):=by
 unfold kV;split
 ·exact h.rev
 ·exact h
theorem Bd.rj {l:L3}(h:Bd l):l_ 1000 l:=⟨h.sz.1,h.sz.2.1,h.sz.2.2⟩
end Go.Proofs.Tryz
namespace Go.Proofs.Tryz.ah
open Go.bF Go.eK
def nv (l:L3)(v:V2):Rat:=(l.1:Rat)*v.1+(l.2.1:Rat)*v.2
def aq (l:L3):V2:=((l.2.1:Rat),-(l.1:Rat))
theorem ER (l:L3)(v:V2):nv l v=cr (aq l) v:=by unfold nv cr aq;grind
theorem DP {q:Rat}:q.num.sign=-1↔q<0:=by
 rw [Int.sign_eq_neg_one_iff_neg,←Int.not_le,←Rat.not_le,Rat.num_nonneg]
theorem IG {q:Rat}:q.num.sign=1↔q>0:=by
 have h:=@DP (-q)
 rw [Rat.neg_num,Int.sign_neg] at h
 constructor
 ·intro e;have:=h.1 (by rw [e]);grind
 ·intro e;have:=h.2 (by grind);omega
theorem mr {q:Rat}:q.num.sign=0↔q=0:=by rw [Int.sign_eq_zero_iff_zero,Rat.num_eq_zero]
def Ph (D:List V2)(M:List L3):Prop:=∀l∈M,∃r∈D,∃c:Rat,c>0/\r=(c*(aq l).1,c*(aq l).2)
theorem C8 {l:L3}{r:V2}{c:Rat}(c0:c>0)(e:r=(c*(aq l).1,c*(aq l).2))(v:V2):cr r v=c*nv l v:=by
 rw [ER,e];unfold cr;grind
theorem EM {c x:Rat}(c0:c>0):(c*x>0↔x>0)/\(c*x<0↔x<0)/\(c*x=0↔x=0):=by
 have p:x>0->c*x>0:=fun h=>mp c0 h
 have n:x<0->c*x<0:=fun h=>by have:=mp c0 (show -x>0 by grind);grind
 have z:x=0->c*x=0:=fun h=>by rw [h];grind
 refine ⟨⟨fun h=>?_,p⟩,⟨fun h=>?_,n⟩,⟨fun h=>?_,z⟩⟩
 ·by_cases q:x>0
  ·exact q
  ·by_cases q':x<0
   ·have:=n q';grind
   ·have:=z (by grind);grind
 ·by_cases q:x<0
  ·exact q
  ·by_cases q':x>0
   ·have:=p q';grind
   ·have:=z (by grind);grind
 ·rcases Rat.mul_eq_zero.1 h with h|h
  ·grind
  ·exact h
theorem Ph.gen {D:List V2}{M:List L3}(h:Ph D M){v:V2}(hv:∀r∈D,cr r v≠0):∀l∈M,nv l v≠0:=by
 intro l hl e
 obtain ⟨r,hr,c,c0,e'⟩:=h l hl
 exact hv r hr (by rw [C8 c0 e',e];grind)
theorem Ph.same {D:List V2}{M:List L3}(h:Ph D M){v x:V2}(hv:∀r∈D,(cr r v>0->cr r x>0)/\(cr r v<0->cr r x<0)) :
  ∀l∈M,(nv l v>0->nv l x>0)/\(nv l v<0->nv l x<0):=by
 intro l hl
 obtain ⟨r,hr,c,c0,e'⟩:=h l hl
 have:=hv r hr
 rw [C8 c0 e',C8 c0 e'] at this
 obtain ⟨a1,a2,_⟩:=@EM c (nv l v) c0
 obtain ⟨b1,b2,_⟩:=@EM c (nv l x) c0
 exact ⟨fun h=>b1.1 (this.1 (a1.2 h)),fun h=>b2.1 (this.2 (a2.2 h))⟩
theorem gX (l:L3)(p v:V2)(s:Rat):au l (p.1+s*v.1) (p.2+s*v.2)=au l p.1 p.2+s*nv l v:=by unfold au nv;grind
theorem inv_mul {c:Rat}(h:c≠0)(a:Rat):a*c⁻¹*c=a:=by rw [Rat.mul_assoc,Rat.inv_mul_cancel _ h,Rat.mul_one]
def half (u:V2):Int:=if u.2.num.sign>0\/u.2.num.sign=0/\u.1.num.sign>0 then 1 else if u.2.num.sign<0\/u.1.num.sign<0 then 2 else 0
def ee (u v:V2):Int:=if half u<half v then -1 else if half u>half v then 1 else -(cr u v).num.sign
theorem lJ {q:Rat}:q.num.sign>0↔q>0:=by
 have:=Rat.num_nonneg (q:=-q)
 rw [Rat.neg_num] at this
 rw [gt_iff_lt,Int.sign_pos_iff]
 have h2:(0<=-q)↔¬q>0:=by constructor<;>intro h<;>grind
 rw [h2] at this
 by_cases h:q>0
 ·exact ⟨fun _=>h,fun _=>by
   have:¬0<=-q.num:=fun g=>this.1 g h
   omega⟩
 ·exact ⟨fun g=>by have:=this.2 h;omega,fun g=>absurd g h⟩
theorem EY {q:Rat}:q.num.sign<0↔q<0:=by
 have:=@lJ (-q)
 rw [Rat.neg_num,Int.sign_neg] at this
 constructor
 ·intro h;have:=this.1 (by omega);grind
 ·intro h;have:=this.2 (by grind);omega
theorem cU (u:V2):half u=1/\up u\/half u=2/\dn u\/half u=0/\u.1=0/\u.2=0:=by
 unfold half up dn
 split
 ·rename_i h;rw [lJ,lJ,mr] at h;exact .inl ⟨rfl,h⟩
 ·rename_i h
  rw [lJ,lJ,mr] at h
  split
  ·rename_i h';rw [EY,EY] at h';exact .inr (.inl ⟨rfl,by grind⟩)
  ·rename_i h';rw [EY,EY] at h';exact .inr (.inr ⟨rfl,by grind,by grind⟩)
theorem pK {u v:V2}:ee u v<0↔half u<half v\/half u=half v/\cr u v>0:=by
 have:=@lJ (cr u v)
 unfold ee
 by_cases h1:half u<half v
 ·simp [h1]
 ·by_cases h2:half u>half v
  ·rw [if_neg h1,if_pos h2];omega
  ·rw [if_neg h1,if_neg h2];constructor
   ·intro h;exact .inr ⟨by omega,this.1 (by omega)⟩
   ·rintro (h|⟨h,h'⟩)
    ·omega
    ·have:=this.2 h';omega
theorem AF {u v:V2}:ee u v=0↔half u=half v/\cr u v=0:=by
 have:=@mr (cr u v)
 unfold ee
 by_cases h1:half u<half v
 ·rw [if_pos h1];constructor
  ·intro h;omega
  ·rintro ⟨h,_⟩;omega
 ·by_cases h2:half u>half v
  ·rw [if_neg h1,if_pos h2];constructor
   ·intro h;omega
   ·rintro ⟨h,_⟩;omega
  ·rw [if_neg h1,if_neg h2];constructor
   ·intro h;exact ⟨by omega,this.1 (by omega)⟩
   ·rintro ⟨_,h⟩;have:=this.2 h;omega
theorem GD (u v:V2):ee u v<0\/ee u v=0\/ee v u<0:=by
 rw [pK,AF,pK]
 have:=Ey u v
 rcases Int.lt_trichotomy (half u) (half v) with h|h|h
 ·exact .inl (.inl h)
 ·by_cases p:cr u v>0
  ·exact .inl (.inr ⟨h,p⟩)
  ·by_cases q:cr u v=0
   ·exact .inr (.inl ⟨h,q⟩)
   ·exact .inr (.inr (.inr ⟨h.symm,by grind⟩))
 ·exact .inr (.inr (.inl h))
theorem yH (u v:V2)(h:ee u v<0):¬ee v u<0:=by
 rw [pK] at *
 have:=Ey u v
 rintro (h'|⟨h',g'⟩)<;>rcases h with h|⟨h,g⟩
 ·omega
 ·omega
 ·omega
 ·grind
theorem Jr {a b d:V2}(rG:half a=half b)(hbd:half b=half d)(h1:cr a b<=0)(h2:cr b d<=0):cr a d<=0:=by
 by_cases h:cr a d<=0
 ·exact h
 exfalso
 have c:cr a d>0:=by grind
 have j1:=Rh a d b
 have j2:=Hy a d b
 rcases cU b with ⟨e,hb⟩|⟨e,hb⟩|⟨e,hb⟩
 ·have ha:up a:=by rcases cU a with ⟨e',h⟩|⟨e',h⟩|⟨e',h⟩<;>first|exact h|omega
  have hd:up d:=by rcases cU d with ⟨e',h⟩|⟨e',h⟩|⟨e',h⟩<;>first|exact h|omega
  unfold up at ha hb hd
  have m1:=mn (show -(cr a b)≥0 by grind) (show d.2≥0 by grind)
  have m2:=mn (show -(cr b d)≥0 by grind) (show a.2≥0 by grind)
  have m3:=mn (show cr a d≥0 by grind) (show b.2≥0 by grind)
  have z3:cr a d*b.2=0:=by grind
  have b2:b.2=0:=by rcases Rat.mul_eq_zero.1 z3 with h|h<;>grind
  have b1:b.1>0:=by grind
  have d2:d.2=0:=by
   by_cases q:d.2>0
   ·have:=mp b1 q;unfold cr at h2;rw [b2] at h2;grind
   ·grind
  have d1:d.1>0:=by grind
  have:=mn (show a.2≥0 by grind) (show d.1≥0 by grind)
  unfold cr at c
  rw [d2] at c
  grind
 ·have ha:dn a:=by rcases cU a with ⟨e',h⟩|⟨e',h⟩|⟨e',h⟩<;>first|exact h|omega
  have hd:dn d:=by rcases cU d with ⟨e',h⟩|⟨e',h⟩|⟨e',h⟩<;>first|exact h|omega
  unfold dn at ha hb hd
  have m1:=mn (show -(cr a b)≥0 by grind) (show -d.2≥0 by grind)
  have m2:=mn (show -(cr b d)≥0 by grind) (show -a.2≥0 by grind)
  have m3:=mn (show cr a d≥0 by grind) (show -b.2≥0 by grind)
  have z3:cr a d*b.2=0:=by grind
  have b2:b.2=0:=by rcases Rat.mul_eq_zero.1 z3 with h|h<;>grind
  have b1:-b.1>0:=by grind
  have d2:d.2=0:=by
   by_cases q:-d.2>0
   ·have:=mp b1 q;unfold cr at h2;rw [b2] at h2;grind
   ·grind
  have d1:d.1<0:=by grind
  have:=mn (show -a.2≥0 by grind) (show -d.1≥0 by grind)
  unfold cr at c
  rw [d2] at c
  grind
 ·have ha:a.1=0/\a.2=0:=by rcases cU a with ⟨e',h⟩|⟨e',h⟩|⟨e',h⟩<;>first|exact h|omega
  unfold cr at c
  rw [ha.1,ha.2] at c
  grind
theorem Lb {u v:V2}:¬ee u v<0↔half v<half u\/half u=half v/\cr u v<=0:=by
 rw [pK]
 constructor
 ·intro h
  rcases Int.lt_trichotomy (half u) (half v) with g|g|g
  ·exact absurd (.inl g) h
  ·exact .inr ⟨g,by by_cases p:cr u v>0;exact absurd (.inr ⟨g,p⟩) h;grind⟩
  ·exact .inl g
 ·rintro (h|⟨h,g⟩) (h'|⟨h',g'⟩)
  ·omega
  ·omega
  ·omega
  ·grind
theorem Lc (a b d:V2)(h:¬ee a b<0)(h':¬ee b d<0):¬ee a d<0:=by
 rw [Lb] at *
 rcases h with h|⟨h,g⟩<;>rcases h' with h'|⟨h',g'⟩
 ·exact .inl (by omega)
 ·exact .inl (by omega)
 ·exact .inl (by omega)
 ·exact .inr ⟨by omega,Jr h h' g g'⟩
theorem GG {u v:V2}(hu:nz u)(h:ee u v=0):∃c:Rat,c>0/\u=(c*v.1,c*v.2):=by
 rw [AF] at h
 obtain ⟨e,c⟩:=h
 have fin:∀k:Rat,k>0->u.1=k*v.1->u.2=k*v.2->∃c:Rat,c>0/\u=(c*v.1,c*v.2):=fun k h0 h1 h2=>⟨k,h0,Prod.ext h1 h2⟩
 have pos:∀x y:Rat,y≠0->x*y>0->x*y⁻¹>0:=fun x y hy h=>by
  have e:=inv_mul hy x
  generalize x*y⁻¹=t at *
  have e2:t*(y*y)=x*y:=by grind
  have:=sq_pos (u:=(y,0)) (.inl hy)
  unfold dt at this
  by_cases q:t>0
  ·exact q
  ·have:=mn (show -t≥0 by grind) (show y*y≥0 by grind);grind
 unfold cr at c
 have two:v.2≠0->u.2*v.2>0->∃c:Rat,c>0/\u=(c*v.1,c*v.2):=fun h0 h1=>by
  refine fin (u.2*v.2⁻¹) (pos _ _ h0 h1) ?_ (inv_mul h0 _).symm
  have:=inv_mul h0 u.1
  have:u.1*v.2*v.2⁻¹=u.2*v.1*v.2⁻¹:=by rw [show u.1*v.2=u.2*v.1 by grind]
  grind
 have one:v.1≠0->u.1*v.1>0->v.2=0->u.2=0->∃c:Rat,c>0/\u=(c*v.1,c*v.2):=fun h0 h1 h2 h3=>
  fin (u.1*v.1⁻¹) (pos _ _ h0 h1) (inv_mul h0 _).symm (by rw [h2,h3];grind)
 rcases cU u with ⟨e1,h⟩|⟨e1,h⟩|⟨e1,h⟩
 ·have h':up v:=by rcases cU v with ⟨e',h⟩|⟨e',h⟩|⟨e',h⟩<;>first|exact h|omega
  unfold up at h h'
  by_cases q:v.2>0
  ·refine two (by grind) ?_
   by_cases q':u.2>0
   ·exact mp q' q
   ·have u2:u.2=0:=by grind
    have:=mp (show u.1>0 by grind) q
    rw [u2] at c;grind
  ·have v2:v.2=0:=by grind
   have v1:v.1>0:=by grind
   by_cases q':u.2>0
   ·have:=mp q' v1;rw [v2] at c;grind
   ·exact one (by grind) (mp (by grind) v1) v2 (by grind)
 ·have h':dn v:=by rcases cU v with ⟨e',h⟩|⟨e',h⟩|⟨e',h⟩<;>first|exact h|omega
  unfold dn at h h'
  by_cases q:v.2<0
  ·refine two (by grind) ?_
   by_cases q':u.2<0
   ·have:=mp (show -u.2>0 by grind) (show -v.2>0 by grind);grind
   ·have u2:u.2=0:=by grind
    have:=mp (show -u.1>0 by grind) (show -v.2>0 by grind)
    rw [u2] at c;grind
  ·have v2:v.2=0:=by grind
   have v1:-v.1>0:=by grind
   by_cases q':u.2<0
   ·have:=mp (show -u.2>0 by grind) v1;rw [v2] at c;grind
   ·refine one (by grind) ?_ v2 (by grind)
    have:=mp (show -u.1>0 by grind) v1;grind
 ·unfold nz at hu;grind
section
variable {D:List V2} (h:Pp D)
include h
end
theorem sJ {a b c x y z:Int}(h1:a*y=b*x)(h2:a*z=c*x)(g:Nat.gcd (Nat.gcd x.natAbs y.natAbs) z.natAbs=1):x.natAbs∣a.natAbs:=by
 have e1:a.natAbs*y.natAbs=b.natAbs*x.natAbs:=by rw [←Int.natAbs_mul,←Int.natAbs_mul,h1]
 have e2:a.natAbs*z.natAbs=c.natAbs*x.natAbs:=by rw [←Int.natAbs_mul,←Int.natAbs_mul,h2]
 have d1:x.natAbs∣a.natAbs*Nat.gcd (Nat.gcd x.natAbs y.natAbs) z.natAbs:=by
  rw [←Nat.gcd_mul_left,←Nat.gcd_mul_left]
  exact Nat.dvd_gcd (Nat.dvd_gcd ⟨a.natAbs,by rw [Nat.mul_comm]⟩ ⟨b.natAbs,by rw [e1,Nat.mul_comm]⟩) ⟨c.natAbs,by rw [e2,Nat.mul_comm]⟩
 rwa [g,Nat.mul_one] at d1
theorem Gb {l m:L3}(ol:cE l=true)(om:cE m=true)(cl:kV l=l)(cm:kV m=m){x y:Rat}(hl:au l x y=0)(hm:au m x y=0)
  (hc:cr (aq l) (aq m)=0):l=m:=by
 unfold cE at ol om
 rw [Bool.and_eq_true,decide_eq_true_iff,decide_eq_true_iff] at ol om
 have c12:l.1*m.2.1=l.2.1*m.1:=by
  unfold cr aq at hc
  have:(l.1:Rat)*(m.2.1:Rat)=(l.2.1:Rat)*(m.1:Rat):=by grind
  exact_mod_cast this
 unfold au at hl hm
 have Ya:(l.1:Rat)*(m.2.1:Rat)=(l.2.1:Rat)*(m.1:Rat):=by exact_mod_cast c12
 have c13:l.1*m.2.2=l.2.2*m.1:=by
  have:(l.1:Rat)*(m.2.2:Rat)=(l.2.2:Rat)*(m.1:Rat):=by grind
  exact_mod_cast this
 have c23:l.2.1*m.2.2=l.2.2*m.2.1:=by
  have:(l.2.1:Rat)*(m.2.2:Rat)=(l.2.2:Rat)*(m.2.1:Rat):=by grind
  exact_mod_cast this
 obtain ⟨Wz,RK⟩:=ol
 obtain ⟨X2,RM⟩:=om
 unfold gx at RK RM
 have Vn:Nat.gcd (Nat.gcd l.2.1.natAbs l.1.natAbs) l.2.2.natAbs=1:=by rw [Nat.gcd_comm l.2.1.natAbs];exact RK
 have Vo:Nat.gcd (Nat.gcd m.2.1.natAbs m.1.natAbs) m.2.2.natAbs=1:=by rw [Nat.gcd_comm m.2.1.natAbs];exact RM
 have a1:l.1.natAbs=m.1.natAbs:=Nat.dvd_antisymm (sJ (a:=m.1) (b:=m.2.1) (c:=m.2.2) (by rw [Int.mul_comm,←c12,Int.mul_comm]) (by rw [Int.mul_comm,←c13,Int.mul_comm]) RK) (sJ c12 c13 RM)
 have a2:l.2.1.natAbs=m.2.1.natAbs:=Nat.dvd_antisymm (sJ (a:=m.2.1) (b:=m.1) (c:=m.2.2) (by rw [Int.mul_comm,c12,Int.mul_comm]) (by rw [Int.mul_comm,←c23,Int.mul_comm]) Vn) (sJ (b:=l.1) (c:=l.2.2) c12.symm c23 Vo)
 have sl:¬(l.1<0\/l.1=0/\l.2.1<0):=fun h=>by
  unfold kV at cl
  rw [if_pos h] at cl
  have e1:-l.1=l.1:=congrArg (fun x:L3=>x.1) cl
  have e2:-l.2.1=l.2.1:=congrArg (fun x:L3=>x.2.1) cl
  omega
 have sm:¬(m.1<0\/m.1=0/\m.2.1<0):=fun h=>by
  unfold kV at cm
  rw [if_pos h] at cm
  have e1:-m.1=m.1:=congrArg (fun x:L3=>x.1) cm
  have e2:-m.2.1=m.2.1:=congrArg (fun x:L3=>x.2.1) cm
  omega
 have e1:l.1=m.1:=by omega
 by_cases z:l.1=0
 ·have e2:l.2.1=m.2.1:=by omega
  have n2:l.2.1≠0:=fun h=>Wz ⟨z,h⟩
  have e3:m.2.2=l.2.2:=Int.eq_of_mul_eq_mul_left n2 (by rw [c23,e2,Int.mul_comm])
  exact Prod.ext e1 (Prod.ext e2 e3.symm)
 ·have e2:m.2.1=l.2.1:=Int.eq_of_mul_eq_mul_left z (by rw [c12,e1,Int.mul_comm])
  have e3:m.2.2=l.2.2:=Int.eq_of_mul_eq_mul_left z (by rw [c13,e1,Int.mul_comm])
  exact Prod.ext e1 (Prod.ext e2.symm e3.symm)
end Go.Proofs.Tryz.ah
namespace Go.Proofs.Tryz.ah
def mx (x:Rat×Rat)(t:Rat):Rat:=x.1+t*(x.2-x.1)
theorem Dx {x:Rat×Rat}{t:Rat}(h1:x.1>0)(h2:x.2>0)(t0:t>0)(t1:t<=1):mx x t>0:=by
 have a:=mn (show 1-t≥0 by grind) (show x.1≥0 by grind)
 have b:=mp t0 h2
 unfold mx;grind
theorem LW {x:Rat×Rat}{t s:Rat}(h1:x.1>0)(hs:mx x s≥0)(s0:s>0)(t0:t>0)(ts:t<=s):mx x t≥0:=by
 unfold mx at *
 have e:s*(x.1+t*(x.2-x.1))=(s-t)*x.1+t*(x.1+s*(x.2-x.1)):=by grind
 have a:=mn (show s-t≥0 by grind) (show x.1≥0 by grind)
 have b:=mn (show t≥0 by grind) hs
 by_cases h:x.1+t*(x.2-x.1)≥0
 ·exact h
 ·have:=mp s0 (show -(x.1+t*(x.2-x.1))>0 by grind)
  grind
theorem sU {y:Rat×Rat}(h1:y.1>0){s:Rat}(s0:s>0)(hs:mx y s<=0):∃t,t>0/\t<=s/\mx y t=0:=by
 have hd:y.1-y.2>0:=by
  by_cases c:y.1-y.2>0
  ·exact c
  ·have:=mn (show s≥0 by grind) (show y.2-y.1≥0 by grind)
   unfold mx at hs;grind
 have e:=inv_mul (show y.1-y.2≠0 by grind) y.1
 have p:=mp h1 (Rat.inv_pos.2 hd)
 refine ⟨y.1*(y.1-y.2)⁻¹,p,?_,?_⟩
 ·generalize y.1*(y.1-y.2)⁻¹=t at *
  by_cases c:t<=s
  ·exact c
  ·have:=mp (show t-s>0 by grind) hd
   unfold mx at hs;grind
 ·generalize y.1*(y.1-y.2)⁻¹=t at *
  unfold mx;grind
theorem Dc:∀(L:List (Rat×Rat)),(∀x∈L,x.1>0)->(∃x∈L,x.2<=0)->∃t,t>0/\t<=1/\(∀x∈L,mx x t≥0)/\∃x∈L,mx x t=0
 | [],_,h=>by obtain ⟨x,hx,_⟩:=h;cases hx
 | y::L,h0,h=>by
  have hy:=h0 y (List.mem_cons_self ..)
  have hL:=fun x hx=>h0 x (List.mem_cons_of_mem y hx)
  by_cases c:∃x∈L,x.2<=0
  ·obtain ⟨t,t0,t1,a,x,hx,e⟩:=Dc L hL c
   by_cases g:mx y t≥0
   ·exact ⟨t,t0,t1,fun z hz=>by rcases List.mem_cons.1 hz with rfl|hz;exact g;exact a z hz,x,List.mem_cons_of_mem _ hx,e⟩
   ·obtain ⟨s,s0,st,es⟩:=sU hy t0 (by grind)
    exact ⟨s,s0,by grind,fun z hz=>by rcases List.mem_cons.1 hz with rfl|hz;grind;exact LW (hL z hz) (a z hz) t0 s0 st,y,List.mem_cons_self ..,es⟩
  ·obtain ⟨x,hx,hx2⟩:=h
   have:x=y:=by
    rcases List.mem_cons.1 hx with rfl|hx
    ·rfl
    ·exact absurd ⟨x,hx,hx2⟩ c
   subst this
   obtain ⟨s,s0,st,es⟩:=sU hy (s:=1) (by decide) (by unfold mx;grind)
   refine ⟨s,s0,st,fun z hz=>?_,x,List.mem_cons_self ..,es⟩
   rcases List.mem_cons.1 hz with rfl|hz
   ·grind
   ·have:z.2>0:=by
     by_cases q:z.2>0
     ·exact q
     ·exact absurd ⟨z,hz,by grind⟩ c
    have:=Dx (hL z hz) this s0 st
    grind
theorem zR:∀(L:List (Rat×Rat)),(∀x∈L,x.1>0)->∃s,s>0/\∀x∈L,x.1+s*x.2>0
 | [],_=>⟨1,by decide,fun x h=>by cases h⟩
 | y::L,h0=>by
  have hy:=h0 y (List.mem_cons_self ..)
  obtain ⟨s,s0,h⟩:=zR L fun x hx=>h0 x (List.mem_cons_of_mem y hx)
  by_cases c:y.1+s*y.2>0
  ·exact ⟨s,s0,fun z hz=>by rcases List.mem_cons.1 hz with rfl|hz;exact c;exact h z hz⟩
  ·have hn:-y.2>0:=by
    by_cases q:y.2<0
    ·grind
    ·have:=mn (show s≥0 by grind) (show y.2≥0 by grind);grind
   have e:=inv_mul (show -y.2≠0 by grind) y.1
   have p:=mp hy (Rat.inv_pos.2 hn)
   generalize y.1*(-y.2)⁻¹=r at *
   have hr:r<=s:=by
    by_cases q:r<=s
    ·exact q
    ·have:=mp (show r-s>0 by grind) hn;grind
   refine ⟨r*(1 / 2),by grind,fun z hz=>?_⟩
   rcases List.mem_cons.1 hz with rfl|hz
   ·grind
   ·have hz1:=h0 z (List.mem_cons_of_mem _ hz)
    have hz2:=h z hz
    by_cases q:z.2≥0
    ·have:=mn (show r*(1 / 2)≥0 by grind) q;grind
    ·have:=mn (show s-r*(1 / 2)≥0 by grind) (show -z.2≥0 by grind)
     grind
def pos (M:List L3)(p:V2):Prop:=∀m∈M,au m p.1 p.2>0
def Es (M:List L3)(l:L3):Prop:=∃p:V2,au l p.1 p.2=0/\∀m∈M,m≠l->au m p.1 p.2>0
def PU (M:List L3):Prop:=∀l∈M,∀m∈M,l≠m->∀p:V2,au l p.1 p.2=0->au m p.1 p.2=0->cr (aq l) (aq m)≠0
theorem J2 {l m:L3}{w:V2}(hw:w.1≠0\/w.2≠0)(h1:nv l w=0)(h2:nv m w=0):cr (aq l) (aq m)=0:=by
 have e1:cr (aq l) (aq m)*w.1=0:=by unfold nv at *;unfold cr aq;grind
 have e2:cr (aq l) (aq m)*w.2=0:=by unfold nv at *;unfold cr aq;grind
 rcases hw with h|h
 ·rcases Rat.mul_eq_zero.1 e1 with g|g;exact g;exact absurd g h
 ·rcases Rat.mul_eq_zero.1 e2 with g|g;exact g;exact absurd g h
theorem zh (u:V2):cr u u=0:=by unfold cr;grind
theorem pt (m:L3)(q p:V2)(t:Rat):au m (q.1+t*(p.1-q.1)) (q.2+t*(p.2-q.2))=au m q.1 q.2+t*(au m p.1 p.2-au m q.1 q.2):=by unfold au;grind
theorem LY (m:L3)(q p:V2)(t:Rat):nv m (q.1+t*(p.1-q.1),q.2+t*(p.2-q.2))=nv m q+t*(nv m p-nv m q):=by unfold nv;grind
theorem LZ (m:L3)(q x:V2):nv m (q.1-x.1,q.2-x.2)=au m q.1 q.2-au m x.1 x.2:=by unfold nv au;grind
theorem Tj {M:List L3}(hd:PU M)(hn:∀m∈M,(aq m).1≠0\/(aq m).2≠0){q p:V2}(hq:pos M q)(hp:∀m∈M,Es M m->au m p.1 p.2>0):pos M p:=by
 intro m0 hm0
 by_cases c:au m0 p.1 p.2>0
 ·exact c
 exfalso
 let f:L3->Rat×Rat:=fun m=>(au m q.1 q.2,au m p.1 p.2)
 obtain ⟨t,t0,t1,ge,x,hx,ex⟩:=Dc (M.map f) (fun x hx=>by obtain ⟨m,hm,rfl⟩:=List.mem_map.1 hx;exact hq m hm) ⟨f m0,List.mem_map_of_mem hm0,by show au m0 p.1 p.2<=0;grind⟩
 obtain ⟨m1,hm1,rfl⟩:=List.mem_map.1 hx
 let X:V2:=(q.1+t*(p.1-q.1),q.2+t*(p.2-q.2))
 have vX:∀m,au m X.1 X.2=mx (f m) t:=fun m=>pt m q p t
 have Vl:∀m∈M,au m X.1 X.2≥0:=fun m hm=>by rw [vX];exact ge _ (List.mem_map_of_mem hm)
 have zX:au m1 X.1 X.2=0:=by rw [vX];exact ex
 let u:V2:=(q.1-X.1,q.2-X.2)
 have vu:∀m,nv m u=au m q.1 q.2-au m X.1 X.2:=fun m=>LZ m q X
 let Z:=M.filter fun m=>decide (au m X.1 X.2=0)
 have JV:∀m,m∈Z↔m∈M/\au m X.1 X.2=0:=fun m=>by simp [Z,List.mem_filter]
 have Wv:m1∈Z:=(JV m1).2 ⟨hm1,zX⟩
 let d:=aq m1
 have d0:nv m1 d=0:=by rw [ER];exact zh _
 let g:L3->Rat×Rat:=fun m=>(nv m u,nv m d)
 obtain ⟨k,k0,k1,Vm,y,hy,ey⟩:=Dc (Z.map g) (fun x hx=>by
  obtain ⟨m,hm,rfl⟩:=List.mem_map.1 hx
  obtain ⟨VT,hz⟩:=(JV m).1 hm
  show nv m u>0
  rw [vu,hz];have:=hq m VT;grind) ⟨g m1,List.mem_map_of_mem Wv,by show nv m1 d<=0;rw [d0];grind⟩
 obtain ⟨m2,hm2,rfl⟩:=List.mem_map.1 hy
 obtain ⟨Ry,Rz⟩:=(JV m2).1 hm2
 let w:V2:=(u.1+k*(d.1-u.1),u.2+k*(d.2-u.2))
 have vw:∀m,nv m w=mx (g m) k:=fun m=>LY m u d k
 have wz:nv m2 w=0:=by rw [vw];exact ey
 have w0:w.1≠0\/w.2≠0:=by
  by_cases e:k=1
  ·have:=hn m1 hm1
   have e1:w.1=d.1:=by dsimp only [w];rw [e];grind
   have e2:w.2=d.2:=by dsimp only [w];rw [e];grind
   rw [e1,e2];exact this
  ·have a:nv m1 w>0:=by
    rw [vw]
    show nv m1 u+k*(nv m1 d-nv m1 u)>0
    rw [d0]
    have:nv m1 u>0:=by rw [vu,zX];have:=hq m1 hm1;grind
    have:=mp (show 1-k>0 by grind) this
    grind
   by_cases e1:w.1=0
   ·by_cases e2:w.2=0
    ·unfold nv at a;rw [e1,e2] at a;grind
    ·exact .inr e2
   ·exact .inl e1
 obtain ⟨s,s0,hs⟩:=zR ((M.filter fun m=>decide (au m X.1 X.2>0)).map fun m=>(au m X.1 X.2,nv m w)) (fun x hx=>by
  obtain ⟨m,hm,rfl⟩:=List.mem_map.1 hx
  simpa using (List.mem_filter.1 hm).2)
 have es:Es M m2:=by
  refine ⟨(X.1+s*w.1,X.2+s*w.2),?_,fun m hm hne=>?_⟩
  ·rw [gX,Rz,wz];grind
  ·rw [gX]
   by_cases z:au m X.1 X.2=0
   ·have VU:=(JV m).2 ⟨hm,z⟩
    have g0:nv m w≥0:=by rw [vw];exact Vm _ (List.mem_map_of_mem VU)
    have ne:nv m w≠0:=fun e=>hd m2 Ry m hm (fun h=>hne h.symm) X Rz z (J2 w0 wz e)
    have:=mp s0 (show nv m w>0 by grind)
    rw [z];grind
   ·have gz:=Vl m hm
    have hmem:(au m X.1 X.2,nv m w)∈((M.filter fun m=>decide (au m X.1 X.2>0)).map fun m=>(au m X.1 X.2,nv m w)):=List.mem_map.2 ⟨m,List.mem_filter.2 ⟨hm,by simp;grind⟩,rfl⟩
    exact hs _ hmem
 have a:=hp m2 Ry es
 have b:=hq m2 Ry
 have:=Dx (x:=f m2) b a t0 t1
 rw [←vX,Rz] at this
 grind
def EO (l:L3):V2:=((l.1:Rat),(l.2.1:Rat))
theorem Sq {x y:Rat}(h:x≠0\/y≠0):x*x+y*y>0:=by
 have p:∀z:Rat,z≠0->z*z>0:=fun z hz=>by
  by_cases c:z>0
  ·exact mp c c
  ·have:=mp (show -z>0 by grind) (show -z>0 by grind);grind
 have q:∀z:Rat,z*z≥0:=fun z=>by
  by_cases c:z≥0
  ·exact mn c c
  ·have:=mn (show -z≥0 by grind) (show -z≥0 by grind);grind
 rcases h with h|h
 ·have:=p x h;have:=q y;grind
 ·have:=p y h;have:=q x;grind
theorem H7 {l:L3}(h:(aq l).1≠0\/(aq l).2≠0):nv l (EO l)>0:=by
 have:nv l (EO l)=(l.1:Rat)*(l.1:Rat)+(l.2.1:Rat)*(l.2.1:Rat):=rfl
 rw [this]
 refine Sq ?_
 rcases h with h|h
 ·exact .inr h
 ·left;intro e;apply h;show -(l.1:Rat)=0;rw [e];grind
theorem ED {M:List L3}(hd:PU M)(hn:∀m∈M,(aq m).1≠0\/(aq m).2≠0){q:V2}(hq:pos M q)(h0:M≠[]):∃l∈M,Es M l:=by
 obtain ⟨l,hl⟩:=List.exists_mem_of_ne_nil M h0
 by_cases c:∃l∈M,Es M l
 ·exact c
 exfalso
 have h1:=H7 (hn l hl)
 have e:=inv_mul (show nv l (EO l)≠0 by grind) (au l q.1 q.2)
 have hp:=Tj hd hn hq (p:=(q.1+-(au l q.1 q.2*(nv l (EO l))⁻¹)*(EO l).1,q.2+-(au l q.1 q.2*(nv l (EO l))⁻¹)*(EO l).2)) (fun m hm he=>absurd ⟨m,hm,he⟩ c) l hl
 rw [gX] at hp
 grind
theorem tW {M:List L3}{l:L3}(hn:(aq l).1≠0\/(aq l).2≠0){x:V2}(hx:au l x.1 x.2=0)(h:∀m∈M,m≠l->au m x.1 x.2>0)(L:List L3)(hL:∀m∈L,au m x.1 x.2>0):∃q:V2,pos M q/\au l q.1 q.2>0/\pos L q:=by
 have h1:=H7 hn
 obtain ⟨s,s0,hs⟩:=zR (((M.filter fun m=>decide (m≠l))++L).map fun m=>(au m x.1 x.2,nv m (EO l))) (fun y hy=>by
  obtain ⟨m,hm,rfl⟩:=List.mem_map.1 hy
  rcases List.mem_append.1 hm with hm|hm
  ·have:=List.mem_filter.1 hm
   exact h m this.1 (by simpa using this.2)
  ·exact hL m hm)
 have hl:au l (x.1+s*(EO l).1) (x.2+s*(EO l).2)>0:=by rw [gX,hx];have:=mp s0 h1;grind
 refine ⟨(x.1+s*(EO l).1,x.2+s*(EO l).2),fun m hm=>?_,hl,fun m hm=>?_⟩
 ·by_cases e:m=l
  ·rw [e];exact hl
  ·rw [gX]
   exact hs (au m x.1 x.2,nv m (EO l)) (List.mem_map.2 ⟨m,List.mem_append_left _ (List.mem_filter.2 ⟨hm,by simpa using e⟩),rfl⟩)
 ·rw [gX]
  exact hs (au m x.1 x.2,nv m (EO l)) (List.mem_map.2 ⟨m,List.mem_append_right _ hm,rfl⟩)
theorem oU {M:List L3}{l:L3}(hno:∀x:V2,au l x.1 x.2=0->¬pos M x){q p:V2}(hq:pos M q)(hp:pos M p):au l q.1 q.2>0->au l p.1 p.2>0:=by
 intro h
 by_cases c:au l p.1 p.2>0
 ·exact c
 exfalso
 obtain ⟨t,t0,t1,e⟩:=sU (y:=(au l q.1 q.2,au l p.1 p.2)) h (s:=1) (by decide) (by unfold mx;grind)
 refine hno (q.1+t*(p.1-q.1),q.2+t*(p.2-q.2)) ?_ fun m hm=>?_
 ·rw [pt];exact e
 ·rw [pt];exact Dx (x:=(au m q.1 q.2,au m p.1 p.2)) (hq m hm) (hp m hm) t0 t1
end Go.Proofs.Tryz.ah
namespace Go.Proofs.Tryz
open Go.bF Go.eK
def Sp.iN (s:Sp)(t:Rat):Prop:=(s.a=true\/s.lo<t)/\(s.b=true\/t<s.hi)
def FT (ss:List Sp)(t:Rat):Prop:=∃s∈ss,s.iN t
def Sp.lA (s:Sp):Prop:=s.can/\s.emp=false
def Sp.Mz (s t:Sp):Prop:=s.b=false/\t.a=false/\s.hi<t.lo
def Gw (ss:List Sp):Prop:=(∀s∈ss,s.lA)/\ss.Pairwise Sp.Mz
theorem pick (E:List Rat):∀l u:Rat,l<u->∃t,l<t/\t<u/\t∉E:=by
 induction E with
 | nil=>exact fun l u h=>⟨(l+u) / 2,by grind,by grind,by simp⟩
 | cons e r ih=>
  intro l u h
  by_cases c:l<e/\e<u
  ·obtain ⟨t,h1,h2,h3⟩:=ih l e c.1
   refine ⟨t,h1,by grind,fun hm=>?_⟩
   rcases List.mem_cons.1 hm with rfl|hm
   ·grind
   ·exact h3 hm
  ·obtain ⟨t,h1,h2,h3⟩:=ih l u h
   refine ⟨t,h1,h2,fun hm=>?_⟩
   rcases List.mem_cons.1 hm with rfl|hm
   ·exact c ⟨h1,h2⟩
   ·exact h3 hm
theorem Bv {s:Sp}(h:s.emp=false)(ha:s.a=false)(hb:s.b=false):s.lo<s.hi:=by
 rcases Sp.fw.1 h with h|h|h
 ·rw [ha] at h;cases h
 ·rw [hb] at h;cases h
 ·exact h
theorem Gw.tail {s:Sp}{r:List Sp}(h:Gw (s::r)):Gw r:=⟨fun x hx=>h.1 x (by simp [hx]),(List.pairwise_cons.1 h.2).2⟩
theorem Gw.Mz {s:Sp}{r:List Sp}(h:Gw (s::r)){x:Sp}(hx:x∈r):s.Mz x:=(List.pairwise_cons.1 h.2).1 x hx
def nl:List Sp->List Rat
 | []=>[]
 | x::_=>[x.lo]
set_option linter.unusedSectionVars false
section
variable {s s':Sp} {r r':List Sp} {E:List Rat} (h:Gw (s :: r)) (h':Gw (s' :: r')) (e:∀t,t ∉ E->FT (s :: r) t->FT (s' :: r') t)
include h h' e
end
theorem Sp.ext' {s t:Sp}(h1:s.a=t.a)(h2:s.b=t.b)(h3:s.lo=t.lo)(h4:s.hi=t.hi):s=t:=by
 cases s;cases t;simp at *;exact ⟨h3,h4,h1,h2⟩
end Go.Proofs.Tryz
namespace Go.Proofs.Tryz
open Go.bF Go.eK
theorem row_one {α:Type}{sz:Nat}{R:View->Value->α->Prop}{V:View}{xs:List Value}{a:α}(hx:xs.length=sz)(ha:R V (.agg xs.toArray) a):Row sz R V xs [a]:=by
 refine ⟨fun i hi=>?_⟩
 obtain rfl:i=0:=by simpa using hi
 exact ⟨xs,hx,ha,fun j x hj=>by rw [Nat.zero_mul,Nat.zero_add];exact hj⟩
theorem DO {α:Type}{sz:Nat}{R:View->Value->α->Prop}{V:View}{vs:List Value}{ls:List α}(h:Row sz R V vs ls){k:Nat}(hk:k<=ls.length){xs sp:List Value}{a:α}(hx:xs.length=sz)(ha:R V (.agg xs.toArray) a)(hs:0<sz) :
  Row sz R V (vs.take (k*sz)++(xs++(vs.take (ls.length*sz)).drop (k*sz))++sp) (ls.take k++a::ls.drop k):=by
 have hl:=h.jq hs
 have hks:k*sz<=ls.length*sz:=Nat.mul_le_mul_right _ hk
 have t1:(vs.take (k*sz)).length=k*sz:=by rw [List.length_take];omega
 have t2:((vs.take (ls.length*sz)).drop (k*sz)).length=ls.length*sz-k*sz:=by rw [List.length_drop,List.length_take];omega
 have a1:(ls.take k).length=k:=by rw [List.length_take];omega
 refine ⟨fun i hi=>?_⟩
 rw [List.append_assoc]
 by_cases c1:i<k
 ·have hi':i<ls.length:=by omega
  obtain ⟨ys,y1,y2,y3⟩:=h.at_ i hi'
  have e:(ls.take k++a::ls.drop k)[i]=ls[i]:=by rw [List.getElem_append_left (by omega),List.getElem_take]
  refine ⟨ys,y1,by rw [e];exact y2,fun j x hj=>?_⟩
  have hj':=(List.getElem?_eq_some_iff.1 hj).1
  have hlt:i*sz+j<k*sz:=by
   have:(i+1)*sz<=k*sz:=Nat.mul_le_mul_right _ c1
   rw [Nat.succ_mul] at this
   omega
  rw [List.getElem?_append_left (by omega),List.getElem?_take,if_pos hlt]
  exact y3 j x hj
 ·by_cases c2:i=k
  ·subst c2
   have e:(ls.take i++a::ls.drop i)[i]=a:=by
    rw [List.getElem_append_right (by omega)]
    simp [a1]
   refine ⟨xs,hx,by rw [e];exact ha,fun j x hj=>?_⟩
   have hj':=(List.getElem?_eq_some_iff.1 hj).1
   rw [List.getElem?_append_right (by omega),t1,Nat.add_sub_cancel_left,List.append_assoc,List.getElem?_append_left hj']
   exact hj
  ·have hi':i-1<ls.length:=by
    rw [List.length_append,a1,List.length_cons,List.length_drop] at hi
    omega
   obtain ⟨ys,y1,y2,y3⟩:=h.at_ (i-1) hi'
   have e:(ls.take k++a::ls.drop k)[i]=ls[i-1]:=by
    rw [List.getElem_append_right (by omega)]
    obtain ⟨m,hm⟩:∃m,i=k+(m+1):=⟨i-k-1,by omega⟩
    subst hm
    simp only [a1,Nat.add_sub_cancel_left,List.getElem_cons_succ,List.getElem_drop]
    congr 1
   refine ⟨ys,y1,by rw [e];exact y2,fun j x hj=>?_⟩
   have hj':=(List.getElem?_eq_some_iff.1 hj).1
   obtain ⟨m,hm⟩:∃m,i=k+1+m:=⟨i-k-1,by omega⟩
   subst hm
   have e1:(k+1+m)*sz=k*sz+sz+m*sz:=by rw [Nat.add_mul,Nat.add_mul,Nat.one_mul]
   have e2:(k+1+m-1)*sz=k*sz+m*sz:=by rw [show k+1+m-1=k+m by omega,Nat.add_mul]
   have:=y3 j x hj
   rw [e2] at this
   have hlt:k*sz+m*sz+j<ls.length*sz:=by
    have:(k+m+1)*sz<=ls.length*sz:=Nat.mul_le_mul_right _ (by omega)
    rw [Nat.add_mul,Nat.add_mul,Nat.one_mul] at this
    omega
   rw [List.getElem?_append_right (by omega),t1,List.append_assoc,List.getElem?_append_right (by omega),hx,List.getElem?_append_left (by omega),List.getElem?_drop,List.getElem?_take,if_pos (by omega)]
   rw [show k*sz+((k+1+m)*sz+j-k*sz-sz)=k*sz+m*sz+j by omega]
   exact this
theorem FR {α:Type}{sz:Nat}{R:View->Value->α->Prop}{V:View}{p:OA}{n:Nat}{ls:List α}(h:cP sz R V p n ls)(hs:0<sz):∃xs:List Value,V.sl p xs/\xs.length=ls.length*sz/\Row sz R V xs ls:=by
 have step:∀k,k<=ls.length->∃xs:List Value,V.sl p xs/\xs.length=k*sz/\Row sz R V xs (ls.take k):=by
  intro k
  induction k with
  | zero=>exact fun _=>⟨[],fun i v hv=>by simp at hv,by simp,by rw [List.take_zero];exact Row.nil⟩
  | succ k ih=>
   intro hk
   obtain ⟨xs,x1,x2,x3⟩:=ih (by omega)
   obtain ⟨ad,ha,ys,y1,y2,y3⟩:=h.at_ k (by omega)
   have hl:(ls.take k).length=k:=by rw [List.length_take];omega
   refine ⟨xs++ys,fun i v hv=>?_,by rw [List.length_append,x2,y1,Nat.succ_mul],?_⟩
   ·by_cases c:i<xs.length
    ·rw [List.getElem?_append_left c] at hv;exact x1 i v hv
    ·rw [List.getElem?_append_right (by omega)] at hv
     cases p with
     | none=>cases ha
     | some a=>
      obtain rfl:=Option.some.inj (show some (a.add (k*sz))=some ad from ha)
      have:=y3 _ v hv
      rw [AD,x2] at this
      rw [show k*sz+(i-k*sz)=i by omega] at this
      exact ⟨a,rfl,this⟩
   ·have:=x3.snoc (sp:=[]) y1 y2 hs
    rw [hl,List.append_nil,List.take_of_length_le (by omega)] at this
    rw [List.take_add_one,List.getElem?_eq_getElem (by omega)]
    exact this
 obtain ⟨xs,x1,x2,x3⟩:=step ls.length (Nat.le_refl _)
 rw [List.take_length] at x3
 exact ⟨xs,x1,x2,x3⟩
theorem kE {α:Type}{sz:Nat}{R:View->Value->α->Prop}{V:View}{vs xs sp:List Value}{ls ms:List α}(h:Row sz R V vs ls)(h':Row sz R V xs ms)(hs:0<sz):Row sz R V (vs.take (ls.length*sz)++xs++sp) (ls++ms):=by
 have hl:=h.jq hs
 have hl':=h'.jq hs
 have ht:(vs.take (ls.length*sz)).length=ls.length*sz:=by rw [List.length_take];omega
 refine ⟨fun i hi=>?_⟩
 by_cases c:i<ls.length
 ·obtain ⟨ys,y1,y2,y3⟩:=h.at_ i c
  refine ⟨ys,y1,by rw [List.getElem_append_left c];exact y2,fun j x hj=>?_⟩
  have hj':=(List.getElem?_eq_some_iff.1 hj).1
  have hlt:i*sz+j<ls.length*sz:=by
   have:(i+1)*sz<=ls.length*sz:=Nat.mul_le_mul_right _ c
   rw [Nat.succ_mul] at this
   omega
  rw [List.append_assoc,List.getElem?_append_left (by omega),List.getElem?_take,if_pos hlt]
  exact y3 j x hj
 ·rw [List.length_append] at hi
  obtain ⟨m,rfl⟩:∃m,i=ls.length+m:=⟨i-ls.length,by omega⟩
  have hm:m<ms.length:=by omega
  obtain ⟨ys,y1,y2,y3⟩:=h'.at_ m hm
  refine ⟨ys,y1,?_,fun j x hj=>?_⟩
  ·have e:(ls++ms)[ls.length+m]=ms[m]:=by rw [List.getElem_append_right (by omega)];simp
   rw [e];exact y2
  ·have hj':=(List.getElem?_eq_some_iff.1 hj).1
   have hlt:m*sz+j<xs.length:=by
    have:(m+1)*sz<=ms.length*sz:=Nat.mul_le_mul_right _ hm
    rw [Nat.succ_mul] at this
    omega
   rw [List.append_assoc,List.getElem?_append_right (by rw [ht,Nat.add_mul];omega),ht,Nat.add_mul,List.getElem?_append_left (by omega)]
   rw [show ls.length*sz+m*sz+j-ls.length*sz=m*sz+j by omega]
   exact y3 j x hj
theorem oZ {α:Type}{sz:Nat}{R:View->Value->α->Prop}{V:View}{vs:List Value}{al:List α}(h:Row sz R V vs al)(hs:0<sz)(hc:∀xs a,R V (.agg (List.toArray xs)) a->∀v∈xs,v.oneCell'=true){m:Nat}(hm:m<al.length*sz){v:Value}(hv:vs[m]?=some v):v.oneCell'=true:=by
 have hi:m / sz<al.length:=Nat.div_lt_of_lt_mul (by rw [Nat.mul_comm];exact hm)
 obtain ⟨xs,hl,hx,hat⟩:=h.at_ (m / sz) hi
 have hlt:m%sz<xs.length:=by rw [hl];exact Nat.mod_lt _ hs
 have e3:m=m / sz*sz+m%sz:=by rw [Nat.mul_comm];exact (Nat.div_add_mod m sz).symm
 have:=hat (m%sz) _ (List.getElem?_eq_getElem hlt)
 rw [←e3,hv] at this
 obtain rfl:=Option.some.inj this
 exact hc xs _ hx _ (List.getElem_mem hlt)
theorem zZ:Sz 2 (((2:Int):Rat)):=⟨by show (2:Int).natAbs<_;decide,by show (1:Nat)<_;decide⟩
theorem gV:Sz 2 (((1:Int):Rat)):=⟨by show (1:Int).natAbs<_;decide,by show (1:Nat)<_;decide⟩
theorem Kj {s:Sp}{k:Nat}(ss:s.sz k):Sz (2*k+10) s.cA:=by
 have z:Sz (2*k+10) (0:Rat):=⟨by show (0:Int).natAbs<_;exact Nat.lt_of_lt_of_le (by decide) (Nat.one_le_two_pow),Nat.one_lt_two_pow (by omega)⟩
 unfold Sp.cA
 split
 ·split
  ·exact z
  ·exact (ss.2.sub gV).mono (by omega)
 ·split
  ·exact (ss.1.add gV).mono (by omega)
  ·exact ((ss.1.add ss.2).mul (gK zZ)).mono (by omega)
theorem Mv.raw {V:View}{v:Value}{l:L3}{s:Sp}(h:Mv V v l s)(ho:Up l s){k:Nat}(sl:l_ k l)(ss:s.sz k)(hk:k<=1000000):∃f:FW,Pl V v f/\f.ok=true/\f.ln=l/\f.sp=s/\f.short:=by
 obtain ⟨b1,p1,n1,c1,b2,p2,n2,c2,b3,p3,n3,c3,b,p,n,c,p',n',c',d,q,m,e,q',m',e',rfl,h1,h2⟩:=h
 obtain ⟨_,_,_,_,_,_,_,_,_,el,x1,x2,x3⟩:=h1
 have el:=congrArg Array.toList (Value.agg.inj el)
 simp only [List.cons.injEq,Value.bool.injEq,Value.slice.injEq,and_true] at el
 obtain ⟨rfl,⟨rfl,rfl,rfl⟩,rfl,⟨rfl,rfl,rfl⟩,rfl,rfl,rfl,rfl⟩:=el
 obtain ⟨_,_,_,_,_,_,_,_,_,_,_,_,_,_,es,y1,y2⟩:=h2
 have es:=congrArg Array.toList (Value.agg.inj es)
 simp only [List.cons.injEq,Value.bool.injEq,Value.slice.injEq,and_true] at es
 obtain ⟨rfl,⟨rfl,rfl,rfl⟩,⟨rfl,rfl,rfl⟩,rfl,⟨rfl,rfl,rfl⟩,⟨rfl,rfl,rfl⟩⟩:=es
 obtain ⟨ok,can,emp⟩:=ho
 obtain ⟨w1,us,vs,r1,o1,e1,z1⟩:=y1.raw can.1
 obtain ⟨w2,ws,ts,r2,o2,e2,z2⟩:=y2.raw can.2
 have i1:=r1
 have i2:=r2
 obtain ⟨_,_,_,_,_,_,f1,-,-⟩:=i1
 obtain ⟨_,_,_,_,_,_,f2,-,-⟩:=i2
 have f1:=congrArg Array.toList (Value.agg.inj f1)
 have f2:=congrArg Array.toList (Value.agg.inj f2)
 simp only [List.cons.injEq,Value.bool.injEq,Value.slice.injEq,and_true] at f1 f2
 obtain ⟨rfl,-⟩:=f1
 obtain ⟨rfl,-⟩:=f2
 have len:∀{z:Int},Sz k (z:Rat)->(ag z.natAbs).length<=1000000:=fun h=>Nat.le_trans (af h.1) hk
 have d1:=z1 k ss.1
 have d2:=z2 k ss.2
 refine ⟨⟨decide (l.1<0),ag l.1.natAbs,decide (l.2.1<0),ag l.2.1.natAbs,decide (l.2.2<0),ag l.2.2.natAbs,b,us,vs,d,ws,ts,s.a,s.b⟩,⟨_,_,_,_,_,_,_,_,_,_,_,_,_,_,_,_,_,_,_,_,_,rfl,⟨_,_,_,_,_,_,_,_,_,rfl,x1,x2,x3⟩,⟨_,_,_,_,_,_,_,_,_,_,_,_,rfl,r1,r2⟩⟩,?_,?_,?_,⟨len sl.1,len sl.2.1,len sl.2.2,Nat.le_trans d1.1 hk,Nat.le_trans d1.2 hk,Nat.le_trans d2.1 hk,Nat.le_trans d2.2 hk⟩⟩
 ·have e3:OQ b us vs d ws ts s.a s.b=s:=by unfold OQ;rw [e1,e2]
  unfold FW.ok okW
  dsimp only
  rw [BG,o1,o2,e3,emp]
  show cE l&&true=true
  rw [ok];rfl
 ·unfold FW.ln T8
  dsimp only
  rw [aG,aG,aG]
 ·unfold FW.sp OQ
  dsimp only
  rw [e1,e2]
theorem zv {c:List Rat}{i:Nat}(h:i<c.length):c.getD i 0=c[i]:=by rw [List.getD_eq_getElem?_getD,List.getElem?_eq_getElem h];rfl
def gT (cuts:List Rat)(i:Nat):Sp:=⟨if 0<i then cuts.getD (i-1) 0 else 0,if i<cuts.length then cuts.getD i 0 else 0,decide (i=0),decide (i=cuts.length)⟩
def HK (out:List Sp)(s:Sp):List Sp:=out.dropLast++[⟨(out.getLastD Sp.zero).lo,s.hi,(out.getLastD Sp.zero).a,s.b⟩]
def fy (cuts:List Rat)(marks:List Bool):Nat->List Sp
 | 0=>[]
 | i+1=>if marks.getD i false=true then (if 0<i/\marks.getD (i-1) false=true/\0<(fy cuts marks i).length then HK (fy cuts marks i) (gT cuts i) else fy cuts marks i++[gT cuts i]) else fy cuts marks i
end Go.Proofs.Tryz
namespace Go.Proofs.Tryz
open Go.bF Go.eK
set_option linter.unusedSectionVars false
def jA (c:List Rat):Prop:=c.Pairwise (·< ·)
section
variable {c:List Rat} (h:jA c)
include h
theorem yL {i j:Nat}(Lv:i<j)(hj:j<c.length):c.getD i 0<c.getD j 0:=by
 rw [zv (by omega),zv hj]
 exact List.pairwise_iff_getElem.1 h i j (by omega) hj Lv
omit h
include h
theorem Hf {i:Nat}(hi:i<=c.length):(gT c i).lA:=by
 refine ⟨⟨fun e=>?_,fun e=>?_⟩,Sp.fw.2 ?_⟩
 ·have e:i=0:=of_decide_eq_true e
  subst e;rfl
 ·have e:i=c.length:=of_decide_eq_true e
  subst e
  exact if_neg (Nat.lt_irrefl _)
 ·by_cases h0:i=0
  ·exact .inl (decide_eq_true h0)
  ·by_cases h1:i=c.length
   ·exact .inr (.inl (decide_eq_true h1))
   ·refine .inr (.inr ?_)
    show (if 0<i then c.getD (i-1) 0 else 0)<(if i<c.length then c.getD i 0 else 0)
    rw [if_pos (by omega),if_pos (by omega)]
    exact yL h (by omega) (by omega)
omit h
end
section
variable {c:List Rat} {ms:List Bool}
structure FI (c:List Rat) (ms:List Bool) (i:Nat):Prop where
 r:Gw (fy c ms i)
 mem:∀t,t∉c->(FT (fy c ms i) t↔∃j,j<i/\ms.getD j false=true/\(gT c j).iN t)
 top:0<i->i<=c.length->∀s∈fy c ms i,s.b=false/\s.hi<=c.getD (i-1) 0
 str:0<i->i<=c.length->ms.getD (i-1) false=false->∀s∈fy c ms i,s.hi<c.getD (i-1) 0
 last:0<i->i<=c.length->ms.getD (i-1) false=true->∃l0 l,fy c ms i=l0++[l]/\l.hi=c.getD (i-1) 0
theorem qk {ss:List Sp}{s:Sp}{t:Rat}:FT (ss++[s]) t↔FT ss t\/s.iN t:=by
 unfold FT
 constructor
 ·rintro ⟨x,hx,hi⟩
  rcases List.mem_append.1 hx with hx|hx
  ·exact .inl ⟨x,hx,hi⟩
  ·obtain rfl:x=s:=by simpa using hx
   exact .inr hi
 ·rintro (⟨x,hx,hi⟩|hi)
  ·exact ⟨x,by simp [hx],hi⟩
  ·exact ⟨s,by simp,hi⟩
theorem BV {ss:List Sp}{s:Sp}(h:Gw ss)(hs:s.lA)(hb:∀x∈ss,x.Mz s):Gw (ss++[s]):=by
 refine ⟨fun x hx=>?_,List.pairwise_append.2 ⟨h.2,by simp,fun x hx y hy=>?_⟩⟩
 ·rcases List.mem_append.1 hx with hx|hx
  ·exact h.1 x hx
  ·obtain rfl:x=s:=by simpa using hx
   exact hs
 ·obtain rfl:y=s:=by simpa using hy
  exact hb x hx
theorem Ix {ss:List Sp}{s:Sp}(h:Gw (ss++[s])):Gw ss/\s.lA/\∀x∈ss,x.Mz s:=by
 obtain ⟨h1,-,h3⟩:=List.pairwise_append.1 h.2
 exact ⟨⟨fun x hx=>h.1 x (by simp [hx]),h1⟩,h.1 s (by simp),fun x hx=>h3 x hx s (by simp)⟩
theorem zu {P:Nat->Prop}{i:Nat}:(∃j,j<i+1/\P j)↔(∃j,j<i/\P j)\/P i:=by
 constructor
 ·rintro ⟨j,hj,hp⟩
  rcases Nat.lt_or_ge j i with h|h
  ·exact .inl ⟨j,h,hp⟩
  ·obtain rfl:j=i:=by omega
   exact .inr hp
 ·rintro (⟨j,hj,hp⟩|hp)
  ·exact ⟨j,by omega,hp⟩
  ·exact ⟨i,by omega,hp⟩
theorem Jx (h:jA c){i:Nat}(hi:i<=c.length)(F:FI c ms i):FI c ms (i+1):=by
 have hg:=Hf h hi
 have Pw:i<c.length->(gT c i).hi=c.getD i 0:=fun h0=>if_pos h0
 have Px:0<i->(gT c i).lo=c.getD (i-1) 0:=fun h0=>if_pos h0
 have ga:0<i->(gT c i).a=false:=fun h0=>decide_eq_false (by omega)
 have gb:i<c.length->(gT c i).b=false:=fun h0=>decide_eq_false (by omega)
 by_cases hm:ms.getD i false=true
 ·have hne:¬ms.getD i false=false:=by rw [hm];decide
  by_cases h0:0<i/\ms.getD (i-1) false=true
  ·obtain ⟨l0,l,el,hl⟩:=F.last h0.1 hi h0.2
   have e:fy c ms (i+1)=l0++[⟨l.lo,(gT c i).hi,l.a,(gT c i).b⟩]:=by
    rw [fy,if_pos hm,if_pos ⟨h0.1,h0.2,by rw [el];simp⟩,el]
    simp [HK]
   have F1:=F.r
   rw [el] at F1
   obtain ⟨f1,f2,f3⟩:=Ix F1
   have hlb:l.b=false:=(F.top h0.1 hi l (by rw [el];simp)).1
   have hgood:(⟨l.lo,(gT c i).hi,l.a,(gT c i).b⟩:Sp).lA:=by
    refine ⟨⟨f2.1.1,hg.1.2⟩,Sp.fw.2 ?_⟩
    dsimp only
    cases ha:l.a with
    | true=>exact .inl rfl
    | false=>
     cases hb:(gT c i).b with
     | true=>exact .inr (.inl rfl)
     | false=>
      have h1:=Bv f2.2 ha hlb
      have h2:=Bv hg.2 (ga h0.1) hb
      rw [Px h0.1] at h2
      exact .inr (.inr (by grind))
   refine ⟨?_,fun t ht=>?_,fun _ hi1 s hs=>?_,fun _ hi1 hx=>?_,fun _ hi1 _=>?_⟩
   ·rw [e]
    exact BV f1 hgood fun x hx=>⟨(f3 x hx).1,(f3 x hx).2.1,(f3 x hx).2.2⟩
   ·rw [e,zu,←F.mem t ht,qk,el,qk,or_assoc]
    refine or_congr Iff.rfl ?_
    have hk:(gT c i).iN t↔c.getD (i-1) 0<t/\((gT c i).b=true\/t<(gT c i).hi):=by
     unfold Sp.iN;rw [ga h0.1,Px h0.1];simp
    have hne':t≠c.getD (i-1) 0:=by
     rintro rfl
     rw [zv (by omega)] at ht
     exact ht (List.getElem_mem _)
    rw [hk]
    show (l.a=true\/l.lo<t)/\((gT c i).b=true\/t<(gT c i).hi)↔((l.a=true\/l.lo<t)/\(l.b=true\/t<l.hi))\/_
    rw [hl,hlb]
    have h1:l.a=true\/l.lo<c.getD (i-1) 0:=by
     cases ha:l.a with
     | true=>exact .inl rfl
     | false=>have:=Bv f2.2 ha hlb;rw [hl] at this;exact .inr this
    have h2:(gT c i).b=true\/c.getD (i-1) 0<(gT c i).hi:=by
     cases hb:(gT c i).b with
     | true=>exact .inl rfl
     | false=>have:=Bv hg.2 (ga h0.1) hb;rw [Px h0.1] at this;exact .inr this
    constructor
    ·rintro ⟨g1,g2⟩
     by_cases g:t<c.getD (i-1) 0
     ·exact .inl ⟨g1,.inr g⟩
     ·exact .inr ⟨hm,by grind,g2⟩
    ·rintro (⟨g1,g2⟩|⟨-,g1,g2⟩)
     ·have g3:t<c.getD (i-1) 0:=by
       rcases g2 with g2|g2
       ·cases g2
       ·exact g2
      exact ⟨g1,h2.imp_right fun h2=>by grind⟩
     ·exact ⟨h1.imp_right fun h1=>by grind,g2⟩
   ·rw [e] at hs
    rw [Nat.add_sub_cancel]
    rcases List.mem_append.1 hs with hs|hs
    ·have b:=f3 s hs
     refine ⟨b.1,?_⟩
     have h1:l.lo<c.getD (i-1) 0:=by have:=Bv f2.2 b.2.1 hlb;rwa [hl] at this
     have h2:=yL h (show i-1<i by omega) hi1
     have:=b.2.2
     grind
    ·obtain rfl:s=_:=by simpa using hs
     refine ⟨gb hi1,?_⟩
     show (gT c i).hi<=_
     rw [Pw hi1];grind
   ·rw [Nat.add_sub_cancel] at hx;exact absurd hx hne
   ·rw [Nat.add_sub_cancel]
    exact ⟨l0,_,e,Pw hi1⟩
  ·have e:fy c ms (i+1)=fy c ms i++[gT c i]:=by
    rw [fy,if_pos hm,if_neg (fun g=>h0 ⟨g.1,g.2.1⟩)]
   have hb:∀x∈fy c ms i,x.Mz (gT c i):=fun x hx=>by
    by_cases hz:0<i
    ·have VV:ms.getD (i-1) false=false:=by
      cases hq:ms.getD (i-1) false with
      | false=>rfl
      | true=>exact absurd ⟨hz,hq⟩ h0
     exact ⟨(F.top hz hi x hx).1,ga hz,by rw [Px hz];exact F.str hz hi VV x hx⟩
    ·obtain rfl:i=0:=by omega
     cases hx
   refine ⟨?_,fun t ht=>?_,fun _ hi1 s hs=>?_,fun _ hi1 hx=>?_,fun _ hi1 _=>?_⟩
   ·rw [e];exact BV F.r hg hb
   ·rw [e,zu,←F.mem t ht,qk]
    exact or_congr Iff.rfl ⟨fun g=>⟨hm,g⟩,fun g=>g.2⟩
   ·rw [e] at hs
    rw [Nat.add_sub_cancel]
    rcases List.mem_append.1 hs with hs|hs
    ·refine ⟨(hb s hs).1,?_⟩
     by_cases hz:0<i
     ·have h1:=(F.top hz hi s hs).2
      have h2:=yL h (show i-1<i by omega) hi1
      grind
     ·obtain rfl:i=0:=by omega
      cases hs
    ·obtain rfl:s=_:=by simpa using hs
     refine ⟨gb hi1,?_⟩
     rw [Pw hi1];grind
   ·rw [Nat.add_sub_cancel] at hx;exact absurd hx hne
   ·rw [Nat.add_sub_cancel]
    exact ⟨_,_,e,Pw hi1⟩
 ·have e:fy c ms (i+1)=fy c ms i:=by rw [fy,if_neg hm]
  have hlt:i<c.length->∀s∈fy c ms i,s.b=false/\s.hi<c.getD i 0:=fun hi1 s hs=>by
   by_cases hz:0<i
   ·obtain ⟨h1,h2⟩:=F.top hz hi s hs
    have h3:=yL h (show i-1<i by omega) hi1
    exact ⟨h1,by grind⟩
   ·obtain rfl:i=0:=by omega
    cases hs
  refine ⟨by rw [e];exact F.r,fun t ht=>?_,fun _ hi1 s hs=>?_,fun _ hi1 hx s hs=>?_,fun _ hi1 hx=>?_⟩
  ·rw [e,zu,F.mem t ht]
   exact ⟨.inl,fun g=>g.elim id fun g=>absurd g.1 hm⟩
  ·rw [e] at hs
   rw [Nat.add_sub_cancel]
   obtain ⟨h1,h2⟩:=hlt hi1 s hs
   exact ⟨h1,by grind⟩
  ·rw [e] at hs
   rw [Nat.add_sub_cancel]
   exact (hlt hi1 s hs).2
  ·rw [Nat.add_sub_cancel] at hx;exact absurd hx hm
theorem fi (h:jA c):∀{i:Nat},i<=c.length+1->FI c ms i:=by
 intro i
 induction i with
 | zero=>exact fun _=>⟨⟨(fun _ h=>by cases h),List.Pairwise.nil⟩,(fun t _=>⟨(fun ⟨_,h,_⟩=>by cases h),(fun ⟨_,h,_⟩=>absurd h (Nat.not_lt_zero _))⟩),(fun h=>absurd h (Nat.lt_irrefl _)),(fun h=>absurd h (Nat.lt_irrefl _)),(fun h=>absurd h (Nat.lt_irrefl _))⟩
 | succ i ih=>exact fun hi=>Jx h (by omega) (ih (by omega))
end
end Go.Proofs.Tryz
namespace Go.Proofs.Tryz
open Go.bF Go.eK
theorem BA {s u:Sp}{t:Rat}:(s.meet u).iN t↔s.iN t/\u.iN t:=by
 have h1:kW s.lo u.lo<t↔s.lo<t/\u.lo<t:=by
  unfold kW
  rcases kn u.lo s.lo with ⟨h,e⟩|⟨h,e⟩|⟨h,e⟩<;>rw [e]<;>simp<;>grind
 have h2:t<kX s.hi u.hi↔t<s.hi/\t<u.hi:=by
  unfold kX
  rcases kn u.hi s.hi with ⟨h,e⟩|⟨h,e⟩|⟨h,e⟩<;>rw [e]<;>simp<;>grind
 unfold Sp.iN Sp.meet
 cases s.a<;>cases s.b<;>cases u.a<;>cases u.b<;>simp [h1,h2]<;>grind
theorem gC {l:L3}(h:Nz l)(t:Rat):au l (ef l t) (eg l t)=0/\FY l (ef l t) (eg l t)=t:=by
 have hn:=h.norm
 have hi:=Rat.mul_inv_cancel _ hn
 unfold au FY ef eg
 unfold iB at *
 constructor<;>grind
theorem DX {l m:L3}(h:bz l m≠0):au l (CJ l m) (CK l m)=0/\au m (CJ l m) (CK l m)=0:=by
 have hi:=Rat.mul_inv_cancel _ h
 unfold au CJ CK
 constructor
 ·have e:(l.1:Rat)*(((l.2.1:Rat)*(m.2.2:Rat)-(l.2.2:Rat)*(m.2.1:Rat))*(bz l m)⁻¹)+(l.2.1:Rat)*(((l.2.2:Rat)*(m.1:Rat)-(l.1:Rat)*(m.2.2:Rat))*(bz l m)⁻¹)+(l.2.2:Rat)=(l.2.2:Rat)*(1-bz l m*(bz l m)⁻¹):=by
   generalize hc:(bz l m)⁻¹=c
   unfold bz
   grind
  rw [e,hi];grind
 ·have e:(m.1:Rat)*(((l.2.1:Rat)*(m.2.2:Rat)-(l.2.2:Rat)*(m.2.1:Rat))*(bz l m)⁻¹)+(m.2.1:Rat)*(((l.2.2:Rat)*(m.1:Rat)-(l.1:Rat)*(m.2.2:Rat))*(bz l m)⁻¹)+(m.2.2:Rat)=(m.2.2:Rat)*(1-bz l m*(bz l m)⁻¹):=by
   generalize hc:(bz l m)⁻¹=c
   unfold bz
   grind
  rw [e,hi];grind
theorem Ev (l:L3):kV (kV l)=kV l:=by
 unfold kV
 by_cases h:l.1<0\/l.1=0/\l.2.1<0
 ·rw [if_pos h,if_neg]
  unfold bE
  dsimp only
  omega
 ·rw [if_neg h,if_neg h]
theorem H_ {l:L3}(h:cE l=true):cE (kV l)=true:=by
 unfold kV
 split
 ·unfold cE bE gx at *
  simp only [Int.natAbs_neg]
  rw [Bool.and_eq_true,decide_eq_true_iff,decide_eq_true_iff] at h ⊢
  exact ⟨fun e=>h.1 ⟨by omega,by omega⟩,h.2⟩
 ·exact h
theorem fF {l:L3}(h:cE l=true):¬(l.1=0/\l.2.1=0):=by
 unfold cE at h
 rw [Bool.and_eq_true,decide_eq_true_iff] at h
 exact h.1
theorem eN {s:Sp}:s.emp=false↔∃t,s.iN t:=by
 constructor
 ·intro h
  obtain ⟨h1,h2⟩:=Sp.EX h
  refine ⟨s.cA,?_,?_⟩
  ·cases ha:s.a
   ·exact .inr (h1 ha)
   ·exact .inl rfl
  ·cases hb:s.b
   ·exact .inr (h2 hb)
   ·exact .inl rfl
 ·rintro ⟨t,h1,h2⟩
  rw [Sp.fw]
  rcases h1 with h1|h1
  ·exact .inl h1
  ·rcases h2 with h2|h2
   ·exact .inr (.inl h2)
   ·exact .inr (.inr (by grind))
theorem iZ {l:L3}{s:Sp}{m:L3} :
  (cH l s m=true->∀t,(cq l s m).iN t↔s.iN t/\0<au m (ef l t) (eg l t))/\(s.emp=false->cH l s m=false->∀t,s.iN t->¬0<au m (ef l t) (eg l t)):=by
 have key:bj m l≠0->∀t,(cq l s m).iN t↔s.iN t/\0<dv m l+bj m l*t:=fun hd t=>by
  have hi:=Rat.mul_inv_cancel _ hd
  unfold cq
  rcases kH (bj m l) with ⟨h,e⟩|⟨h,e⟩|⟨h,e⟩
  ·exact absurd h hd
  ·rw [e]
   show (s.meet ⟨bS m l,0,false,true⟩).iN t↔_
   rw [BA]
   have e2:bj m l*(t-bS m l)=dv m l+bj m l*t:=by unfold bS;grind
   have:(⟨bS m l,0,false,true⟩:Sp).iN t↔bS m l<t:=by unfold Sp.iN;simp
   rw [this,←e2]
   refine and_congr_right fun _=>⟨fun h'=>Rat.mul_pos h (by grind),fun h'=>?_⟩
   by_cases c:bS m l<t
   ·exact c
   ·have:=Rat.mul_nonneg (show 0<=bj m l by grind) (show 0<=bS m l-t by grind)
    grind
  ·rw [e]
   show (s.meet ⟨0,bS m l,true,false⟩).iN t↔_
   rw [BA]
   have e2:-bj m l*(bS m l-t)=dv m l+bj m l*t:=by unfold bS;grind
   have:(⟨0,bS m l,true,false⟩:Sp).iN t↔t<bS m l:=by unfold Sp.iN;simp
   rw [this,←e2]
   refine and_congr_right fun _=>⟨fun h'=>Rat.mul_pos (by grind) (by grind),fun h'=>?_⟩
   by_cases c:t<bS m l
   ·exact c
   ·have:=Rat.mul_nonneg (show 0<=-bj m l by grind) (show 0<=t-bS m l by grind)
    grind
 by_cases hd:bj m l=0
 ·have ec:cq l s m=s:=by unfold cq;rw [hd];rfl
  have eb:cH l s m=decide ((dv m l).num.sign>0):=by unfold cH;rw [hd];rfl
  constructor
  ·intro hb t
   rw [ec,bG,hd]
   rw [eb] at hb
   have hb:(dv m l).num.sign>0:=by simpa using hb
   have:0<dv m l:=by
    rcases kH (dv m l) with ⟨h,e⟩|⟨h,e⟩|⟨h,e⟩
    ·omega
    ·exact h
    ·omega
   exact ⟨fun h=>⟨h,by grind⟩,fun h=>h.1⟩
  ·intro _ hb t _ hp
   rw [bG,hd] at hp
   rw [eb] at hb
   have hb:¬(dv m l).num.sign>0:=by simpa using hb
   rcases kH (dv m l) with ⟨h,e⟩|⟨h,e⟩|⟨h,e⟩
   ·grind
   ·omega
   ·grind
 ·have eb:cH l s m=!(cq l s m).emp:=by
   unfold cH
   rcases kH (bj m l) with ⟨h,e⟩|⟨h,e⟩|⟨h,e⟩
   ·exact absurd h hd
   ·rw [e];rfl
   ·rw [e];rfl
  constructor
  ·intro _ t
   rw [bG];exact key hd t
  ·intro _ hb t ht hp
   rw [bG] at hp
   rw [eb] at hb
   have:=eN.2 ⟨t,(key hd t).2 ⟨ht,hp⟩⟩
   rw [this] at hb;cases hb
theorem lq {l:L3}{s:Sp}{m:L3}(hs:s.lA)(hb:cH l s m=true):(cq l s m).lA:=⟨G5 hs.1,G4 hs.2 hb⟩
abbrev Sd:=L3×Sp
def bD:List Sd->L3->Sp->Option Sp
 | [],_,v=>some v
 | s::c,l,v=>if cH l v s.1 then bD c l (cq l v s.1) else none
theorem ml:∀{c:List Sd} {l:L3} {v w:Sp},v.lA->bD c l v=some w->w.lA/\∀t,w.iN t↔v.iN t/\∀s∈c,0<au s.1 (ef l t) (eg l t)
 | [],_,v,w,h,e=>by cases e;exact ⟨h,fun t=>⟨fun g=>⟨g,fun s hs=>by cases hs⟩,fun g=>g.1⟩⟩
 | s::c,l,v,w,h,e=>by
  unfold bD at e
  split at e
  ·rename_i hb
   obtain ⟨g1,g2⟩:=ml (lq h hb) e
   refine ⟨g1,fun t=>?_⟩
   rw [g2,(iZ.1 hb t)]
   simp only [List.forall_mem_cons,and_assoc]
  ·cases e
theorem qo:∀{c:List Sd} {l:L3} {v:Sp},v.lA->bD c l v=none->∀t,v.iN t->¬∀s∈c,0<au s.1 (ef l t) (eg l t)
 | [],_,v,h,e=>by cases e
 | s::c,l,v,h,e=>by
  intro t ht hall
  unfold bD at e
  split at e
  ·rename_i hb
   exact qo (lq h hb) e t ((iZ.1 hb t).2 ⟨ht,hall s (List.mem_cons_self ..)⟩) fun u hu=>hall u (List.mem_cons_of_mem _ hu)
  ·rename_i hb
   exact iZ.2 h.2 (by simpa using hb) t ht (hall s (List.mem_cons_self ..))
theorem tL (l:L3):kV l=l\/kV l=bE l:=by unfold kV;split;exact .inr rfl;exact .inl rfl
theorem rev_rev (l:L3):bE (bE l)=l:=by unfold bE;simp
theorem zo (l:L3):ah.aq (bE l)=(-(ah.aq l).1,-(ah.aq l).2):=by unfold ah.aq bE;simp only [Rat.intCast_neg]
theorem nF {l:L3}(h:cE l=true):(ah.aq l).1≠0\/(ah.aq l).2≠0:=by
 have:=fF h
 unfold ah.aq
 by_cases e:l.2.1=0
 ·right;intro e'
  have:(l.1:Rat)=0:=by grind
  exact fF h ⟨by exact_mod_cast this,e⟩
 ·left;show (l.2.1:Rat)≠0;exact_mod_cast e
theorem IE {l m:L3}(ol:cE l=true)(om:cE m=true){p:ah.V2}(h1:au l p.1 p.2=0)(h2:au m p.1 p.2=0)(hc:ah.cr (ah.aq l) (ah.aq m)=0):l=m\/l=bE m:=by
 have vz:∀{x:L3},au x p.1 p.2=0->au (kV x) p.1 p.2=0:=fun {x} h=>by
  rcases tL x with e|e<;>rw [e]
  ·exact h
  ·rw [val_rev];grind
 have c0:ah.cr (ah.aq (kV l)) (ah.aq (kV m))=0:=by
  unfold ah.cr at *
  rcases tL l with e|e<;>rcases tL m with e'|e'<;>rw [e,e']<;>(try rw [zo l])<;>(try rw [zo m])<;>(try dsimp only)<;>grind
 have:=ah.Gb (H_ ol) (H_ om) (Ev l) (Ev m) (vz h1) (vz h2) c0
 rcases tL l with e|e<;>rcases tL m with e'|e'<;>rw [e,e'] at this
 ·exact .inl this
 ·exact .inr this
 ·right;rw [←this,rev_rev]
 ·left;have:=congrArg bE this;rwa [rev_rev,rev_rev] at this
theorem C9 {M:List L3}(hk:∀m∈M,cE m=true){q:ah.V2}(hq:ah.pos M q):ah.PU M:=by
 intro l hl m hm hne p h1 h2 hc
 rcases IE (hk l hl) (hk m hm) h1 h2 hc with e|e
 ·exact hne e
 ·have a:=hq l hl
  have b:=hq m hm
  rw [e,val_rev] at a
  grind
theorem kv {l:L3}(h:Nz l){x y:Rat}(hp:au l x y=0):∃t,x=ef l t/\y=eg l t:=by
 have hi:=Rat.mul_inv_cancel _ h.norm
 unfold au at hp
 refine ⟨FY l x y,?_,?_⟩
 ·unfold ef FY iB at *;grind
 ·unfold eg FY iB at *;grind
def aA:Sp:=⟨0,0,true,true⟩
theorem fR:aA.lA:=⟨⟨fun _=>rfl,fun _=>rfl⟩,rfl⟩
theorem lx (t:Rat):aA.iN t:=⟨.inl rfl,.inl rfl⟩
structure dS (M:List L3) (c:List Sd):Prop where
 pos:∃q,ah.pos M q
 mem:∀s∈c,s.1∈M/\s.2.lA/\∀t,s.2.iN t↔∀m∈M,m≠s.1->0<au m (ef s.1 t) (eg s.1 t)
 all:∀l∈M,ah.Es M l->∃v,(l,v)∈c
 jA:c.Pairwise fun s u=>ah.ee (ah.aq s.1) (ah.aq u.1)<0
def iQ (x:Sd):List Sd->List Sd
 | []=>[x]
 | s::r=>if ah.ee (ah.aq s.1) (ah.aq x.1)<0 then s::iQ x r else x::s::r
def iO (c:List Sd)(l:L3):List Sd:=c.filterMap fun s=>if cH s.1 s.2 l then some (s.1,cq s.1 s.2 l) else none
def cV:List Sd->L3->Int
 | [],_=>-1
 | s::c,l=>if (au l (ef s.1 s.2.cA) (eg s.1 s.2.cA)).num.sign≠0 then (au l (ef s.1 s.2.cA) (eg s.1 s.2.cA)).num.sign else if s.1=l then 1 else cV c l
def bo (c:List Sd)(l:L3):Option (List Sd):=
 match bD c l aA with
 | some v=>some (iQ (l,v) (iO c l))
 | none=>if 0<cV c l then some c else none
theorem lB {x y:Sd}:∀{r:List Sd},y∈iQ x r↔y=x\/y∈r
 | []=>by simp [iQ]
 | s::r=>by
  unfold iQ
  split
  ·rw [List.mem_cons,lB,List.mem_cons];exact or_left_comm
  ·rw [List.mem_cons]
theorem yI {a b d:ah.V2}(h:ah.ee a b<0)(h':ah.ee b d<0):ah.ee a d<0:=by
 by_cases q:ah.ee a d<0
 ·exact q
 ·exact absurd h (ah.Lc _ _ _ q (ah.yH _ _ h'))
theorem Bo {x:Sd}:∀{r:List Sd},(r.Pairwise fun s u=>ah.ee (ah.aq s.1) (ah.aq u.1)<0)->(∀s∈r,ah.ee (ah.aq s.1) (ah.aq x.1)≠0)->(iQ x r).Pairwise fun s u=>ah.ee (ah.aq s.1) (ah.aq u.1)<0
 | [],_,_=>List.pairwise_singleton ..
 | s::r,h,hn=>by
  obtain ⟨h1,h2⟩:=List.pairwise_cons.1 h
  unfold iQ
  split
  ·rename_i hs
   refine List.pairwise_cons.2 ⟨fun y hy=>?_,Bo h2 fun u hu=>hn u (List.mem_cons_of_mem _ hu)⟩
   rcases lB.1 hy with rfl|hy
   ·exact hs
   ·exact h1 y hy
  ·rename_i hs
   have hx:ah.ee (ah.aq x.1) (ah.aq s.1)<0:=by
    rcases ah.GD (ah.aq s.1) (ah.aq x.1) with g|g|g
    ·exact absurd g hs
    ·exact absurd g (hn s (List.mem_cons_self ..))
    ·exact g
   refine List.pairwise_cons.2 ⟨fun y hy=>?_,h⟩
   rcases List.mem_cons.1 hy with rfl|hy
   ·exact hx
   ·exact yI hx (h1 y hy)
theorem A4 {c:List Sd}{l:L3}{y:Sd}:y∈iO c l↔∃s∈c,cH s.1 s.2 l=true/\y=(s.1,cq s.1 s.2 l):=by
 unfold iO
 rw [List.mem_filterMap]
 constructor
 ·rintro ⟨s,hs,e⟩
  split at e
  ·rename_i hb;cases e;exact ⟨s,hs,hb,rfl⟩
  ·cases e
 ·rintro ⟨s,hs,hb,rfl⟩
  exact ⟨s,hs,by rw [if_pos hb]⟩
theorem A3 {c:List Sd}{l:L3}(h:c.Pairwise fun s u=>ah.ee (ah.aq s.1) (ah.aq u.1)<0):(iO c l).Pairwise fun s u=>ah.ee (ah.aq s.1) (ah.aq u.1)<0:=by
 unfold iO
 refine List.Pairwise.filterMap _ ?_ h
 intro a b rG x hx y hy
 split at hx
 ·split at hy
  ·cases hx;cases hy;exact rG
  ·cases hy
 ·cases hx
theorem BJ {l s:L3}(hl:ah.nz (ah.aq s))(h:ah.ee (ah.aq s) (ah.aq l)=0){p r:ah.V2}(p0:au l p.1 p.2=0)(p1:0<au s p.1 p.2)(r0:au s r.1 r.2=0)(r1:0<au l r.1 r.2):False:=by
 obtain ⟨c,c0,e⟩:=ah.GG hl h
 have e1:(s.2.1:Rat)=c*(l.2.1:Rat):=congrArg Prod.fst e
 have e2:-(s.1:Rat)=c*-(l.1:Rat):=congrArg Prod.snd e
 have e2:(s.1:Rat)=c*(l.1:Rat):=by grind
 have key:∀x:ah.V2,au s x.1 x.2=c*(au l x.1 x.2-(l.2.2:Rat))+(s.2.2:Rat):=fun x=>by unfold au;rw [e1,e2];grind
 have k:=ah.mp c0 r1
 rw [key] at p1 r0
 rw [p0] at p1
 generalize au l r.1 r.2=z at *
 grind
section
variable {M:List L3} {c:List Sd} (h:dS M c) (hk:∀m ∈ M,cE m=true)
include h hk
theorem dS.int {p:ah.V2}(hp:∀s∈c,0<au s.1 p.1 p.2):ah.pos M p:=by
 obtain ⟨q,hq⟩:=h.pos
 refine ah.Tj (C9 hk hq) (fun m hm=>nF (hk m hm)) hq fun m hm he=>?_
 obtain ⟨v,hv⟩:=h.all m hm he
 exact hp _ hv
theorem Fz {l:L3}(hl:cE l=true){v:Sp}(e:bD c l aA=some v):dS (l::M) (iQ (l,v) (iO c l)):=by
 have hN:Nz l:=fF hl
 obtain ⟨gv,hv⟩:=ml fR e
 have uf:∀t,v.iN t↔ah.pos M (ef l t,eg l t):=fun t=>⟨fun g=>h.int hk ((hv t).1 g).2,fun g=>(hv t).2 ⟨lx t,fun s hs=>g s.1 (h.mem s hs).1⟩⟩
 obtain ⟨t0,ht0⟩:=eN.1 gv.2
 have p0:=(uf t0).1 ht0
 have z0:=(gC hN t0).1
 have lM:l∉M:=fun hm=>by have:=p0 l hm;dsimp only at this;grind
 have ne:∀m∈M,m≠l:=fun m hm e=>lM (e▸hm)
 obtain ⟨q,hq,NC,-⟩:=ah.tW (M:=M) (x:=(ef l t0,eg l t0)) (nF hl) z0 (fun m hm _=>p0 m hm) [] (fun m hm=>by cases hm)
 have N7:∀s∈iO c l,s.1∈M/\s.2.lA/\∀t,s.2.iN t↔∀m∈l::M,m≠s.1->0<au m (ef s.1 t) (eg s.1 t):=fun s hs=>by
  obtain ⟨s0,h0,hb,rfl⟩:=A4.1 hs
  obtain ⟨m1,m2,m3⟩:=h.mem s0 h0
  refine ⟨m1,lq m2 hb,fun t=>?_⟩
  dsimp only
  rw [iZ.1 hb t,m3 t,List.forall_mem_cons]
  exact ⟨fun g=>⟨fun _=>g.2,g.1⟩,fun g=>⟨g.2,g.1 (fun e=>ne _ m1 e.symm)⟩⟩
 refine ⟨⟨q,List.forall_mem_cons.2 ⟨NC,hq⟩⟩,fun s hs=>?_,fun l' hl' he=>?_,Bo (A3 h.jA) fun s hs e0=>?_⟩
 ·rcases lB.1 hs with rfl|hs
  ·refine ⟨List.mem_cons_self ..,gv,fun t=>?_⟩
   rw [uf t,List.forall_mem_cons]
   exact ⟨fun g=>⟨fun h=>absurd rfl h,fun m hm _=>g m hm⟩,fun g m hm=>g.2 m hm (ne m hm)⟩
  ·obtain ⟨a,b⟩:=N7 s hs
   exact ⟨List.mem_cons_of_mem _ a,b⟩
 ·rcases List.mem_cons.1 hl' with rfl|hl'
  ·exact ⟨v,lB.2 (.inl rfl)⟩
  ·obtain ⟨p,pz,hp⟩:=he
   obtain ⟨w,hw⟩:=h.all l' hl' ⟨p,pz,fun m hm hne=>hp m (List.mem_cons_of_mem _ hm) hne⟩
   obtain ⟨m1,m2,m3⟩:=h.mem _ hw
   obtain ⟨t,e1,e2⟩:=kv (fF (hk l' hl')) pz
   have hb:cH l' w l=true:=by
    cases hb:cH l' w l
    ·exfalso
     refine iZ.2 m2.2 hb t ((m3 t).2 fun m hm hne=>?_) ?_
     ·dsimp only;rw [←e1,←e2];exact hp m (List.mem_cons_of_mem _ hm) hne
     ·rw [←e1,←e2];exact hp l (List.mem_cons_self ..) (fun e=>lM (e▸hl'))
    ·rfl
   exact ⟨cq l' w l,lB.2 (.inr (A4.2 ⟨_,hw,hb,rfl⟩))⟩
 ·obtain ⟨m1,m2,m3⟩:=N7 s hs
  obtain ⟨t,ht⟩:=eN.1 m2.2
  have hr:=(m3 t).1 ht l (List.mem_cons_self ..) (fun e=>ne _ m1 e.symm)
  exact BJ (nF (hk _ m1)) e0 (p:=(ef l t0,eg l t0)) (r:=(ef s.1 t,eg s.1 t)) z0 (p0 _ m1) (gC (fF (hk _ m1)) t).1 hr
omit h in
theorem pW {l:L3}(hl:cE l=true)(hno:∀x:ah.V2,au l x.1 x.2=0->¬ah.pos M x){q:ah.V2}(hq:ah.pos M q){s:L3}(hs:s∈M){x:ah.V2}(xz:au s x.1 x.2=0)(hx:∀m∈M,m≠s->0<au m x.1 x.2) :
  (0<au l q.1 q.2->0<au l x.1 x.2\/s=l)/\(au l q.1 q.2<0->au l x.1 x.2<0\/au l x.1 x.2=0/\s≠l):=by
 have side:∀g:L3,(∀x:ah.V2,au g x.1 x.2=0->¬ah.pos M x)->0<au g q.1 q.2->∀y:ah.V2,au s y.1 y.2=0->(∀m∈M,m≠s->0<au m y.1 y.2)->¬au g y.1 y.2<0:=fun g hno gq y yz hy hneg=>by
  obtain ⟨q',h1,-,h3⟩:=ah.tW (nF (hk s hs)) yz hy [bE g] (fun m hm=>by rcases List.mem_singleton.1 hm with rfl;rw [val_rev];grind)
  have h3:=h3 _ (List.mem_singleton.2 rfl)
  rw [val_rev] at h3
  have:=ah.oU hno hq h1 gq
  grind
 constructor
 ·intro hp
  by_cases c1:0<au l x.1 x.2
  ·exact .inl c1
  right
  have z:au l x.1 x.2=0:=by have:=side l hno hp x xz hx;grind
  by_cases e:s=l
  ·exact e
  exfalso
  have Vb:ah.cr (ah.aq l) (ah.aq s)≠0:=fun e0=>by
   rcases IE hl (hk s hs) z xz e0 with g|g
   ·exact e g.symm
   ·rw [g,val_rev] at hp
    have:=hq s hs
    grind
  have step:∀d:ah.V2,ah.nv s d=0->ah.nv l d<0->False:=fun d d0 d1=>by
   obtain ⟨r,r0,hr⟩:=ah.zR ((M.filter fun m=>decide (m≠s)).map fun m=>(au m x.1 x.2,ah.nv m d)) (fun y hy=>by
    obtain ⟨m,hm,rfl⟩:=List.mem_map.1 hy
    have:=List.mem_filter.1 hm
    exact hx m this.1 (by simpa using this.2))
   refine side l hno hp (x.1+r*d.1,x.2+r*d.2) ?_ (fun m hm hne=>?_) ?_
   ·rw [ah.gX,xz,d0];grind
   ·rw [ah.gX]
    exact hr (au m x.1 x.2,ah.nv m d) (List.mem_map.2 ⟨m,List.mem_filter.2 ⟨hm,by simpa using hne⟩,rfl⟩)
   ·rw [ah.gX,z]
    have:=ah.mp r0 (show -ah.nv l d>0 by grind)
    grind
  have s0:ah.nv s (ah.aq s)=0:=by rw [ah.ER];exact ah.zh _
  have ls:ah.nv l (ah.aq s)≠0:=by rw [ah.ER];exact Vb
  by_cases c2:ah.nv l (ah.aq s)<0
  ·exact step _ s0 c2
  ·have e1:ah.nv s (-(ah.aq s).1,-(ah.aq s).2)=-ah.nv s (ah.aq s):=by unfold ah.nv;dsimp only;grind
   have e2:ah.nv l (-(ah.aq s).1,-(ah.aq s).2)=-ah.nv l (ah.aq s):=by unfold ah.nv;dsimp only;grind
   exact step (-(ah.aq s).1,-(ah.aq s).2) (by rw [e1,s0];grind) (by rw [e2];grind)
 ·intro hp
  have:=side (bE l) (fun x hx=>hno x (by rw [val_rev] at hx;grind)) (by rw [val_rev];grind) x xz hx
  rw [val_rev] at this
  by_cases c1:au l x.1 x.2<0
  ·exact .inl c1
  ·refine .inr ⟨by grind,fun e=>?_⟩
   have:=hq s hs
   rw [e] at this
   grind
theorem fg {s:Sd}(hs:s∈c):au s.1 (ef s.1 s.2.cA) (eg s.1 s.2.cA)=0/\∀m∈M,m≠s.1->0<au m (ef s.1 s.2.cA) (eg s.1 s.2.cA):=by
 obtain ⟨m1,m2,m3⟩:=h.mem s hs
 refine ⟨(gC (fF (hk _ m1)) _).1,(m3 _).1 ?_⟩
 obtain ⟨h1,h2⟩:=Sp.EX m2.2
 constructor
 ·cases ha:s.2.a
  ·exact .inr (h1 ha)
  ·exact .inl rfl
 ·cases hb:s.2.b
  ·exact .inr (h2 hb)
  ·exact .inl rfl
theorem yg {l:L3}(hl:cE l=true)(hno:∀x:ah.V2,au l x.1 x.2=0->¬ah.pos M x){q:ah.V2}(hq:ah.pos M q)(hp:0<au l q.1 q.2)(h0:c≠[]):cV c l=1:=by
 cases hc:c with
 | nil=>exact absurd hc h0
 | cons s r=>
  have hs:s∈c:=by rw [hc];exact List.mem_cons_self ..
  obtain ⟨e1,e2⟩:=fg h hk hs
  have:=(pW hk hl hno hq (h.mem s hs).1 (x:=(ef s.1 s.2.cA,eg s.1 s.2.cA)) e1 e2).1 hp
  unfold cV
  dsimp only at this
  by_cases c1:0<au l (ef s.1 s.2.cA) (eg s.1 s.2.cA)
  ·rw [ah.IG.2 c1];rfl
  ·have hsl:s.1=l:=this.resolve_left c1
   have z:au l (ef s.1 s.2.cA) (eg s.1 s.2.cA)=0:=by
    have h:=e1;rw [hsl] at h ⊢;exact h
   rw [ah.mr.2 z,if_neg (by simp),if_pos hsl]
theorem yf {l:L3}(hl:cE l=true)(hno:∀x:ah.V2,au l x.1 x.2=0->¬ah.pos M x){q:ah.V2}(hq:ah.pos M q)(hp:au l q.1 q.2<0):cV c l=-1:=by
 have:∀r:List Sd,(∀s∈r,s∈c)->cV r l=-1:=by
  intro r
  induction r with
  | nil=>intro _;rfl
  | cons s r ih=>
   intro hr
   have hs:=hr s (List.mem_cons_self ..)
   obtain ⟨e1,e2⟩:=fg h hk hs
   have:=(pW hk hl hno hq (h.mem s hs).1 (x:=(ef s.1 s.2.cA,eg s.1 s.2.cA)) e1 e2).2 hp
   dsimp only at this
   unfold cV
   rcases this with g|⟨g,g'⟩
   ·rw [ah.DP.2 g];rfl
   ·rw [ah.mr.2 g,if_neg (by simp),if_neg g']
    exact ih fun u hu=>hr u (List.mem_cons_of_mem _ hu)
 exact this c fun _ h=>h
theorem zf {l:L3}(hl:cE l=true):(∀c',bo c l=some c'->dS (l::M) c')/\(bo c l=none->¬∃q,ah.pos (l::M) q):=by
 unfold bo
 cases e:bD c l aA with
 | some v=>exact ⟨fun c' e'=>by cases e';exact Fz h hk hl e,fun e'=>by cases e'⟩
 | none=>
  dsimp only
  have hno:∀x:ah.V2,au l x.1 x.2=0->¬ah.pos M x:=fun x hx hp=>by
   obtain ⟨t,e1,e2⟩:=kv (fF hl) hx
   refine qo fR e t (lx t) fun s hs=>?_
   rw [←e1,←e2];exact hp s.1 (h.mem s hs).1
  have h0:c≠[]:=fun e0=>by rw [e0] at e;cases e
  obtain ⟨q,hq⟩:=h.pos
  by_cases c1:0<au l q.1 q.2
  ·rw [yg h hk hl hno hq c1 h0]
   refine ⟨fun c' e'=>?_,fun e'=>by cases e'⟩
   cases e'
   refine ⟨⟨q,List.forall_mem_cons.2 ⟨c1,hq⟩⟩,fun s hs=>?_,fun l' hl' he=>?_,h.jA⟩
   ·obtain ⟨m1,m2,m3⟩:=h.mem s hs
    refine ⟨List.mem_cons_of_mem _ m1,m2,fun t=>?_⟩
    rw [m3 t,List.forall_mem_cons]
    refine ⟨fun g=>⟨fun hne=>?_,g⟩,fun g=>g.2⟩
    exact ((pW hk hl hno hq m1 (x:=(ef s.1 t,eg s.1 t)) (gC (fF (hk _ m1)) t).1 g).1 c1).resolve_right fun e=>hne e.symm
   ·obtain ⟨p,pz,hp⟩:=he
    by_cases hm:l'∈M
    ·exact h.all l' hm ⟨p,pz,fun m hm hne=>hp m (List.mem_cons_of_mem _ hm) hne⟩
    ·exfalso
     have e1:l'=l:=(List.mem_cons.1 hl').resolve_right hm
     refine hno p (e1▸pz) fun m hm'=>hp m (List.mem_cons_of_mem _ hm') fun e2=>hm (e2▸hm')
  ·have c2:au l q.1 q.2<0:=by
    by_cases z:au l q.1 q.2=0
    ·exact absurd hq (hno q z)
    ·grind
   rw [yf h hk hl hno hq c2]
   refine ⟨fun c' e'=>(by cases e'),fun _=>?_⟩
   rintro ⟨q',hq'⟩
   obtain ⟨a,b⟩:=List.forall_mem_cons.1 hq'
   have:=ah.oU hno (fun m hm=>b m hm) hq a
   grind
end
theorem dS.nil:dS [] []:=⟨⟨(0,0),fun m hm=>by cases hm⟩,(fun s hs=>by cases hs),(fun l hl=>by cases hl),List.Pairwise.nil⟩
def bB:List L3->List L3->List Sd->Option (List Sd)
 | [],_,c=>some c
 | l::r,M,c=>match bo c l with
  | some c'=>bB r (l::M) c'
  | none=>none
theorem oD:∀{ls M:List L3} {c:List Sd},dS M c->(∀m∈M,cE m=true)->(∀m∈ls,cE m=true)->(∀c',bB ls M c=some c'->dS (ls.reverse++M) c')/\(bB ls M c=none->¬∃q,ah.pos (ls.reverse++M) q)
 | [],M,c,h,hk,hl=>⟨fun c' e=>by cases e;exact h,fun e=>by cases e⟩
 | l::r,M,c,h,hk,hl=>by
  obtain ⟨h1,h2⟩:=zf h hk (hl l (List.mem_cons_self ..))
  rw [List.reverse_cons,List.append_assoc]
  unfold bB
  cases e:bo c l with
  | some c'=>exact oD (h1 c' e) (List.forall_mem_cons.2 ⟨hl l (List.mem_cons_self ..),hk⟩) fun m hm=>hl m (List.mem_cons_of_mem _ hm)
  | none=>
   refine ⟨fun c' e'=>(by cases e'),fun _=>?_⟩
   rintro ⟨q,hq⟩
   exact h2 e ⟨q,fun m hm=>hq m (List.mem_append_right _ hm)⟩
theorem tq:∀{a b:List L3},(a.Pairwise fun l m=>ah.ee (ah.aq l) (ah.aq m)<0)->(b.Pairwise fun l m=>ah.ee (ah.aq l) (ah.aq m)<0)->(∀x,x∈a↔x∈b)->a=b
 | [],b,_,_,h=>by
  cases b with
  | nil=>rfl
  | cons y b=>have:=(h y).2 (List.mem_cons_self ..);cases this
 | x::a,[],_,_,h=>by have:=(h x).1 (List.mem_cons_self ..);cases this
 | x::a,y::b,ha,hb,h=>by
  obtain ⟨a1,a2⟩:=List.pairwise_cons.1 ha
  obtain ⟨b1,b2⟩:=List.pairwise_cons.1 hb
  have e:x=y:=by
   rcases List.mem_cons.1 ((h x).1 (List.mem_cons_self ..)) with e|hx
   ·exact e
   ·rcases List.mem_cons.1 ((h y).2 (List.mem_cons_self ..)) with e|hy
    ·exact e.symm
    ·exact absurd (a1 y hy) (ah.yH _ _ (b1 x hx))
  subst e
  have TW:∀z:L3,¬ah.ee (ah.aq z) (ah.aq z)<0:=fun z hz=>ah.yH _ _ hz hz
  congr 1
  refine tq a2 b2 fun z=>⟨fun hz=>?_,fun hz=>?_⟩
  ·rcases List.mem_cons.1 ((h z).1 (List.mem_cons_of_mem _ hz)) with e|g
   ·exact absurd (a1 z hz) (e▸TW z)
   ·exact g
  ·rcases List.mem_cons.1 ((h z).2 (List.mem_cons_of_mem _ hz)) with e|g
   ·exact absurd (b1 z hz) (e▸TW z)
   ·exact g
end Go.Proofs.Tryz
namespace Go.Proofs.Tryz
open Go.bF Go.eK
theorem jK (l m:L3):bz l m=-bj m l:=by unfold bz bj;grind
theorem gE (m l:L3):ah.cr (ah.aq m) (ah.aq l)=bj m l:=by unfold ah.cr ah.aq bj;grind
def DA (l m:L3):Rat:=FY l (CJ l m) (CK l m)
theorem Il {l m:L3}(hl:Nz l)(h:bz l m≠0):DA l m=bS m l:=by
 obtain ⟨v1,v2⟩:=DX h
 obtain ⟨t,e1,e2⟩:=kv hl v1
 have e3:DA l m=t:=by unfold DA;rw [e1,e2];exact (gC hl t).2
 rw [e1,e2,bG] at v2
 rw [e3]
 have hd:bj m l≠0:=fun e=>h (by rw [jK,e];grind)
 have hi:=Rat.mul_inv_cancel _ hd
 unfold bS
 grind
def G8 (l m:L3)(s:Sp):Option Sp:=
 if bz l m=0 then (if (au m (ef l 0) (eg l 0)).num.sign<=0 then none else some s)
 else
  let s':Sp:=if 0<(bj m l).num.sign then (if s.a=true\/s.lo<DA l m then ⟨DA l m,s.hi,false,s.b⟩ else s) else (if s.b=true\/DA l m<s.hi then ⟨s.lo,DA l m,s.a,false⟩ else s)
  if s'.a=false/\s'.b=false/\s'.hi<=s'.lo then none else some s'
theorem G9 {s:Sp}:s.emp=true↔s.a=false/\s.b=false/\s.hi<=s.lo:=by
 cases h:s.emp
 ·have:=Sp.fw.1 h
  constructor
  ·intro h;cases h
  ·rintro ⟨h1,h2,h3⟩
   rw [h1,h2] at this
   rcases this with h|h|h
   ·cases h
   ·cases h
   ·exfalso;grind
 ·refine ⟨fun _=>?_,fun _=>rfl⟩
  have hn:¬(s.a=true\/s.b=true\/s.lo<s.hi):=fun g=>by rw [←Sp.fw] at g;rw [h] at g;cases g
  refine ⟨?_,?_,?_⟩
  ·cases e:s.a
   ·rfl
   ·exact absurd (.inl e) hn
  ·cases e:s.b
   ·rfl
   ·exact absurd (.inr (.inl e)) hn
  ·by_cases c:s.lo<s.hi
   ·exact absurd (.inr (.inr c)) hn
   ·grind
theorem Bb {l m:L3}{s:Sp}(hl:Nz l)(hs:s.lA):G8 l m s=if cH l s m=true then some (cq l s m) else none:=by
 unfold G8
 by_cases hc:bz l m=0
 ·have hd:bj m l=0:=by rw [jK] at hc;grind
  have ec:cq l s m=s:=by unfold cq;rw [hd];rfl
  have eb:cH l s m=decide ((dv m l).num.sign>0):=by unfold cH;rw [hd];rfl
  rw [if_pos hc,ec,eb]
  show (if (dv m l).num.sign<=0 then none else some s)=_
  by_cases g:(dv m l).num.sign<=0
  ·rw [if_pos g,if_neg (by rw [decide_eq_true_iff];omega)]
  ·rw [if_neg g,if_pos (by rw [decide_eq_true_iff];omega)]
 ·have hd:bj m l≠0:=fun e=>hc (by rw [jK,e];grind)
  rw [if_neg hc,Il hl hc]
  have es:(if 0<(bj m l).num.sign then (if s.a=true\/s.lo<bS m l then (⟨bS m l,s.hi,false,s.b⟩:Sp) else s) else (if s.b=true\/bS m l<s.hi then ⟨s.lo,bS m l,s.a,false⟩ else s))=cq l s m:=by
   obtain ⟨ca,cb⟩:=hs.1
   obtain ⟨lo,hi,a,b⟩:=s
   dsimp only at ca cb ⊢
   unfold cq
   rcases kH (bj m l) with ⟨h,e⟩|⟨h,e⟩|⟨h,e⟩
   ·exact absurd h hd
   ·rw [e,if_pos (by decide)]
    show _=Sp.meet ⟨lo,hi,a,b⟩ ⟨bS m l,0,false,true⟩
    unfold Sp.meet kW
    rcases kn (bS m l) lo with ⟨g,e⟩|⟨g,e⟩|⟨g,e⟩<;>rw [e]<;>cases a<;>cases b<;>simp at ca cb⊢<;> grind
   ·rw [e,if_neg (by decide)]
    show _=Sp.meet ⟨lo,hi,a,b⟩ ⟨0,bS m l,true,false⟩
    unfold Sp.meet kX
    rcases kn (bS m l) hi with ⟨g,e⟩|⟨g,e⟩|⟨g,e⟩<;>rw [e]<;>cases a<;>cases b<;>simp at ca cb⊢<;> grind
  have eb:cH l s m=!(cq l s m).emp:=by
   unfold cH
   rcases kH (bj m l) with ⟨h,e⟩|⟨h,e⟩|⟨h,e⟩
   ·exact absurd h hd
   ·rw [e];rfl
   ·rw [e];rfl
  dsimp only
  rw [es,eb]
  by_cases g:(cq l s m).a=false/\(cq l s m).b=false/\(cq l s m).hi<=(cq l s m).lo
  ·rw [if_pos g,G9.2 g,if_neg (by decide)]
  ·rw [if_neg g]
   cases h:(cq l s m).emp
   ·rw [if_pos (by decide)]
   ·exact absurd (G9.1 h) g
def oH (l:L3):List L3->Sp->Option Sp
 | [],s=>some s
 | m::r,s=>if m=l then oH l r s else match G8 l m s with
  | some s'=>oH l r s'
  | none=>none
theorem pX {l:L3}(hl:Nz l):∀{c:List L3} {s w:Sp},s.lA->oH l c s=some w->w.lA/\∀t,w.iN t↔s.iN t/\∀m∈c,m≠l->0<au m (ef l t) (eg l t)
 | [],s,w,h,e=>by cases e;exact ⟨h,fun t=>⟨fun g=>⟨g,fun m hm=>by cases hm⟩,fun g=>g.1⟩⟩
 | m::c,s,w,h,e=>by
  unfold oH at e
  by_cases hm:m=l
  ·rw [if_pos hm] at e
   obtain ⟨g1,g2⟩:=pX hl h e
   refine ⟨g1,fun t=>(g2 t).trans (and_congr_right fun _=>?_)⟩
   rw [List.forall_mem_cons]
   exact ⟨fun g=>⟨fun hne=>absurd hm hne,g⟩,fun g=>g.2⟩
  ·rw [if_neg hm,Bb hl h] at e
   by_cases hb:cH l s m=true
   ·rw [if_pos hb] at e
    obtain ⟨g1,g2⟩:=pX hl (lq h hb) e
    refine ⟨g1,fun t=>?_⟩
    rw [g2,iZ.1 hb t,List.forall_mem_cons,and_assoc]
    exact and_congr_right fun _=>and_congr_left fun _=>⟨fun g _=>g,fun g=>g hm⟩
   ·rw [if_neg hb] at e;cases e
theorem pV {l:L3}(hl:Nz l):∀{c:List L3} {s:Sp},s.lA->oH l c s=none->∀t,s.iN t->¬∀m∈c,m≠l->0<au m (ef l t) (eg l t)
 | [],s,h,e=>by cases e
 | m::c,s,h,e=>by
  intro t ht hall
  obtain ⟨ha,hr⟩:=List.forall_mem_cons.1 hall
  unfold oH at e
  by_cases hm:m=l
  ·rw [if_pos hm] at e
   exact pV hl h e t ht hr
  ·rw [if_neg hm,Bb hl h] at e
   by_cases hb:cH l s m=true
   ·rw [if_pos hb] at e
    exact pV hl (lq h hb) e t ((iZ.1 hb t).2 ⟨ht,ha hm⟩) hr
   ·exact iZ.2 h.2 (by simpa using hb) t ht (ha hm)
theorem EB {l:L3}(hl:Nz l){c:List L3}:(oH l c aA).isSome=true↔ah.Es c l:=by
 constructor
 ·intro h
  obtain ⟨w,hw⟩:=Option.isSome_iff_exists.1 h
  obtain ⟨g1,g2⟩:=pX hl fR hw
  obtain ⟨t,ht⟩:=eN.1 g1.2
  exact ⟨(ef l t,eg l t),(gC hl t).1,((g2 t).1 ht).2⟩
 ·rintro ⟨p,p0,p1⟩
  obtain ⟨t,e1,e2⟩:=kv hl p0
  cases h:oH l c aA with
  | some w=>rfl
  | none=>
   rw [e1,e2] at p1
   exact absurd p1 (pV hl fR h t (lx t))
def Bq (l:L3):List L3->List L3
 | []=>[l]
 | u::r=>if ah.ee (ah.aq u) (ah.aq l)<0 then u::Bq l r else if u=l then u::r else l::u::r
def zO (c:List L3):List L3->List L3->List L3
 | [],out=>out
 | l::r,out=>zO c r (if (oH l c aA).isSome=true then Bq l out else out)
theorem oN {l x:L3}:∀{r:List L3},x∈Bq l r↔x=l\/x∈r
 | []=>by simp [Bq]
 | u::r=>by
  unfold Bq
  split
  ·rw [List.mem_cons,oN,List.mem_cons];exact or_left_comm
  split
  ·rename_i e
   subst e
   rw [List.mem_cons]
   exact ⟨.inr,fun h=>h.elim .inl id⟩
  ·rw [List.mem_cons]
theorem Br {l:L3}:∀{r:List L3},(r.Pairwise fun s u=>ah.ee (ah.aq s) (ah.aq u)<0)->(∀s∈r,ah.ee (ah.aq s) (ah.aq l)=0->s=l)->(Bq l r).Pairwise fun s u=>ah.ee (ah.aq s) (ah.aq u)<0
 | [],_,_=>List.pairwise_singleton _ _
 | u::r,h,hz=>by
  obtain ⟨h1,h2⟩:=List.pairwise_cons.1 h
  unfold Bq
  split
  ·rename_i hlt
   refine List.pairwise_cons.2 ⟨fun y hy=>?_,Br h2 (fun s hs=>hz s (List.mem_cons_of_mem _ hs))⟩
   rcases oN.1 hy with rfl|hy
   ·exact hlt
   ·exact h1 y hy
  split
  ·exact h
  ·rename_i hlt hne
   have hgt:ah.ee (ah.aq l) (ah.aq u)<0:=by
    have h0:ah.ee (ah.aq u) (ah.aq l)≠0:=fun e=>hne (hz u (List.mem_cons_self ..) e)
    rcases ah.GD (ah.aq u) (ah.aq l) with g|g|g
    ·exact absurd g hlt
    ·exact absurd g h0
    ·exact g
   refine List.pairwise_cons.2 ⟨fun y hy=>?_,h⟩
   rcases List.mem_cons.1 hy with rfl|hy
   ·exact hgt
   ·exact yI hgt (h1 y hy)
theorem Lo {c:List L3}(hk:∀m∈c,cE m=true){l m:L3}(hl:l∈c)(hm:m∈c)(el:ah.Es c l)(em:ah.Es c m)(h:ah.ee (ah.aq l) (ah.aq m)=0):l=m:=by
 by_cases e:l=m
 ·exact e
 exfalso
 obtain ⟨p,p0,p1⟩:=em
 obtain ⟨r,r0,r1⟩:=el
 exact BJ (nF (hk l hl)) h p0 (p1 l hl e) r0 (r1 m hm fun e'=>e e'.symm)
theorem zP {c:List L3}(hk:∀m∈c,cE m=true):∀{r out:List L3},(∀m∈r,m∈c)->(∀m∈out,m∈c/\ah.Es c m)->(out.Pairwise fun s u=>ah.ee (ah.aq s) (ah.aq u)<0) ->
  ((zO c r out).Pairwise fun s u=>ah.ee (ah.aq s) (ah.aq u)<0)/\∀x,x∈zO c r out↔x∈out\/x∈r/\ah.Es c x
 | [],out,_,_,h=>⟨h,fun x=>by simp [zO]⟩
 | l::r,out,hr,ho,h=>by
  obtain ⟨hl,hr⟩:=List.forall_mem_cons.1 hr
  unfold zO
  by_cases he:ah.Es c l
  ·rw [if_pos ((EB (fF (hk l hl))).2 he)]
   obtain ⟨g1,g2⟩:=zP hk (r:=r) (out:=Bq l out) hr (fun m hm=>by
    rcases oN.1 hm with rfl|hm
    ·exact ⟨hl,he⟩
    ·exact ho m hm) (Br h fun s hs e=>Lo hk (ho s hs).1 hl (ho s hs).2 he e)
   refine ⟨g1,fun x=>?_⟩
   rw [g2,oN,List.mem_cons]
   constructor
   ·rintro ((rfl|h)|h)
    ·exact .inr ⟨.inl rfl,he⟩
    ·exact .inl h
    ·exact .inr ⟨.inr h.1,h.2⟩
   ·rintro (h|⟨rfl|h,e⟩)
    ·exact .inl (.inr h)
    ·exact .inl (.inl rfl)
    ·exact .inr ⟨h,e⟩
  ·rw [if_neg fun g=>he ((EB (fF (hk l hl))).1 g)]
   obtain ⟨g1,g2⟩:=zP hk (r:=r) (out:=out) hr ho h
   refine ⟨g1,fun x=>?_⟩
   rw [g2,List.mem_cons]
   constructor
   ·rintro (h|h)
    ·exact .inl h
    ·exact .inr ⟨.inr h.1,h.2⟩
   ·rintro (h|⟨rfl|h,e⟩)
    ·exact .inl h
    ·exact absurd e he
    ·exact .inr ⟨h,e⟩
theorem Es.of {M N:List L3}(h:∀x,x∈M->x∈N){l:L3}(e:ah.Es N l):ah.Es M l:=by
 obtain ⟨p,p0,p1⟩:=e
 exact ⟨p,p0,fun m hm=>p1 m (h m hm)⟩
theorem G2 {ls:List L3}(hk:∀m∈ls,cE m=true):(∀c,bB ls [] []=some c->zO ls ls []=c.map Prod.fst/\dS ls.reverse c/\(ls=[]\/zO ls ls []≠[]))/\(bB ls [] []=none->zO ls ls []=[]/\ls≠[]/\¬∃q,ah.pos ls q):=by
 obtain ⟨h1,h2⟩:=oD (ls:=ls) dS.nil (fun m hm=>by cases hm) hk
 rw [List.append_nil] at h1 h2
 obtain ⟨g1,g2⟩:=zP hk (r:=ls) (out:=[]) (fun m hm=>hm) (fun m hm=>by cases hm) List.Pairwise.nil
 have g2:∀x,x∈zO ls ls []↔x∈ls/\ah.Es ls x:=fun x=>(g2 x).trans ⟨fun h=>h.elim (fun h=>by cases h) id,.inr⟩
 have hpos:∀q,ah.pos ls q↔ah.pos ls.reverse q:=fun q=>⟨fun h m hm=>h m (List.mem_reverse.1 hm),fun h m hm=>h m (List.mem_reverse.2 hm)⟩
 constructor
 ·intro c e
  have hc:=h1 c e
  obtain ⟨q,hq⟩:=hc.pos
  have hq:=(hpos q).2 hq
  refine ⟨?_,hc,?_⟩
  ·refine tq g1 (List.pairwise_map.2 hc.jA) fun x=>?_
   rw [g2,List.mem_map]
   constructor
   ·rintro ⟨a,b⟩
    obtain ⟨v,hv⟩:=hc.all x (List.mem_reverse.2 a) (Es.of (fun y hy=>List.mem_reverse.1 hy) b)
    exact ⟨_,hv,rfl⟩
   ·rintro ⟨s,hs,rfl⟩
    obtain ⟨a1,a2,a3⟩:=hc.mem s hs
    obtain ⟨t,ht⟩:=eN.1 a2.2
    have a1:=List.mem_reverse.1 a1
    exact ⟨a1,⟨(ef s.1 t,eg s.1 t),(gC (fF (hk _ a1)) t).1,fun m hm hne=>(a3 t).1 ht m (List.mem_reverse.2 hm) hne⟩⟩
  ·by_cases h0:ls=[]
   ·exact .inl h0
   right
   obtain ⟨l,hl,he⟩:=ah.ED (C9 hk hq) (fun m hm=>nF (hk m hm)) hq h0
   exact List.ne_nil_of_mem ((g2 l).2 ⟨hl,he⟩)
 ·intro e
  have hno:¬∃q,ah.pos ls q:=fun ⟨q,hq⟩=>h2 e ⟨q,(hpos q).1 hq⟩
  refine ⟨?_,fun h0=>hno ⟨(0,0),fun m hm=>by rw [h0] at hm;cases hm⟩,hno⟩
  refine List.eq_nil_iff_forall_not_mem.2 fun x hx=>?_
  obtain ⟨a,p,p0,p1⟩:=(g2 x).1 hx
  obtain ⟨q,hq,-⟩:=ah.tW (nF (hk x a)) p0 p1 [] (fun m hm=>by cases hm)
  exact hno ⟨q,hq⟩
theorem uF {l:L3}(h:cE l=true):cE (bE l)=true:=by
 unfold cE bE gx at *
 simp only [Int.natAbs_neg]
 rw [Bool.and_eq_true,decide_eq_true_iff,decide_eq_true_iff] at h ⊢
 exact ⟨fun e=>h.1 ⟨by omega,by omega⟩,h.2⟩
section
variable {M:List L3} {c:List Sd} (h:dS M c) (hk:∀m ∈ M,cE m=true)
include h hk
theorem jS {l:L3}(hl:cE l=true):(bD c l aA).isSome=true↔∃x:ah.V2,au l x.1 x.2=0/\ah.pos M x:=by
 constructor
 ·intro e
  obtain ⟨v,hv⟩:=Option.isSome_iff_exists.1 e
  obtain ⟨g1,g2⟩:=ml fR hv
  obtain ⟨t,ht⟩:=eN.1 g1.2
  exact ⟨(ef l t,eg l t),(gC (fF hl) t).1,h.int hk ((g2 t).1 ht).2⟩
 ·rintro ⟨x,x0,x1⟩
  obtain ⟨t,e1,e2⟩:=kv (fF hl) x0
  cases e:bD c l aA with
  | some v=>rfl
  | none=>exact absurd (fun s hs=>by rw [←e1,←e2];exact x1 _ (h.mem s hs).1) (qo fR e t (lx t))
theorem BM {l:L3}(hl:cE l=true):((bD c l aA).isSome=true↔(∃q,ah.pos M q/\0<au l q.1 q.2)/\∃q,ah.pos M q/\au l q.1 q.2<0) /\
  ((bD c l aA).isSome=false->(cV c l=1/\∃q,ah.pos M q/\0<au l q.1 q.2)\/cV c l=-1/\¬∃q,ah.pos M q/\0<au l q.1 q.2):=by
 constructor
 ·rw [jS h hk hl]
  constructor
  ·rintro ⟨x,x0,x1⟩
   obtain ⟨q,hq,NC,-⟩:=ah.tW (M:=M) (nF hl) x0 (fun m hm _=>x1 m hm) [] (fun m hm=>by cases hm)
   obtain ⟨r,hr,hrl,-⟩:=ah.tW (M:=M) (l:=bE l) (x:=x) (nF (uF hl)) (by rw [val_rev,x0];rfl) (fun m hm _=>x1 m hm) [] (fun m hm=>by cases hm)
   rw [val_rev] at hrl
   exact ⟨⟨q,hq,NC⟩,r,hr,by grind⟩
  ·rintro ⟨⟨q,hq,NC⟩,r,hr,hrl⟩
   by_cases c0:∃x:ah.V2,au l x.1 x.2=0/\ah.pos M x
   ·exact c0
   ·have:=ah.oU (fun x x0 x1=>c0 ⟨x,x0,x1⟩) hq hr NC
    grind
 ·intro e
  have hno:∀x:ah.V2,au l x.1 x.2=0->¬ah.pos M x:=fun x x0 x1=>by
   rw [(jS h hk hl).2 ⟨x,x0,x1⟩] at e;cases e
  obtain ⟨q,hq⟩:=h.pos
  have hne:c≠[]:=fun e0=>by subst e0;unfold bD at e;cases e
  by_cases hp:0<au l q.1 q.2
  ·exact .inl ⟨yg h hk hl hno hq hp hne,q,hq,hp⟩
  ·have hz:au l q.1 q.2≠0:=fun z=>hno q z hq
   refine .inr ⟨yf h hk hl hno hq (by grind),?_⟩
   rintro ⟨r,hr,hrl⟩
   exact hp (ah.oU hno hr hq hrl)
theorem zg {p:ah.V2}(hp:∀s∈c,0<=au s.1 p.1 p.2):∀m∈M,0<=au m p.1 p.2:=by
 intro m hm
 obtain ⟨q,hq⟩:=h.pos
 have key:∀t:Rat,0<=t->t<1->ah.pos M (q.1+t*(p.1-q.1),q.2+t*(p.2-q.2)):=fun t t0 t1=>h.int hk fun s hs=>by
  dsimp only
  rw [ah.pt]
  have h1:=hq s.1 (h.mem s hs).1
  have h2:=ah.mn t0 (hp s hs)
  have h3:=ah.mp (show 1-t>0 by grind) h1
  grind
 by_cases c0:0<=au m p.1 p.2
 ·exact c0
 exfalso
 have h1:=hq m hm
 obtain ⟨t,t0,t1,e⟩:=ah.sU (y:=(au m q.1 q.2,au m p.1 p.2)) h1 (s:=1) (by decide) (by unfold ah.mx;grind)
 have t1':t<1:=by
  by_cases e1:t=1
  ·subst e1;unfold ah.mx at e;dsimp only at e;grind
  ·grind
 have:=key t (by grind) t1' m hm
 dsimp only at this
 rw [ah.pt] at this
 unfold ah.mx at e
 dsimp only at e
 grind
theorem Gd (q:ah.V2):ah.pos (c.map Prod.fst) q↔ah.pos M q:=by
 constructor
 ·intro g
  exact h.int hk fun s hs=>g _ (List.mem_map.2 ⟨s,hs,rfl⟩)
 ·intro g m hm
  obtain ⟨s,hs,rfl⟩:=List.mem_map.1 hm
  exact g _ (h.mem s hs).1
end
end Go.Proofs.Tryz
namespace Go.Proofs.Tryz
open Go.bF Go.eK
theorem uu {b d t0:Rat}(h:∀t,t0<=t->0<=b+d*t):0<=d:=by
 by_cases c:0<=d
 ·exact c
 exfalso
 have h0:=h t0 Rat.le_refl
 have hi:=Rat.mul_inv_cancel _ (show -d≠0 by grind)
 have hp:(-d)⁻¹≥0:=by
  by_cases g:(-d)⁻¹≥0
  ·exact g
  ·have:=ah.mn (show -d≥0 by grind) (show -(-d)⁻¹≥0 by grind)
   grind
 have:=ah.mn (show b+d*t0+1≥0 by grind) hp
 have:=h (t0+(b+d*t0+1)*(-d)⁻¹) (by grind)
 have e:d*((b+d*t0+1)*(-d)⁻¹)=-(b+d*t0+1):=by grind
 grind
theorem zB {b d t0:Rat}(h:∀t,t<=t0->0<=b+d*t):d<=0:=by
 have:=@uu b (-d) (-t0) fun t ht=>by
  have:=h (-t) (by grind)
  grind
 grind
theorem oG (l:L3):bj l l=0:=by unfold bj;grind
section
variable {M:List L3} {c:List Sd} (h:dS M c) (hk:∀m ∈ M,cE m=true)
include h hk
theorem va {s:Sd}(hs:s∈c):s.2.b=true↔∀l∈c.map Prod.fst,0<=bj l s.1:=by
 obtain ⟨m1,m2,m3⟩:=h.mem s hs
 obtain ⟨t0,ht0⟩:=eN.1 m2.2
 have v0:=(m3 t0).1 ht0
 constructor
 ·intro hb l hl
  obtain ⟨u,hu,rfl⟩:=List.mem_map.1 hl
  by_cases e:u.1=s.1
  ·rw [e,oG];exact Rat.le_refl
  refine uu (b:=dv u.1 s.1) (t0:=t0) fun t ht=>?_
  have:s.2.iN t:=⟨ht0.1.imp id fun g=>by grind,.inl hb⟩
  have:=(m3 t).1 this u.1 (h.mem u hu).1 e
  rw [bG] at this
  grind
 ·intro hd
  cases hb:s.2.b
  ·exfalso
   have lt:t0<s.2.hi:=by
    rcases ht0.2 with g|g
    ·rw [hb] at g;cases g
    ·exact g
   have sH:∀t,t0<=t->∀m∈M,0<=au m (ef s.1 t) (eg s.1 t):=fun t ht=>zg h hk (p:=(ef s.1 t,eg s.1 t)) fun u hu=>by
    dsimp only
    rw [bG]
    by_cases e:u.1=s.1
    ·have:=(gC (fF (hk _ m1)) t).1
     rw [bG] at this
     rw [e];grind
    have g0:=v0 u.1 (h.mem u hu).1 e
    rw [bG] at g0
    have:=ah.mn (hd u.1 (List.mem_map.2 ⟨u,hu,rfl⟩)) (show t-t0≥0 by grind)
    grind
   have:s.2.iN s.2.hi:=(m3 _).2 fun m hm e=>by
    have g0:=v0 m hm e
    rw [bG] at g0 ⊢
    have hd:=uu (b:=dv m s.1) (d:=bj m s.1) (t0:=t0) fun t ht=>by
     have:=sH t ht m hm
     rw [bG] at this
     exact this
    have:=ah.mn hd (show s.2.hi-t0≥0 by grind)
    grind
   rcases this.2 with g|g
   ·rw [hb] at g;cases g
   ·grind
  ·rfl
theorem C_ {s:Sd}(hs:s∈c):s.2.a=true↔∀l∈c.map Prod.fst,bj l s.1<=0:=by
 obtain ⟨m1,m2,m3⟩:=h.mem s hs
 obtain ⟨t0,ht0⟩:=eN.1 m2.2
 have v0:=(m3 t0).1 ht0
 constructor
 ·intro hb l hl
  obtain ⟨u,hu,rfl⟩:=List.mem_map.1 hl
  by_cases e:u.1=s.1
  ·rw [e,oG];exact Rat.le_refl
  refine zB (b:=dv u.1 s.1) (t0:=t0) fun t ht=>?_
  have:s.2.iN t:=⟨.inl hb,ht0.2.imp id fun g=>by grind⟩
  have:=(m3 t).1 this u.1 (h.mem u hu).1 e
  rw [bG] at this
  grind
 ·intro hd
  cases hb:s.2.a
  ·exfalso
   have lt:s.2.lo<t0:=by
    rcases ht0.1 with g|g
    ·rw [hb] at g;cases g
    ·exact g
   have sH:∀t,t<=t0->∀m∈M,0<=au m (ef s.1 t) (eg s.1 t):=fun t ht=>zg h hk (p:=(ef s.1 t,eg s.1 t)) fun u hu=>by
    dsimp only
    rw [bG]
    by_cases e:u.1=s.1
    ·have:=(gC (fF (hk _ m1)) t).1
     rw [bG] at this
     rw [e];grind
    have g0:=v0 u.1 (h.mem u hu).1 e
    rw [bG] at g0
    have:=ah.mn (show -(bj u.1 s.1)≥0 by have:=hd u.1 (List.mem_map.2 ⟨u,hu,rfl⟩);grind) (show t0-t≥0 by grind)
    grind
   have:s.2.iN s.2.lo:=(m3 _).2 fun m hm e=>by
    have g0:=v0 m hm e
    rw [bG] at g0 ⊢
    have hd:=zB (b:=dv m s.1) (d:=bj m s.1) (t0:=t0) fun t ht=>by
     have:=sH t ht m hm
     rw [bG] at this
     exact this
    have:=ah.mn (show -(bj m s.1)≥0 by grind) (show t0-s.2.lo≥0 by grind)
    grind
   rcases this.1 with g|g
   ·rw [hb] at g;cases g
   ·grind
  ·rfl
theorem GO:(c≠[]/\∀s∈c,s.2.a=false/\s.2.b=false)↔c.map Prod.fst≠[]/\∀u∈c.map Prod.fst,(¬∀l∈c.map Prod.fst,0<=ah.cr (ah.aq l) (ah.aq u))/\¬∀l∈c.map Prod.fst,0<=ah.cr (ah.aq l) (-(ah.aq u).1,-(ah.aq u).2):=by
 have hc:∀l u:L3,ah.cr (ah.aq l) (-(ah.aq u).1,-(ah.aq u).2)=-bj l u:=fun l u=>by rw [←gE];unfold ah.cr;grind
 have hn:c≠[]↔c.map Prod.fst≠[]:=by cases c<;>simp
 rw [hn]
 refine and_congr_right fun _=>⟨fun g u hu=>?_,fun g s hs=>?_⟩
 ·obtain ⟨s,hs,rfl⟩:=List.mem_map.1 hu
  obtain ⟨g1,g2⟩:=g s hs
  refine ⟨fun k=>?_,fun k=>?_⟩
  ·have:=(va h hk hs).2 fun l hl=>by rw [←gE];exact k l hl
   rw [g2] at this;cases this
  ·have:=(C_ h hk hs).2 fun l hl=>by have:=k l hl;rw [hc] at this;grind
   rw [g1] at this;cases this
 ·obtain ⟨g1,g2⟩:=g s.1 (List.mem_map.2 ⟨s,hs,rfl⟩)
  constructor
  ·cases ha:s.2.a
   ·rfl
   ·exact absurd (fun l hl=>by have:=(C_ h hk hs).1 ha l hl;rw [hc];grind) g2
  ·cases hb:s.2.b
   ·rfl
   ·exact absurd (fun l hl=>by have:=(va h hk hs).1 hb l hl;rw [gE];exact this) g1
end
end Go.Proofs.Tryz
