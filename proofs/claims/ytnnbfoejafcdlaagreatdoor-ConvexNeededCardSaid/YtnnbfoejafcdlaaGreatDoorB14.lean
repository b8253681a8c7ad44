import Derived.Test.YtnnbfoejafcdlaaGreatDoorB12
import Derived.Test.YtnnbfoejafcdlaaGreatDoorB13
import Derived.Test.YtnnbfoejafcdlaaGreatDoorB5
import Derived.Test.YtnnbfoejafcdlaaGreatDoorB9
import Derived.Test.YtnnbfoejafcdlaaGreatDoorB7
set_option linter.unusedVariables false
open Go.IntKind (i64 u64 u32)
namespace Go.Proofs.Tryz
open Go.bu Go.eQ
structure GR {α:Type} (sz:Nat) (R:View->Value->α->Prop) (V:View) (n c:Nat) (vs:List Value) (l:List α):Prop where
 len:n=l.length
 le:n<=c
 cap:c*sz<=vs.length
 row:Row sz R V vs l
theorem GR.nil {α:Type}{sz:Nat}{R:View->Value->α->Prop}{V:View}:GR sz R V 0 0 [] []:=⟨rfl,Nat.le_refl _,by simp,Row.nil⟩
theorem GR.mono {α:Type}{sz:Nat}{R:View->Value->α->Prop}{V V':View}{n c:Nat}{vs:List Value}{l:List α}(h:GR sz R V n c vs l)(m:∀v a,R V v a->R V' v a):GR sz R V' n c vs l:=⟨h.len,h.le,h.cap,h.row.le m⟩
theorem GR.snoc {α:Type}{sz:Nat}{R:View->Value->α->Prop}{V:View}{n c:Nat}{vs:List Value}{l:List α}(h:GR sz R V n c vs l){xs:List Value}{a:α}(hx:xs.length=sz)(ha:R V (.agg xs.toArray) a)(h0:0<sz){sp:List Value}{c':Nat}(h1:n+1<=c')(h2:c'*sz<=(n+1)*sz+sp.length) :
  GR sz R V (n+1) c' (vs.take (n*sz)++xs++sp) (l++[a]):=by
 have hn:=h.len
 have hc:=h.cap
 have hl:n*sz<=c*sz:=Nat.mul_le_mul_right _ h.le
 refine ⟨by rw [List.length_append,hn];rfl,h1,?_,?_⟩
 ·have ht:(vs.take (n*sz)).length=n*sz:=by rw [List.length_take];omega
  rw [List.length_append,List.length_append,ht,hx]
  rw [Nat.succ_mul] at h2
  exact h2
 ·have:=h.row.snoc (sp:=sp) hx ha h0
  rw [←hn] at this
  exact this
def kk (l:L3):L3:=if l.1<0\/l.1=0/\l.2.1<0 then gB l else l
theorem Bd.rev {l:L3}(h:Bd l):Bd (gB l):=by
 obtain ⟨h1,h2,h3⟩:=h
 unfold Bd gB
 simp only [Int.natAbs_neg]
 exact ⟨h1,h2,h3⟩
theorem Bd.can {l:L3}(h:Bd l):Bd (kk l):=by
 unfold kk;split
 ·exact h.rev
 ·exact h
theorem Bd.pY {l:L3}(h:Bd l):lh 1000 l:=⟨h.sz.1,h.sz.2.1,h.sz.2.2⟩
end Go.Proofs.Tryz
namespace Go.Proofs.Tryz.ay
open Go.bu Go.eQ
def nv (l:L3)(v:V2):Rat:=(l.1:Rat)*v.1+(l.2.1:Rat)*v.2
def aG (l:L3):V2:=((l.2.1:Rat),-(l.1:Rat))
theorem Dq (l:L3)(v:V2):nv l v=cr (aG l) v:=by unfold nv cr aG;grind
theorem GX {q:Rat}:q.num.sign=-1↔q<0:=by
 rw [Int.sign_eq_neg_one_iff_neg,←Int.not_le,←Rat.not_le,Rat.num_nonneg]
theorem Km {q:Rat}:q.num.sign=1↔q>0:=by
 have h:=@GX (-q)
 rw [Rat.neg_num,Int.sign_neg] at h
 constructor
 ·intro e;have:=h.1 (by rw [e]);grind
 ·intro e;have:=h.2 (by grind);omega
theorem nS {q:Rat}:q.num.sign=0↔q=0:=by rw [Int.sign_eq_zero_iff_zero,Rat.num_eq_zero]
def Ng (D:List V2)(M:List L3):Prop:=∀l∈M,∃r∈D,∃c:Rat,c>0/\r=(c*(aG l).1,c*(aG l).2)
theorem BO {l:L3}{r:V2}{c:Rat}(c0:c>0)(e:r=(c*(aG l).1,c*(aG l).2))(v:V2):cr r v=c*nv l v:=by
 rw [Dq,e];unfold cr;grind
theorem Dm {c x:Rat}(c0:c>0):(c*x>0↔x>0)/\(c*x<0↔x<0)/\(c*x=0↔x=0):=by
 have p:x>0->c*x>0:=fun h=>mp c0 h
 have n:x<0->c*x<0:=fun h=>by have:=mp c0 (show -x>0 by grind);grind
 have z:x=0->c*x=0:=fun h=>by rw [h];grind
 refine ⟨⟨fun h=>?_,p⟩,⟨fun h=>?_,n⟩,⟨fun h=>?_,z⟩⟩
 ·by_cases q:x>0
  ·exact q
  ·by_cases q':x<0
   ·have:=n q';grind
   ·have:=z (by grind);grind
 ·by_cases q:x<0
  ·exact q
  ·by_cases q':x>0
   ·have:=p q';grind
   ·have:=z (by grind);grind
 ·rcases Rat.mul_eq_zero.1 h with h|h
  ·grind
  ·exact h
theorem Ng.gen {D:List V2}{M:List L3}(h:Ng D M){v:V2}(hv:∀r∈D,cr r v≠0):∀l∈M,nv l v≠0:=by
 intro l hl e
 obtain ⟨r,hr,c,c0,e'⟩:=h l hl
 exact hv r hr (by rw [BO c0 e',e];grind)
theorem Ng.same {D:List V2}{M:List L3}(h:Ng D M){v x:V2}(hv:∀r∈D,(cr r v>0->cr r x>0)/\(cr r v<0->cr r x<0)) :
  ∀l∈M,(nv l v>0->nv l x>0)/\(nv l v<0->nv l x<0):=by
 intro l hl
 obtain ⟨r,hr,c,c0,e'⟩:=h l hl
 have:=hv r hr
 rw [BO c0 e',BO c0 e'] at this
 obtain ⟨a1,a2,_⟩:=@Dm c (nv l v) c0
 obtain ⟨b1,b2,_⟩:=@Dm c (nv l x) c0
 exact ⟨fun h=>b1.1 (this.1 (a1.2 h)),fun h=>b2.1 (this.2 (a2.2 h))⟩
theorem iJ (l:L3)(p v:V2)(s:Rat):au l (p.1+s*v.1) (p.2+s*v.2)=au l p.1 p.2+s*nv l v:=by unfold au nv;grind
theorem inv_mul {c:Rat}(h:c≠0)(a:Rat):a*c⁻¹*c=a:=by rw [Rat.mul_assoc,Rat.inv_mul_cancel _ h,Rat.mul_one]
def half (u:V2):Int:=if u.2.num.sign>0\/u.2.num.sign=0/\u.1.num.sign>0 then 1 else if u.2.num.sign<0\/u.1.num.sign<0 then 2 else 0
def iL (u v:V2):Int:=if half u<half v then -1 else if half u>half v then 1 else -(cr u v).num.sign
theorem pX {q:Rat}:q.num.sign>0↔q>0:=by
 have:=Rat.num_nonneg (q:=-q)
 rw [Rat.neg_num] at this
 rw [gt_iff_lt,Int.sign_pos_iff]
 have h2:(0<=-q)↔¬q>0:=by constructor<;>intro h<;>grind
 rw [h2] at this
 by_cases h:q>0
 ·exact ⟨fun _=>h,fun _=>by
   have:¬0<=-q.num:=fun g=>this.1 g h
   omega⟩
 ·exact ⟨fun g=>by have:=this.2 h;omega,fun g=>absurd g h⟩
theorem Dx {q:Rat}:q.num.sign<0↔q<0:=by
 have:=@pX (-q)
 rw [Rat.neg_num,Int.sign_neg] at this
 constructor
 ·intro h;have:=this.1 (by omega);grind
 ·intro h;have:=this.2 (by grind);omega
theorem cS (u:V2):half u=1/\up u\/half u=2/\dn u\/half u=0/\u.1=0/\u.2=0:=by
 unfold half up dn
 split
 ·rename_i h;rw [pX,pX,nS] at h;exact .inl ⟨rfl,h⟩
 ·rename_i h
  rw [pX,pX,nS] at h
  split
  ·rename_i h';rw [Dx,Dx] at h';exact .inr (.inl ⟨rfl,by grind⟩)
  ·rename_i h';rw [Dx,Dx] at h';exact .inr (.inr ⟨rfl,by grind,by grind⟩)
theorem wY {u v:V2}:iL u v<0↔half u<half v\/half u=half v/\cr u v>0:=by
 have:=@pX (cr u v)
 unfold iL
 by_cases h1:half u<half v
 ·simp [h1]
 ·by_cases h2:half u>half v
  ·rw [if_neg h1,if_pos h2];omega
  ·rw [if_neg h1,if_neg h2];constructor
   ·intro h;exact .inr ⟨by omega,this.1 (by omega)⟩
   ·rintro (h|⟨h,h'⟩)
    ·omega
    ·have:=this.2 h';omega
theorem yU {u v:V2}:iL u v=0↔half u=half v/\cr u v=0:=by
 have:=@nS (cr u v)
 unfold iL
 by_cases h1:half u<half v
 ·rw [if_pos h1];constructor
  ·intro h;omega
  ·rintro ⟨h,_⟩;omega
 ·by_cases h2:half u>half v
  ·rw [if_neg h1,if_pos h2];constructor
   ·intro h;omega
   ·rintro ⟨h,_⟩;omega
  ·rw [if_neg h1,if_neg h2];constructor
   ·intro h;exact ⟨by omega,this.1 (by omega)⟩
   ·rintro ⟨_,h⟩;have:=this.2 h;omega
theorem Jq (u v:V2):iL u v<0\/iL u v=0\/iL v u<0:=by
 rw [wY,yU,wY]
 have:=Da u v
 rcases Int.lt_trichotomy (half u) (half v) with h|h|h
 ·exact .inl (.inl h)
 ·by_cases p:cr u v>0
  ·exact .inl (.inr ⟨h,p⟩)
  ·by_cases q:cr u v=0
   ·exact .inr (.inl ⟨h,q⟩)
   ·exact .inr (.inr (.inr ⟨h.symm,by grind⟩))
 ·exact .inr (.inr (.inl h))
theorem CZ (u v:V2)(h:iL u v<0):¬iL v u<0:=by
 rw [wY] at *
 have:=Da u v
 rintro (h'|⟨h',g'⟩)<;>rcases h with h|⟨h,g⟩
 ·omega
 ·omega
 ·omega
 ·grind
theorem Hx {a b d:V2}(uE:half a=half b)(hbd:half b=half d)(h1:cr a b<=0)(h2:cr b d<=0):cr a d<=0:=by
 by_cases h:cr a d<=0
 ·exact h
 exfalso
 have c:cr a d>0:=by grind
 have j1:=O7 a d b
 have j2:=FQ a d b
 rcases cS b with ⟨e,hb⟩|⟨e,hb⟩|⟨e,hb⟩
 ·have ha:up a:=by rcases cS a with ⟨e',h⟩|⟨e',h⟩|⟨e',h⟩<;>first|exact h|omega
  have hd:up d:=by rcases cS d with ⟨e',h⟩|⟨e',h⟩|⟨e',h⟩<;>first|exact h|omega
  unfold up at ha hb hd
  have m1:=mn (show -(cr a b)≥0 by grind) (show d.2≥0 by grind)
  have m2:=mn (show -(cr b d)≥0 by grind) (show a.2≥0 by grind)
  have m3:=mn (show cr a d≥0 by grind) (show b.2≥0 by grind)
  have z3:cr a d*b.2=0:=by grind
  have b2:b.2=0:=by rcases Rat.mul_eq_zero.1 z3 with h|h<;>grind
  have b1:b.1>0:=by grind
  have d2:d.2=0:=by
   by_cases q:d.2>0
   ·have:=mp b1 q;unfold cr at h2;rw [b2] at h2;grind
   ·grind
  have d1:d.1>0:=by grind
  have:=mn (show a.2≥0 by grind) (show d.1≥0 by grind)
  unfold cr at c
  rw [d2] at c
  grind
 ·have ha:dn a:=by rcases cS a with ⟨e',h⟩|⟨e',h⟩|⟨e',h⟩<;>first|exact h|omega
  have hd:dn d:=by rcases cS d with ⟨e',h⟩|⟨e',h⟩|⟨e',h⟩<;>first|exact h|omega
  unfold dn at ha hb hd
  have m1:=mn (show -(cr a b)≥0 by grind) (show -d.2≥0 by grind)
  have m2:=mn (show -(cr b d)≥0 by grind) (show -a.2≥0 by grind)
  have m3:=mn (show cr a d≥0 by grind) (show -b.2≥0 by grind)
  have z3:cr a d*b.2=0:=by grind
  have b2:b.2=0:=by rcases Rat.mul_eq_zero.1 z3 with h|h<;>grind
  have b1:-b.1>0:=by grind
  have d2:d.2=0:=by
   by_cases q:-d.2>0
   ·have:=mp b1 q;unfold cr at h2;rw [b2] at h2;grind
   ·grind
  have d1:d.1<0:=by grind
  have:=mn (show -a.2≥0 by grind) (show -d.1≥0 by grind)
  unfold cr at c
  rw [d2] at c
  grind
 ·have ha:a.1=0/\a.2=0:=by rcases cS a with ⟨e',h⟩|⟨e',h⟩|⟨e',h⟩<;>first|exact h|omega
  unfold cr at c
  rw [ha.1,ha.2] at c
  grind
theorem Jp {u v:V2}:¬iL u v<0↔half v<half u\/half u=half v/\cr u v<=0:=by
 rw [wY]
 constructor
 ·intro h
  rcases Int.lt_trichotomy (half u) (half v) with g|g|g
  ·exact absurd (.inl g) h
  ·exact .inr ⟨g,by by_cases p:cr u v>0;exact absurd (.inr ⟨g,p⟩) h;grind⟩
  ·exact .inl g
 ·rintro (h|⟨h,g⟩) (h'|⟨h',g'⟩)
  ·omega
  ·omega
  ·omega
  ·grind
theorem Jr (a b d:V2)(h:¬iL a b<0)(h':¬iL b d<0):¬iL a d<0:=by
 rw [Jp] at *
 rcases h with h|⟨h,g⟩<;>rcases h' with h'|⟨h',g'⟩
 ·exact .inl (by omega)
 ·exact .inl (by omega)
 ·exact .inl (by omega)
 ·exact .inr ⟨by omega,Hx h h' g g'⟩
theorem E6 {u v:V2}(hu:nz u)(h:iL u v=0):∃c:Rat,c>0/\u=(c*v.1,c*v.2):=by
 rw [yU] at h
 obtain ⟨e,c⟩:=h
 have fin:∀k:Rat,k>0->u.1=k*v.1->u.2=k*v.2->∃c:Rat,c>0/\u=(c*v.1,c*v.2):=fun k h0 h1 h2=>⟨k,h0,Prod.ext h1 h2⟩
 have pos:∀x y:Rat,y≠0->x*y>0->x*y⁻¹>0:=fun x y hy h=>by
  have e:=inv_mul hy x
  generalize x*y⁻¹=t at *
  have e2:t*(y*y)=x*y:=by grind
  have:=sq_pos (u:=(y,0)) (.inl hy)
  unfold dt at this
  by_cases q:t>0
  ·exact q
  ·have:=mn (show -t≥0 by grind) (show y*y≥0 by grind);grind
 unfold cr at c
 have two:v.2≠0->u.2*v.2>0->∃c:Rat,c>0/\u=(c*v.1,c*v.2):=fun h0 h1=>by
  refine fin (u.2*v.2⁻¹) (pos _ _ h0 h1) ?_ (inv_mul h0 _).symm
  have:=inv_mul h0 u.1
  have:u.1*v.2*v.2⁻¹=u.2*v.1*v.2⁻¹:=by rw [show u.1*v.2=u.2*v.1 by grind]
  grind
 have one:v.1≠0->u.1*v.1>0->v.2=0->u.2=0->∃c:Rat,c>0/\u=(c*v.1,c*v.2):=fun h0 h1 h2 h3=>
  fin (u.1*v.1⁻¹) (pos _ _ h0 h1) (inv_mul h0 _).symm (by rw [h2,h3];grind)
 rcases cS u with ⟨e1,h⟩|⟨e1,h⟩|⟨e1,h⟩
 ·have h':up v:=by rcases cS v with ⟨e',h⟩|⟨e',h⟩|⟨e',h⟩<;>first|exact h|omega
  unfold up at h h'
  by_cases q:v.2>0
  ·refine two (by grind) ?_
   by_cases q':u.2>0
   ·exact mp q' q
   ·have u2:u.2=0:=by grind
    have:=mp (show u.1>0 by grind) q
    rw [u2] at c;grind
  ·have v2:v.2=0:=by grind
   have v1:v.1>0:=by grind
   by_cases q':u.2>0
   ·have:=mp q' v1;rw [v2] at c;grind
   ·exact one (by grind) (mp (by grind) v1) v2 (by grind)
 ·have h':dn v:=by rcases cS v with ⟨e',h⟩|⟨e',h⟩|⟨e',h⟩<;>first|exact h|omega
  unfold dn at h h'
  by_cases q:v.2<0
  ·refine two (by grind) ?_
   by_cases q':u.2<0
   ·have:=mp (show -u.2>0 by grind) (show -v.2>0 by grind);grind
   ·have u2:u.2=0:=by grind
    have:=mp (show -u.1>0 by grind) (show -v.2>0 by grind)
    rw [u2] at c;grind
  ·have v2:v.2=0:=by grind
   have v1:-v.1>0:=by grind
   by_cases q':u.2<0
   ·have:=mp (show -u.2>0 by grind) v1;rw [v2] at c;grind
   ·refine one (by grind) ?_ v2 (by grind)
    have:=mp (show -u.1>0 by grind) v1;grind
 ·unfold nz at hu;grind
section
variable {D:List V2} (h:Nn D)
include h
end
theorem qS {a b c x y z:Int}(h1:a*y=b*x)(h2:a*z=c*x)(g:Nat.gcd (Nat.gcd x.natAbs y.natAbs) z.natAbs=1):x.natAbs∣a.natAbs:=by
 have e1:a.natAbs*y.natAbs=b.natAbs*x.natAbs:=by rw [←Int.natAbs_mul,←Int.natAbs_mul,h1]
 have e2:a.natAbs*z.natAbs=c.natAbs*x.natAbs:=by rw [←Int.natAbs_mul,←Int.natAbs_mul,h2]
 have d1:x.natAbs∣a.natAbs*Nat.gcd (Nat.gcd x.natAbs y.natAbs) z.natAbs:=by
  rw [←Nat.gcd_mul_left,←Nat.gcd_mul_left]
  exact Nat.dvd_gcd (Nat.dvd_gcd ⟨a.natAbs,by rw [Nat.mul_comm]⟩ ⟨b.natAbs,by rw [e1,Nat.mul_comm]⟩) ⟨c.natAbs,by rw [e2,Nat.mul_comm]⟩
 rwa [g,Nat.mul_one] at d1
theorem EF {l m:L3}(ol:du l=true)(om:du m=true)(cl:kk l=l)(cm:kk m=m){x y:Rat}(hl:au l x y=0)(hm:au m x y=0)
  (hc:cr (aG l) (aG m)=0):l=m:=by
 unfold du at ol om
 rw [Bool.and_eq_true,decide_eq_true_iff,decide_eq_true_iff] at ol om
 have c12:l.1*m.2.1=l.2.1*m.1:=by
  unfold cr aG at hc
  have:(l.1:Rat)*(m.2.1:Rat)=(l.2.1:Rat)*(m.1:Rat):=by grind
  exact_mod_cast this
 unfold au at hl hm
 have Vm:(l.1:Rat)*(m.2.1:Rat)=(l.2.1:Rat)*(m.1:Rat):=by exact_mod_cast c12
 have c13:l.1*m.2.2=l.2.2*m.1:=by
  have:(l.1:Rat)*(m.2.2:Rat)=(l.2.2:Rat)*(m.1:Rat):=by grind
  exact_mod_cast this
 have c23:l.2.1*m.2.2=l.2.2*m.2.1:=by
  have:(l.2.1:Rat)*(m.2.2:Rat)=(l.2.2:Rat)*(m.2.1:Rat):=by grind
  exact_mod_cast this
 obtain ⟨T2,Pr⟩:=ol
 obtain ⟨Vg,Ps⟩:=om
 unfold fS at Pr Ps
 have S8:Nat.gcd (Nat.gcd l.2.1.natAbs l.1.natAbs) l.2.2.natAbs=1:=by rw [Nat.gcd_comm l.2.1.natAbs];exact Pr
 have S9:Nat.gcd (Nat.gcd m.2.1.natAbs m.1.natAbs) m.2.2.natAbs=1:=by rw [Nat.gcd_comm m.2.1.natAbs];exact Ps
 have a1:l.1.natAbs=m.1.natAbs:=Nat.dvd_antisymm (qS (a:=m.1) (b:=m.2.1) (c:=m.2.2) (by rw [Int.mul_comm,←c12,Int.mul_comm]) (by rw [Int.mul_comm,←c13,Int.mul_comm]) Pr) (qS c12 c13 Ps)
 have a2:l.2.1.natAbs=m.2.1.natAbs:=Nat.dvd_antisymm (qS (a:=m.2.1) (b:=m.1) (c:=m.2.2) (by rw [Int.mul_comm,c12,Int.mul_comm]) (by rw [Int.mul_comm,←c23,Int.mul_comm]) S8) (qS (b:=l.1) (c:=l.2.2) c12.symm c23 S9)
 have sl:¬(l.1<0\/l.1=0/\l.2.1<0):=fun h=>by
  unfold kk at cl
  rw [if_pos h] at cl
  have e1:-l.1=l.1:=congrArg (fun x:L3=>x.1) cl
  have e2:-l.2.1=l.2.1:=congrArg (fun x:L3=>x.2.1) cl
  omega
 have sm:¬(m.1<0\/m.1=0/\m.2.1<0):=fun h=>by
  unfold kk at cm
  rw [if_pos h] at cm
  have e1:-m.1=m.1:=congrArg (fun x:L3=>x.1) cm
  have e2:-m.2.1=m.2.1:=congrArg (fun x:L3=>x.2.1) cm
  omega
 have e1:l.1=m.1:=by omega
 by_cases z:l.1=0
 ·have e2:l.2.1=m.2.1:=by omega
  have n2:l.2.1≠0:=fun h=>T2 ⟨z,h⟩
  have e3:m.2.2=l.2.2:=Int.eq_of_mul_eq_mul_left n2 (by rw [c23,e2,Int.mul_comm])
  exact Prod.ext e1 (Prod.ext e2 e3.symm)
 ·have e2:m.2.1=l.2.1:=Int.eq_of_mul_eq_mul_left z (by rw [c12,e1,Int.mul_comm])
  have e3:m.2.2=l.2.2:=Int.eq_of_mul_eq_mul_left z (by rw [c13,e1,Int.mul_comm])
  exact Prod.ext e1 (Prod.ext e2.symm e3.symm)
end Go.Proofs.Tryz.ay
namespace Go.Proofs.Tryz.ay
def mx (x:Rat×Rat)(t:Rat):Rat:=x.1+t*(x.2-x.1)
theorem B9 {x:Rat×Rat}{t:Rat}(h1:x.1>0)(h2:x.2>0)(t0:t>0)(t1:t<=1):mx x t>0:=by
 have a:=mn (show 1-t≥0 by grind) (show x.1≥0 by grind)
 have b:=mp t0 h2
 unfold mx;grind
theorem J7 {x:Rat×Rat}{t s:Rat}(h1:x.1>0)(hs:mx x s≥0)(s0:s>0)(t0:t>0)(ts:t<=s):mx x t≥0:=by
 unfold mx at *
 have e:s*(x.1+t*(x.2-x.1))=(s-t)*x.1+t*(x.1+s*(x.2-x.1)):=by grind
 have a:=mn (show s-t≥0 by grind) (show x.1≥0 by grind)
 have b:=mn (show t≥0 by grind) hs
 by_cases h:x.1+t*(x.2-x.1)≥0
 ·exact h
 ·have:=mp s0 (show -(x.1+t*(x.2-x.1))>0 by grind)
  grind
theorem yL {y:Rat×Rat}(h1:y.1>0){s:Rat}(s0:s>0)(hs:mx y s<=0):∃t,t>0/\t<=s/\mx y t=0:=by
 have hd:y.1-y.2>0:=by
  by_cases c:y.1-y.2>0
  ·exact c
  ·have:=mn (show s≥0 by grind) (show y.2-y.1≥0 by grind)
   unfold mx at hs;grind
 have e:=inv_mul (show y.1-y.2≠0 by grind) y.1
 have p:=mp h1 (Rat.inv_pos.2 hd)
 refine ⟨y.1*(y.1-y.2)⁻¹,p,?_,?_⟩
 ·generalize y.1*(y.1-y.2)⁻¹=t at *
  by_cases c:t<=s
  ·exact c
  ·have:=mp (show t-s>0 by grind) hd
   unfold mx at hs;grind
 ·generalize y.1*(y.1-y.2)⁻¹=t at *
  unfold mx;grind
theorem BR:∀(L:List (Rat×Rat)),(∀x∈L,x.1>0)->(∃x∈L,x.2<=0)->∃t,t>0/\t<=1/\(∀x∈L,mx x t≥0)/\∃x∈L,mx x t=0
 | [],_,h=>by obtain ⟨x,hx,_⟩:=h;cases hx
 | y::L,h0,h=>by
  have hy:=h0 y (List.mem_cons_self ..)
  have hL:=fun x hx=>h0 x (List.mem_cons_of_mem y hx)
  by_cases c:∃x∈L,x.2<=0
  ·obtain ⟨t,t0,t1,a,x,hx,e⟩:=BR L hL c
   by_cases g:mx y t≥0
   ·exact ⟨t,t0,t1,fun z hz=>by rcases List.mem_cons.1 hz with rfl|hz;exact g;exact a z hz,x,List.mem_cons_of_mem _ hx,e⟩
   ·obtain ⟨s,s0,st,es⟩:=yL hy t0 (by grind)
    exact ⟨s,s0,by grind,fun z hz=>by rcases List.mem_cons.1 hz with rfl|hz;grind;exact J7 (hL z hz) (a z hz) t0 s0 st,y,List.mem_cons_self ..,es⟩
  ·obtain ⟨x,hx,hx2⟩:=h
   have:x=y:=by
    rcases List.mem_cons.1 hx with rfl|hx
    ·rfl
    ·exact absurd ⟨x,hx,hx2⟩ c
   subst this
   obtain ⟨s,s0,st,es⟩:=yL hy (s:=1) (by decide) (by unfold mx;grind)
   refine ⟨s,s0,st,fun z hz=>?_,x,List.mem_cons_self ..,es⟩
   rcases List.mem_cons.1 hz with rfl|hz
   ·grind
   ·have:z.2>0:=by
     by_cases q:z.2>0
     ·exact q
     ·exact absurd ⟨z,hz,by grind⟩ c
    have:=B9 (hL z hz) this s0 st
    grind
theorem xZ:∀(L:List (Rat×Rat)),(∀x∈L,x.1>0)->∃s,s>0/\∀x∈L,x.1+s*x.2>0
 | [],_=>⟨1,by decide,fun x h=>by cases h⟩
 | y::L,h0=>by
  have hy:=h0 y (List.mem_cons_self ..)
  obtain ⟨s,s0,h⟩:=xZ L fun x hx=>h0 x (List.mem_cons_of_mem y hx)
  by_cases c:y.1+s*y.2>0
  ·exact ⟨s,s0,fun z hz=>by rcases List.mem_cons.1 hz with rfl|hz;exact c;exact h z hz⟩
  ·have hn:-y.2>0:=by
    by_cases q:y.2<0
    ·grind
    ·have:=mn (show s≥0 by grind) (show y.2≥0 by grind);grind
   have e:=inv_mul (show -y.2≠0 by grind) y.1
   have p:=mp hy (Rat.inv_pos.2 hn)
   generalize y.1*(-y.2)⁻¹=r at *
   have hr:r<=s:=by
    by_cases q:r<=s
    ·exact q
    ·have:=mp (show r-s>0 by grind) hn;grind
   refine ⟨r*(1 / 2),by grind,fun z hz=>?_⟩
   rcases List.mem_cons.1 hz with rfl|hz
   ·grind
   ·have hz1:=h0 z (List.mem_cons_of_mem _ hz)
    have hz2:=h z hz
    by_cases q:z.2≥0
    ·have:=mn (show r*(1 / 2)≥0 by grind) q;grind
    ·have:=mn (show s-r*(1 / 2)≥0 by grind) (show -z.2≥0 by grind)
     grind
def pos (M:List L3)(p:V2):Prop:=∀m∈M,au m p.1 p.2>0
def Es (M:List L3)(l:L3):Prop:=∃p:V2,au l p.1 p.2=0/\∀m∈M,m≠l->au m p.1 p.2>0
def Qi (M:List L3):Prop:=∀l∈M,∀m∈M,l≠m->∀p:V2,au l p.1 p.2=0->au m p.1 p.2=0->cr (aG l) (aG m)≠0
theorem Ib {l m:L3}{w:V2}(hw:w.1≠0\/w.2≠0)(h1:nv l w=0)(h2:nv m w=0):cr (aG l) (aG m)=0:=by
 have e1:cr (aG l) (aG m)*w.1=0:=by unfold nv at *;unfold cr aG;grind
 have e2:cr (aG l) (aG m)*w.2=0:=by unfold nv at *;unfold cr aG;grind
 rcases hw with h|h
 ·rcases Rat.mul_eq_zero.1 e1 with g|g;exact g;exact absurd g h
 ·rcases Rat.mul_eq_zero.1 e2 with g|g;exact g;exact absurd g h
theorem C_ (u:V2):cr u u=0:=by unfold cr;grind
theorem yk (m:L3)(q p:V2)(t:Rat):au m (q.1+t*(p.1-q.1)) (q.2+t*(p.2-q.2))=au m q.1 q.2+t*(au m p.1 p.2-au m q.1 q.2):=by unfold au;grind
theorem J_ (m:L3)(q p:V2)(t:Rat):nv m (q.1+t*(p.1-q.1),q.2+t*(p.2-q.2))=nv m q+t*(nv m p-nv m q):=by unfold nv;grind
theorem Kb (m:L3)(q x:V2):nv m (q.1-x.1,q.2-x.2)=au m q.1 q.2-au m x.1 x.2:=by unfold nv au;grind
theorem SW {M:List L3}(hd:Qi M)(hn:∀m∈M,(aG m).1≠0\/(aG m).2≠0){q p:V2}(hq:pos M q)(hp:∀m∈M,Es M m->au m p.1 p.2>0):pos M p:=by
 intro m0 hm0
 by_cases c:au m0 p.1 p.2>0
 ·exact c
 exfalso
 let f:L3->Rat×Rat:=fun m=>(au m q.1 q.2,au m p.1 p.2)
 obtain ⟨t,t0,t1,ge,x,hx,ex⟩:=BR (M.map f) (fun x hx=>by obtain ⟨m,hm,rfl⟩:=List.mem_map.1 hx;exact hq m hm) ⟨f m0,List.mem_map_of_mem hm0,by show au m0 p.1 p.2<=0;grind⟩
 obtain ⟨m1,hm1,rfl⟩:=List.mem_map.1 hx
 let X:V2:=(q.1+t*(p.1-q.1),q.2+t*(p.2-q.2))
 have vX:∀m,au m X.1 X.2=mx (f m) t:=fun m=>yk m q p t
 have S6:∀m∈M,au m X.1 X.2≥0:=fun m hm=>by rw [vX];exact ge _ (List.mem_map_of_mem hm)
 have zX:au m1 X.1 X.2=0:=by rw [vX];exact ex
 let u:V2:=(q.1-X.1,q.2-X.2)
 have vu:∀m,nv m u=au m q.1 q.2-au m X.1 X.2:=fun m=>Kb m q X
 let Z:=M.filter fun m=>decide (au m X.1 X.2=0)
 have H4:∀m,m∈Z↔m∈M/\au m X.1 X.2=0:=fun m=>by simp [Z,List.mem_filter]
 have TZ:m1∈Z:=(H4 m1).2 ⟨hm1,zX⟩
 let d:=aG m1
 have d0:nv m1 d=0:=by rw [Dq];exact C_ _
 let g:L3->Rat×Rat:=fun m=>(nv m u,nv m d)
 obtain ⟨k,k0,k1,S7,y,hy,ey⟩:=BR (Z.map g) (fun x hx=>by
  obtain ⟨m,hm,rfl⟩:=List.mem_map.1 hx
  obtain ⟨Tx,hz⟩:=(H4 m).1 hm
  show nv m u>0
  rw [vu,hz];have:=hq m Tx;grind) ⟨g m1,List.mem_map_of_mem TZ,by show nv m1 d<=0;rw [d0];grind⟩
 obtain ⟨m2,hm2,rfl⟩:=List.mem_map.1 hy
 obtain ⟨Pk,Pl⟩:=(H4 m2).1 hm2
 let w:V2:=(u.1+k*(d.1-u.1),u.2+k*(d.2-u.2))
 have vw:∀m,nv m w=mx (g m) k:=fun m=>J_ m u d k
 have wz:nv m2 w=0:=by rw [vw];exact ey
 have w0:w.1≠0\/w.2≠0:=by
  by_cases e:k=1
  ·have:=hn m1 hm1
   have e1:w.1=d.1:=by dsimp only [w];rw [e];grind
   have e2:w.2=d.2:=by dsimp only [w];rw [e];grind
   rw [e1,e2];exact this
  ·have a:nv m1 w>0:=by
    rw [vw]
    show nv m1 u+k*(nv m1 d-nv m1 u)>0
    rw [d0]
    have:nv m1 u>0:=by rw [vu,zX];have:=hq m1 hm1;grind
    have:=mp (show 1-k>0 by grind) this
    grind
   by_cases e1:w.1=0
   ·by_cases e2:w.2=0
    ·unfold nv at a;rw [e1,e2] at a;grind
    ·exact .inr e2
   ·exact .inl e1
 obtain ⟨s,s0,hs⟩:=xZ ((M.filter fun m=>decide (au m X.1 X.2>0)).map fun m=>(au m X.1 X.2,nv m w)) (fun x hx=>by
  obtain ⟨m,hm,rfl⟩:=List.mem_map.1 hx
  simpa using (List.mem_filter.1 hm).2)
 have es:Es M m2:=by
  refine ⟨(X.1+s*w.1,X.2+s*w.2),?_,fun m hm hne=>?_⟩
  ·rw [iJ,Pl,wz];grind
  ·rw [iJ]
   by_cases z:au m X.1 X.2=0
   ·have Ty:=(H4 m).2 ⟨hm,z⟩
    have g0:nv m w≥0:=by rw [vw];exact S7 _ (List.mem_map_of_mem Ty)
    have ne:nv m w≠0:=fun e=>hd m2 Pk m hm (fun h=>hne h.symm) X Pl z (Ib w0 wz e)
    have:=mp s0 (show nv m w>0 by grind)
    rw [z];grind
   ·have gz:=S6 m hm
    have hmem:(au m X.1 X.2,nv m w)∈((M.filter fun m=>decide (au m X.1 X.2>0)).map fun m=>(au m X.1 X.2,nv m w)):=List.mem_map.2 ⟨m,List.mem_filter.2 ⟨hm,by simp;grind⟩,rfl⟩
    exact hs _ hmem
 have a:=hp m2 Pk es
 have b:=hq m2 Pk
 have:=B9 (x:=f m2) b a t0 t1
 rw [←vX,Pl] at this
 grind
def H5 (l:L3):V2:=((l.1:Rat),(l.2.1:Rat))
theorem P0 {x y:Rat}(h:x≠0\/y≠0):x*x+y*y>0:=by
 have p:∀z:Rat,z≠0->z*z>0:=fun z hz=>by
  by_cases c:z>0
  ·exact mp c c
  ·have:=mp (show -z>0 by grind) (show -z>0 by grind);grind
 have q:∀z:Rat,z*z≥0:=fun z=>by
  by_cases c:z≥0
  ·exact mn c c
  ·have:=mn (show -z≥0 by grind) (show -z≥0 by grind);grind
 rcases h with h|h
 ·have:=p x h;have:=q y;grind
 ·have:=p y h;have:=q x;grind
theorem Ka {l:L3}(h:(aG l).1≠0\/(aG l).2≠0):nv l (H5 l)>0:=by
 have:nv l (H5 l)=(l.1:Rat)*(l.1:Rat)+(l.2.1:Rat)*(l.2.1:Rat):=rfl
 rw [this]
 refine P0 ?_
 rcases h with h|h
 ·exact .inr h
 ·left;intro e;apply h;show -(l.1:Rat)=0;rw [e];grind
theorem xD {M:List L3}{l:L3}(hn:(aG l).1≠0\/(aG l).2≠0){x:V2}(hx:au l x.1 x.2=0)(h:∀m∈M,m≠l->au m x.1 x.2>0)(L:List L3)(hL:∀m∈L,au m x.1 x.2>0):∃q:V2,pos M q/\au l q.1 q.2>0/\pos L q:=by
 have h1:=Ka hn
 obtain ⟨s,s0,hs⟩:=xZ (((M.filter fun m=>decide (m≠l))++L).map fun m=>(au m x.1 x.2,nv m (H5 l))) (fun y hy=>by
  obtain ⟨m,hm,rfl⟩:=List.mem_map.1 hy
  rcases List.mem_append.1 hm with hm|hm
  ·have:=List.mem_filter.1 hm
   exact h m this.1 (by simpa using this.2)
  ·exact hL m hm)
 have hl:au l (x.1+s*(H5 l).1) (x.2+s*(H5 l).2)>0:=by rw [iJ,hx];have:=mp s0 h1;grind
 refine ⟨(x.1+s*(H5 l).1,x.2+s*(H5 l).2),fun m hm=>?_,hl,fun m hm=>?_⟩
 ·by_cases e:m=l
  ·rw [e];exact hl
  ·rw [iJ]
   exact hs (au m x.1 x.2,nv m (H5 l)) (List.mem_map.2 ⟨m,List.mem_append_left _ (List.mem_filter.2 ⟨hm,by simpa using e⟩),rfl⟩)
 ·rw [iJ]
  exact hs (au m x.1 x.2,nv m (H5 l)) (List.mem_map.2 ⟨m,List.mem_append_right _ hm,rfl⟩)
theorem nI {M:List L3}{l:L3}(hno:∀x:V2,au l x.1 x.2=0->¬pos M x){q p:V2}(hq:pos M q)(hp:pos M p):au l q.1 q.2>0->au l p.1 p.2>0:=by
 intro h
 by_cases c:au l p.1 p.2>0
 ·exact c
 exfalso
 obtain ⟨t,t0,t1,e⟩:=yL (y:=(au l q.1 q.2,au l p.1 p.2)) h (s:=1) (by decide) (by unfold mx;grind)
 refine hno (q.1+t*(p.1-q.1),q.2+t*(p.2-q.2)) ?_ fun m hm=>?_
 ·rw [yk];exact e
 ·rw [yk];exact B9 (x:=(au m q.1 q.2,au m p.1 p.2)) (hq m hm) (hp m hm) t0 t1
end Go.Proofs.Tryz.ay
namespace Go.Proofs.Tryz
open Go.bu Go.eQ
def Sp.oq (s:Sp)(t:Rat):Prop:=(s.a=true\/s.lo<t)/\(s.b=true\/t<s.hi)
def Em (ss:List Sp)(t:Rat):Prop:=∃s∈ss,s.oq t
def Sp.oT (s:Sp):Prop:=s.can/\s.emp=false
def Sp.KC (s t:Sp):Prop:=s.b=false/\t.a=false/\s.hi<t.lo
def EZ (ss:List Sp):Prop:=(∀s∈ss,s.oT)/\ss.Pairwise Sp.KC
theorem pick (E:List Rat):∀l u:Rat,l<u->∃t,l<t/\t<u/\t∉E:=by
 induction E with
 | nil=>exact fun l u h=>⟨(l+u) / 2,by grind,by grind,by simp⟩
 | cons e r ih=>
  intro l u h
  by_cases c:l<e/\e<u
  ·obtain ⟨t,h1,h2,h3⟩:=ih l e c.1
   refine ⟨t,h1,by grind,fun hm=>?_⟩
   rcases List.mem_cons.1 hm with rfl|hm
   ·grind
   ·exact h3 hm
  ·obtain ⟨t,h1,h2,h3⟩:=ih l u h
   refine ⟨t,h1,h2,fun hm=>?_⟩
   rcases List.mem_cons.1 hm with rfl|hm
   ·exact c ⟨h1,h2⟩
   ·exact h3 hm
theorem z_ {s:Sp}(h:s.emp=false)(ha:s.a=false)(hb:s.b=false):s.lo<s.hi:=by
 rcases Sp.ns.1 h with h|h|h
 ·rw [ha] at h;cases h
 ·rw [hb] at h;cases h
 ·exact h
theorem EZ.tail {s:Sp}{r:List Sp}(h:EZ (s::r)):EZ r:=⟨fun x hx=>h.1 x (by simp [hx]),(List.pairwise_cons.1 h.2).2⟩
theorem EZ.KC {s:Sp}{r:List Sp}(h:EZ (s::r)){x:Sp}(hx:x∈r):s.KC x:=(List.pairwise_cons.1 h.2).1 x hx
set_option linter.unusedSectionVars false
section
variable {s s':Sp} {r r':List Sp} {E:List Rat} (h:EZ (s :: r)) (h':EZ (s' :: r')) (e:∀t,t ∉ E->Em (s :: r) t->Em (s' :: r') t)
include h h' e
end
theorem Sp.ext' {s t:Sp}(h1:s.a=t.a)(h2:s.b=t.b)(h3:s.lo=t.lo)(h4:s.hi=t.hi):s=t:=by
 cases s;cases t;simp at *;exact ⟨h3,h4,h1,h2⟩
end Go.Proofs.Tryz
namespace Go.Proofs.Tryz
open Go.bu Go.eQ
theorem row_one {α:Type}{sz:Nat}{R:View->Value->α->Prop}{V:View}{xs:List Value}{a:α}(hx:xs.length=sz)(ha:R V (.agg xs.toArray) a):Row sz R V xs [a]:=by
 refine ⟨fun i hi=>?_⟩
 obtain rfl:i=0:=by simpa using hi
 exact ⟨xs,hx,ha,fun j x hj=>by rw [Nat.zero_mul,Nat.zero_add];exact hj⟩
theorem Cr {α:Type}{sz:Nat}{R:View->Value->α->Prop}{V:View}{vs:List Value}{ls:List α}(h:Row sz R V vs ls){k:Nat}(hk:k<=ls.length){xs sp:List Value}{a:α}(hx:xs.length=sz)(ha:R V (.agg xs.toArray) a)(hs:0<sz) :
  Row sz R V (vs.take (k*sz)++(xs++(vs.take (ls.length*sz)).drop (k*sz))++sp) (ls.take k++a::ls.drop k):=by
 have hl:=h.iN hs
 have hks:k*sz<=ls.length*sz:=Nat.mul_le_mul_right _ hk
 have t1:(vs.take (k*sz)).length=k*sz:=by rw [List.length_take];omega
 have t2:((vs.take (ls.length*sz)).drop (k*sz)).length=ls.length*sz-k*sz:=by rw [List.length_drop,List.length_take];omega
 have a1:(ls.take k).length=k:=by rw [List.length_take];omega
 refine ⟨fun i hi=>?_⟩
 rw [List.append_assoc]
 by_cases c1:i<k
 ·have hi':i<ls.length:=by omega
  obtain ⟨ys,y1,y2,y3⟩:=h.at_ i hi'
  have e:(ls.take k++a::ls.drop k)[i]=ls[i]:=by rw [List.getElem_append_left (by omega),List.getElem_take]
  refine ⟨ys,y1,by rw [e];exact y2,fun j x hj=>?_⟩
  have hj':=(List.getElem?_eq_some_iff.1 hj).1
  have hlt:i*sz+j<k*sz:=by
   have:(i+1)*sz<=k*sz:=Nat.mul_le_mul_right _ c1
   rw [Nat.succ_mul] at this
   omega
  rw [List.getElem?_append_left (by omega),List.getElem?_take,if_pos hlt]
  exact y3 j x hj
 ·by_cases c2:i=k
  ·subst c2
   have e:(ls.take i++a::ls.drop i)[i]=a:=by
    rw [List.getElem_append_right (by omega)]
    simp [a1]
   refine ⟨xs,hx,by rw [e];exact ha,fun j x hj=>?_⟩
   have hj':=(List.getElem?_eq_some_iff.1 hj).1
   rw [List.getElem?_append_right (by omega),t1,Nat.add_sub_cancel_left,List.append_assoc,List.getElem?_append_left hj']
   exact hj
  ·have hi':i-1<ls.length:=by
    rw [List.length_append,a1,List.length_cons,List.length_drop] at hi
    omega
   obtain ⟨ys,y1,y2,y3⟩:=h.at_ (i-1) hi'
   have e:(ls.take k++a::ls.drop k)[i]=ls[i-1]:=by
    rw [List.getElem_append_right (by omega)]
    obtain ⟨m,hm⟩:∃m,i=k+(m+1):=⟨i-k-1,by omega⟩
    subst hm
    simp only [a1,Nat.add_sub_cancel_left,List.getElem_cons_succ,List.getElem_drop]
    congr 1
   refine ⟨ys,y1,by rw [e];exact y2,fun j x hj=>?_⟩
   have hj':=(List.getElem?_eq_some_iff.1 hj).1
   obtain ⟨m,hm⟩:∃m,i=k+1+m:=⟨i-k-1,by omega⟩
   subst hm
   have e1:(k+1+m)*sz=k*sz+sz+m*sz:=by rw [Nat.add_mul,Nat.add_mul,Nat.one_mul]
   have e2:(k+1+m-1)*sz=k*sz+m*sz:=by rw [show k+1+m-1=k+m by omega,Nat.add_mul]
   have:=y3 j x hj
   rw [e2] at this
   have hlt:k*sz+m*sz+j<ls.length*sz:=by
    have:(k+m+1)*sz<=ls.length*sz:=Nat.mul_le_mul_right _ (by omega)
    rw [Nat.add_mul,Nat.add_mul,Nat.one_mul] at this
    omega
   rw [List.getElem?_append_right (by omega),t1,List.append_assoc,List.getElem?_append_right (by omega),hx,List.getElem?_append_left (by omega),List.getElem?_drop,List.getElem?_take,if_pos (by omega)]
   rw [show k*sz+((k+1+m)*sz+j-k*sz-sz)=k*sz+m*sz+j by omega]
   exact this
theorem El {α:Type}{sz:Nat}{R:View->Value->α->Prop}{V:View}{p:OA}{n:Nat}{ls:List α}(h:cK sz R V p n ls)(hs:0<sz):∃xs:List Value,V.sl p xs/\xs.length=ls.length*sz/\Row sz R V xs ls:=by
 have step:∀k,k<=ls.length->∃xs:List Value,V.sl p xs/\xs.length=k*sz/\Row sz R V xs (ls.take k):=by
  intro k
  induction k with
  | zero=>exact fun _=>⟨[],fun i v hv=>by simp at hv,by simp,by rw [List.take_zero];exact Row.nil⟩
  | succ k ih=>
   intro hk
   obtain ⟨xs,x1,x2,x3⟩:=ih (by omega)
   obtain ⟨ad,ha,ys,y1,y2,y3⟩:=h.at_ k (by omega)
   have hl:(ls.take k).length=k:=by rw [List.length_take];omega
   refine ⟨xs++ys,fun i v hv=>?_,by rw [List.length_append,x2,y1,Nat.succ_mul],?_⟩
   ·by_cases c:i<xs.length
    ·rw [List.getElem?_append_left c] at hv;exact x1 i v hv
    ·rw [List.getElem?_append_right (by omega)] at hv
     cases p with
     | none=>cases ha
     | some a=>
      obtain rfl:=Option.some.inj (show some (a.add (k*sz))=some ad from ha)
      have:=y3 _ v hv
      rw [ry,x2] at this
      rw [show k*sz+(i-k*sz)=i by omega] at this
      exact ⟨a,rfl,this⟩
   ·have:=x3.snoc (sp:=[]) y1 y2 hs
    rw [hl,List.append_nil,List.take_of_length_le (by omega)] at this
    rw [List.take_add_one,List.getElem?_eq_getElem (by omega)]
    exact this
 obtain ⟨xs,x1,x2,x3⟩:=step ls.length (Nat.le_refl _)
 rw [List.take_length] at x3
 exact ⟨xs,x1,x2,x3⟩
theorem hE {α:Type}{sz:Nat}{R:View->Value->α->Prop}{V:View}{vs xs sp:List Value}{ls ms:List α}(h:Row sz R V vs ls)(h':Row sz R V xs ms)(hs:0<sz):Row sz R V (vs.take (ls.length*sz)++xs++sp) (ls++ms):=by
 have hl:=h.iN hs
 have hl':=h'.iN hs
 have ht:(vs.take (ls.length*sz)).length=ls.length*sz:=by rw [List.length_take];omega
 refine ⟨fun i hi=>?_⟩
 by_cases c:i<ls.length
 ·obtain ⟨ys,y1,y2,y3⟩:=h.at_ i c
  refine ⟨ys,y1,by rw [List.getElem_append_left c];exact y2,fun j x hj=>?_⟩
  have hj':=(List.getElem?_eq_some_iff.1 hj).1
  have hlt:i*sz+j<ls.length*sz:=by
   have:(i+1)*sz<=ls.length*sz:=Nat.mul_le_mul_right _ c
   rw [Nat.succ_mul] at this
   omega
  rw [List.append_assoc,List.getElem?_append_left (by omega),List.getElem?_take,if_pos hlt]
  exact y3 j x hj
 ·rw [List.length_append] at hi
  obtain ⟨m,rfl⟩:∃m,i=ls.length+m:=⟨i-ls.length,by omega⟩
  have hm:m<ms.length:=by omega
  obtain ⟨ys,y1,y2,y3⟩:=h'.at_ m hm
  refine ⟨ys,y1,?_,fun j x hj=>?_⟩
  ·have e:(ls++ms)[ls.length+m]=ms[m]:=by rw [List.getElem_append_right (by omega)];simp
   rw [e];exact y2
  ·have hj':=(List.getElem?_eq_some_iff.1 hj).1
   have hlt:m*sz+j<xs.length:=by
    have:(m+1)*sz<=ms.length*sz:=Nat.mul_le_mul_right _ hm
    rw [Nat.succ_mul] at this
    omega
   rw [List.append_assoc,List.getElem?_append_right (by rw [ht,Nat.add_mul];omega),ht,Nat.add_mul,List.getElem?_append_left (by omega)]
   rw [show ls.length*sz+m*sz+j-ls.length*sz=m*sz+j by omega]
   exact y3 j x hj
theorem nO {α:Type}{sz:Nat}{R:View->Value->α->Prop}{V:View}{vs:List Value}{al:List α}(h:Row sz R V vs al)(hs:0<sz)(hc:∀xs a,R V (.agg (List.toArray xs)) a->∀v∈xs,v.oneCell'=true){m:Nat}(hm:m<al.length*sz){v:Value}(hv:vs[m]?=some v):v.oneCell'=true:=by
 have hi:m / sz<al.length:=Nat.div_lt_of_lt_mul (by rw [Nat.mul_comm];exact hm)
 obtain ⟨xs,hl,hx,hat⟩:=h.at_ (m / sz) hi
 have hlt:m%sz<xs.length:=by rw [hl];exact Nat.mod_lt _ hs
 have e3:m=m / sz*sz+m%sz:=by rw [Nat.mul_comm];exact (Nat.div_add_mod m sz).symm
 have:=hat (m%sz) _ (List.getElem?_eq_getElem hlt)
 rw [←e3,hv] at this
 obtain rfl:=Option.some.inj this
 exact hc xs _ hx _ (List.getElem_mem hlt)
theorem yh:Sz 2 (((2:Int):Rat)):=⟨by show (2:Int).natAbs<_;decide,by show (1:Nat)<_;decide⟩
theorem gC:Sz 2 (((1:Int):Rat)):=⟨by show (1:Int).natAbs<_;decide,by show (1:Nat)<_;decide⟩
theorem Iy {s:Sp}{k:Nat}(ss:s.sz k):Sz (2*k+10) s.dm:=by
 have z:Sz (2*k+10) (0:Rat):=⟨by show (0:Int).natAbs<_;exact Nat.lt_of_lt_of_le (by decide) (Nat.one_le_two_pow),Nat.one_lt_two_pow (by omega)⟩
 unfold Sp.dm
 split
 ·split
  ·exact z
  ·exact (ss.2.sub gC).mono (by omega)
 ·split
  ·exact (ss.1.add gC).mono (by omega)
  ·exact ((ss.1.add ss.2).mul (fZ yh)).mono (by omega)
theorem Kz.raw {V:View}{v:Value}{l:L3}{s:Sp}(h:Kz V v l s)(ho:RU l s){k:Nat}(sl:lh k l)(ss:s.sz k)(hk:k<=1000000):∃f:FW,Nj V v f/\f.ok=true/\f.ln=l/\f.sp=s/\f.short:=by
 obtain ⟨b1,p1,n1,c1,b2,p2,n2,c2,b3,p3,n3,c3,b,p,n,c,p',n',c',d,q,m,e,q',m',e',rfl,h1,h2⟩:=h
 obtain ⟨_,_,_,_,_,_,_,_,_,el,x1,x2,x3⟩:=h1
 have el:=congrArg Array.toList (Value.agg.inj el)
 simp only [List.cons.injEq,Value.bool.injEq,Value.slice.injEq,and_true] at el
 obtain ⟨rfl,⟨rfl,rfl,rfl⟩,rfl,⟨rfl,rfl,rfl⟩,rfl,rfl,rfl,rfl⟩:=el
 obtain ⟨_,_,_,_,_,_,_,_,_,_,_,_,_,_,es,y1,y2⟩:=h2
 have es:=congrArg Array.toList (Value.agg.inj es)
 simp only [List.cons.injEq,Value.bool.injEq,Value.slice.injEq,and_true] at es
 obtain ⟨rfl,⟨rfl,rfl,rfl⟩,⟨rfl,rfl,rfl⟩,rfl,⟨rfl,rfl,rfl⟩,⟨rfl,rfl,rfl⟩⟩:=es
 obtain ⟨ok,can,emp⟩:=ho
 obtain ⟨w1,us,vs,r1,o1,e1,z1⟩:=y1.raw can.1
 obtain ⟨w2,ws,ts,r2,o2,e2,z2⟩:=y2.raw can.2
 have i1:=r1
 have i2:=r2
 obtain ⟨_,_,_,_,_,_,f1,-,-⟩:=i1
 obtain ⟨_,_,_,_,_,_,f2,-,-⟩:=i2
 have f1:=congrArg Array.toList (Value.agg.inj f1)
 have f2:=congrArg Array.toList (Value.agg.inj f2)
 simp only [List.cons.injEq,Value.bool.injEq,Value.slice.injEq,and_true] at f1 f2
 obtain ⟨rfl,-⟩:=f1
 obtain ⟨rfl,-⟩:=f2
 have len:∀{z:Int},Sz k (z:Rat)->(ag z.natAbs).length<=1000000:=fun h=>Nat.le_trans (af h.1) hk
 have d1:=z1 k ss.1
 have d2:=z2 k ss.2
 refine ⟨⟨decide (l.1<0),ag l.1.natAbs,decide (l.2.1<0),ag l.2.1.natAbs,decide (l.2.2<0),ag l.2.2.natAbs,b,us,vs,d,ws,ts,s.a,s.b⟩,⟨_,_,_,_,_,_,_,_,_,_,_,_,_,_,_,_,_,_,_,_,_,rfl,⟨_,_,_,_,_,_,_,_,_,rfl,x1,x2,x3⟩,⟨_,_,_,_,_,_,_,_,_,_,_,_,rfl,r1,r2⟩⟩,?_,?_,?_,⟨len sl.1,len sl.2.1,len sl.2.2,Nat.le_trans d1.1 hk,Nat.le_trans d1.2 hk,Nat.le_trans d2.1 hk,Nat.le_trans d2.2 hk⟩⟩
 ·have e3:MP b us vs d ws ts s.a s.b=s:=by unfold MP;rw [e1,e2]
  unfold FW.ok okW
  dsimp only
  rw [Aj,o1,o2,e3,emp]
  show du l&&true=true
  rw [ok];rfl
 ·unfold FW.ln Rq
  dsimp only
  rw [aE,aE,aE]
 ·unfold FW.sp MP
  dsimp only
  rw [e1,e2]
theorem xF {c:List Rat}{i:Nat}(h:i<c.length):c.getD i 0=c[i]:=by rw [List.getD_eq_getElem?_getD,List.getElem?_eq_getElem h];rfl
def gx (cuts:List Rat)(i:Nat):Sp:=⟨if 0<i then cuts.getD (i-1) 0 else 0,if i<cuts.length then cuts.getD i 0 else 0,decide (i=0),decide (i=cuts.length)⟩
def F0 (out:List Sp)(s:Sp):List Sp:=out.dropLast++[⟨(out.getLastD Sp.zero).lo,s.hi,(out.getLastD Sp.zero).a,s.b⟩]
def fg (cuts:List Rat)(marks:List Bool):Nat->List Sp
 | 0=>[]
 | i+1=>if marks.getD i false=true then (if 0<i/\marks.getD (i-1) false=true/\0<(fg cuts marks i).length then F0 (fg cuts marks i) (gx cuts i) else fg cuts marks i++[gx cuts i]) else fg cuts marks i
end Go.Proofs.Tryz
namespace Go.Proofs.Tryz
open Go.bu Go.eQ
set_option linter.unusedSectionVars false
def qh (c:List Rat):Prop:=c.Pairwise (·< ·)
section
variable {c:List Rat} (h:qh c)
include h
theorem xd {i j:Nat}(JI:i<j)(hj:j<c.length):c.getD i 0<c.getD j 0:=by
 rw [xF (by omega),xF hj]
 exact List.pairwise_iff_getElem.1 h i j (by omega) hj JI
omit h
include h
theorem Fz {i:Nat}(hi:i<=c.length):(gx c i).oT:=by
 refine ⟨⟨fun e=>?_,fun e=>?_⟩,Sp.ns.2 ?_⟩
 ·have e:i=0:=of_decide_eq_true e
  subst e;rfl
 ·have e:i=c.length:=of_decide_eq_true e
  subst e
  exact if_neg (Nat.lt_irrefl _)
 ·by_cases h0:i=0
  ·exact .inl (decide_eq_true h0)
  ·by_cases h1:i=c.length
   ·exact .inr (.inl (decide_eq_true h1))
   ·refine .inr (.inr ?_)
    show (if 0<i then c.getD (i-1) 0 else 0)<(if i<c.length then c.getD i 0 else 0)
    rw [if_pos (by omega),if_pos (by omega)]
    exact xd h (by omega) (by omega)
omit h
end
section
variable {c:List Rat} {ms:List Bool}
structure FI (c:List Rat) (ms:List Bool) (i:Nat):Prop where
 r:EZ (fg c ms i)
 mem:∀t,t∉c->(Em (fg c ms i) t↔∃j,j<i/\ms.getD j false=true/\(gx c j).oq t)
 top:0<i->i<=c.length->∀s∈fg c ms i,s.b=false/\s.hi<=c.getD (i-1) 0
 str:0<i->i<=c.length->ms.getD (i-1) false=false->∀s∈fg c ms i,s.hi<c.getD (i-1) 0
 last:0<i->i<=c.length->ms.getD (i-1) false=true->∃l0 l,fg c ms i=l0++[l]/\l.hi=c.getD (i-1) 0
theorem oY {ss:List Sp}{s:Sp}{t:Rat}:Em (ss++[s]) t↔Em ss t\/s.oq t:=by
 unfold Em
 constructor
 ·rintro ⟨x,hx,hi⟩
  rcases List.mem_append.1 hx with hx|hx
  ·exact .inl ⟨x,hx,hi⟩
  ·obtain rfl:x=s:=by simpa using hx
   exact .inr hi
 ·rintro (⟨x,hx,hi⟩|hi)
  ·exact ⟨x,by simp [hx],hi⟩
  ·exact ⟨s,by simp,hi⟩
theorem Av {ss:List Sp}{s:Sp}(h:EZ ss)(hs:s.oT)(hb:∀x∈ss,x.KC s):EZ (ss++[s]):=by
 refine ⟨fun x hx=>?_,List.pairwise_append.2 ⟨h.2,by simp,fun x hx y hy=>?_⟩⟩
 ·rcases List.mem_append.1 hx with hx|hx
  ·exact h.1 x hx
  ·obtain rfl:x=s:=by simpa using hx
   exact hs
 ·obtain rfl:y=s:=by simpa using hy
  exact hb x hx
theorem GN {ss:List Sp}{s:Sp}(h:EZ (ss++[s])):EZ ss/\s.oT/\∀x∈ss,x.KC s:=by
 obtain ⟨h1,-,h3⟩:=List.pairwise_append.1 h.2
 exact ⟨⟨fun x hx=>h.1 x (by simp [hx]),h1⟩,h.1 s (by simp),fun x hx=>h3 x hx s (by simp)⟩
theorem xE {P:Nat->Prop}{i:Nat}:(∃j,j<i+1/\P j)↔(∃j,j<i/\P j)\/P i:=by
 constructor
 ·rintro ⟨j,hj,hp⟩
  rcases Nat.lt_or_ge j i with h|h
  ·exact .inl ⟨j,h,hp⟩
  ·obtain rfl:j=i:=by omega
   exact .inr hp
 ·rintro (⟨j,hj,hp⟩|hp)
  ·exact ⟨j,by omega,hp⟩
  ·exact ⟨i,by omega,hp⟩
theorem HD (h:qh c){i:Nat}(hi:i<=c.length)(F:FI c ms i):FI c ms (i+1):=by
 have hg:=Fz h hi
 have Nu:i<c.length->(gx c i).hi=c.getD i 0:=fun h0=>if_pos h0
 have Nv:0<i->(gx c i).lo=c.getD (i-1) 0:=fun h0=>if_pos h0
 have ga:0<i->(gx c i).a=false:=fun h0=>decide_eq_false (by omega)
 have gb:i<c.length->(gx c i).b=false:=fun h0=>decide_eq_false (by omega)
 by_cases hm:ms.getD i false=true
 ·have hne:¬ms.getD i false=false:=by rw [hm];decide
  by_cases h0:0<i/\ms.getD (i-1) false=true
  ·obtain ⟨l0,l,el,hl⟩:=F.last h0.1 hi h0.2
   have e:fg c ms (i+1)=l0++[⟨l.lo,(gx c i).hi,l.a,(gx c i).b⟩]:=by
    rw [fg,if_pos hm,if_pos ⟨h0.1,h0.2,by rw [el];simp⟩,el]
    simp [F0]
   have F1:=F.r
   rw [el] at F1
   obtain ⟨f1,f2,f3⟩:=GN F1
   have hlb:l.b=false:=(F.top h0.1 hi l (by rw [el];simp)).1
   have hgood:(⟨l.lo,(gx c i).hi,l.a,(gx c i).b⟩:Sp).oT:=by
    refine ⟨⟨f2.1.1,hg.1.2⟩,Sp.ns.2 ?_⟩
    dsimp only
    cases ha:l.a with
    | true=>exact .inl rfl
    | false=>
     cases hb:(gx c i).b with
     | true=>exact .inr (.inl rfl)
     | false=>
      have h1:=z_ f2.2 ha hlb
      have h2:=z_ hg.2 (ga h0.1) hb
      rw [Nv h0.1] at h2
      exact .inr (.inr (by grind))
   refine ⟨?_,fun t ht=>?_,fun _ hi1 s hs=>?_,fun _ hi1 hx=>?_,fun _ hi1 _=>?_⟩
   ·rw [e]
    exact Av f1 hgood fun x hx=>⟨(f3 x hx).1,(f3 x hx).2.1,(f3 x hx).2.2⟩
   ·rw [e,xE,←F.mem t ht,oY,el,oY,or_assoc]
    refine or_congr Iff.rfl ?_
    have hk:(gx c i).oq t↔c.getD (i-1) 0<t/\((gx c i).b=true\/t<(gx c i).hi):=by
     unfold Sp.oq;rw [ga h0.1,Nv h0.1];simp
    have hne':t≠c.getD (i-1) 0:=by
     rintro rfl
     rw [xF (by omega)] at ht
     exact ht (List.getElem_mem _)
    rw [hk]
    show (l.a=true\/l.lo<t)/\((gx c i).b=true\/t<(gx c i).hi)↔((l.a=true\/l.lo<t)/\(l.b=true\/t<l.hi))\/_
    rw [hl,hlb]
    have h1:l.a=true\/l.lo<c.getD (i-1) 0:=by
     cases ha:l.a with
     | true=>exact .inl rfl
     | false=>have:=z_ f2.2 ha hlb;rw [hl] at this;exact .inr this
    have h2:(gx c i).b=true\/c.getD (i-1) 0<(gx c i).hi:=by
     cases hb:(gx c i).b with
     | true=>exact .inl rfl
     | false=>have:=z_ hg.2 (ga h0.1) hb;rw [Nv h0.1] at this;exact .inr this
    constructor
    ·rintro ⟨g1,g2⟩
     by_cases g:t<c.getD (i-1) 0
     ·exact .inl ⟨g1,.inr g⟩
     ·exact .inr ⟨hm,by grind,g2⟩
    ·rintro (⟨g1,g2⟩|⟨-,g1,g2⟩)
     ·have g3:t<c.getD (i-1) 0:=by
       rcases g2 with g2|g2
       ·cases g2
       ·exact g2
      exact ⟨g1,h2.imp_right fun h2=>by grind⟩
     ·exact ⟨h1.imp_right fun h1=>by grind,g2⟩
   ·rw [e] at hs
    rw [Nat.add_sub_cancel]
    rcases List.mem_append.1 hs with hs|hs
    ·have b:=f3 s hs
     refine ⟨b.1,?_⟩
     have h1:l.lo<c.getD (i-1) 0:=by have:=z_ f2.2 b.2.1 hlb;rwa [hl] at this
     have h2:=xd h (show i-1<i by omega) hi1
     have:=b.2.2
     grind
    ·obtain rfl:s=_:=by simpa using hs
     refine ⟨gb hi1,?_⟩
     show (gx c i).hi<=_
     rw [Nu hi1];grind
   ·rw [Nat.add_sub_cancel] at hx;exact absurd hx hne
   ·rw [Nat.add_sub_cancel]
    exact ⟨l0,_,e,Nu hi1⟩
  ·have e:fg c ms (i+1)=fg c ms i++[gx c i]:=by
    rw [fg,if_pos hm,if_neg (fun g=>h0 ⟨g.1,g.2.1⟩)]
   have hb:∀x∈fg c ms i,x.KC (gx c i):=fun x hx=>by
    by_cases hz:0<i
    ·have Tz:ms.getD (i-1) false=false:=by
      cases hq:ms.getD (i-1) false with
      | false=>rfl
      | true=>exact absurd ⟨hz,hq⟩ h0
     exact ⟨(F.top hz hi x hx).1,ga hz,by rw [Nv hz];exact F.str hz hi Tz x hx⟩
    ·obtain rfl:i=0:=by omega
     cases hx
   refine ⟨?_,fun t ht=>?_,fun _ hi1 s hs=>?_,fun _ hi1 hx=>?_,fun _ hi1 _=>?_⟩
   ·rw [e];exact Av F.r hg hb
   ·rw [e,xE,←F.mem t ht,oY]
    exact or_congr Iff.rfl ⟨fun g=>⟨hm,g⟩,fun g=>g.2⟩
   ·rw [e] at hs
    rw [Nat.add_sub_cancel]
    rcases List.mem_append.1 hs with hs|hs
    ·refine ⟨(hb s hs).1,?_⟩
     by_cases hz:0<i
     ·have h1:=(F.top hz hi s hs).2
      have h2:=xd h (show i-1<i by omega) hi1
      grind
     ·obtain rfl:i=0:=by omega
      cases hs
    ·obtain rfl:s=_:=by simpa using hs
     refine ⟨gb hi1,?_⟩
     rw [Nu hi1];grind
   ·rw [Nat.add_sub_cancel] at hx;exact absurd hx hne
   ·rw [Nat.add_sub_cancel]
    exact ⟨_,_,e,Nu hi1⟩
 ·have e:fg c ms (i+1)=fg c ms i:=by rw [fg,if_neg hm]
  have hlt:i<c.length->∀s∈fg c ms i,s.b=false/\s.hi<c.getD i 0:=fun hi1 s hs=>by
   by_cases hz:0<i
   ·obtain ⟨h1,h2⟩:=F.top hz hi s hs
    have h3:=xd h (show i-1<i by omega) hi1
    exact ⟨h1,by grind⟩
   ·obtain rfl:i=0:=by omega
    cases hs
  refine ⟨by rw [e];exact F.r,fun t ht=>?_,fun _ hi1 s hs=>?_,fun _ hi1 hx s hs=>?_,fun _ hi1 hx=>?_⟩
  ·rw [e,xE,F.mem t ht]
   exact ⟨.inl,fun g=>g.elim id fun g=>absurd g.1 hm⟩
  ·rw [e] at hs
   rw [Nat.add_sub_cancel]
   obtain ⟨h1,h2⟩:=hlt hi1 s hs
   exact ⟨h1,by grind⟩
  ·rw [e] at hs
   rw [Nat.add_sub_cancel]
   exact (hlt hi1 s hs).2
  ·rw [Nat.add_sub_cancel] at hx;exact absurd hx hm
theorem fi (h:qh c):∀{i:Nat},i<=c.length+1->FI c ms i:=by
 intro i
 induction i with
 | zero=>exact fun _=>⟨⟨(fun _ h=>by cases h),List.Pairwise.nil⟩,(fun t _=>⟨(fun ⟨_,h,_⟩=>by cases h),(fun ⟨_,h,_⟩=>absurd h (Nat.not_lt_zero _))⟩),(fun h=>absurd h (Nat.lt_irrefl _)),(fun h=>absurd h (Nat.lt_irrefl _)),(fun h=>absurd h (Nat.lt_irrefl _))⟩
 | succ i ih=>exact fun hi=>HD h (by omega) (ih (by omega))
end
end Go.Proofs.Tryz
namespace Go.Proofs.Tryz
open Go.bu Go.eQ
theorem Ad {s u:Sp}{t:Rat}:(s.meet u).oq t↔s.oq t/\u.oq t:=by
 have h1:B5 s.lo u.lo<t↔s.lo<t/\u.lo<t:=by
  unfold B5
  rcases xw u.lo s.lo with ⟨h,e⟩|⟨h,e⟩|⟨h,e⟩<;>rw [e]<;>simp<;>grind
 have h2:t<B8 s.hi u.hi↔t<s.hi/\t<u.hi:=by
  unfold B8
  rcases xw u.hi s.hi with ⟨h,e⟩|⟨h,e⟩|⟨h,e⟩<;>rw [e]<;>simp<;>grind
 unfold Sp.oq Sp.meet
 cases s.a<;>cases s.b<;>cases u.a<;>cases u.b<;>simp [h1,h2]<;>grind
theorem rE {l:L3}(h:Nz l)(t:Rat):au l (ka l t) (kb l t)=0/\Gv l (ka l t) (kb l t)=t:=by
 have hn:=h.norm
 have hi:=Rat.mul_inv_cancel _ hn
 unfold au Gv ka kb
 unfold iE at *
 constructor<;>grind
theorem C6 (l:L3):kk (kk l)=kk l:=by
 unfold kk
 by_cases h:l.1<0\/l.1=0/\l.2.1<0
 ·rw [if_pos h,if_neg]
  unfold gB
  dsimp only
  omega
 ·rw [if_neg h,if_neg h]
theorem Gj {l:L3}(h:du l=true):du (kk l)=true:=by
 unfold kk
 split
 ·unfold du gB fS at *
  simp only [Int.natAbs_neg]
  rw [Bool.and_eq_true,decide_eq_true_iff,decide_eq_true_iff] at h ⊢
  exact ⟨fun e=>h.1 ⟨by omega,by omega⟩,h.2⟩
 ·exact h
theorem lY {l:L3}(h:du l=true):¬(l.1=0/\l.2.1=0):=by
 unfold du at h
 rw [Bool.and_eq_true,decide_eq_true_iff] at h
 exact h.1
theorem qT {s:Sp}:s.emp=false↔∃t,s.oq t:=by
 constructor
 ·intro h
  obtain ⟨h1,h2⟩:=Sp.Dw h
  refine ⟨s.dm,?_,?_⟩
  ·cases ha:s.a
   ·exact .inr (h1 ha)
   ·exact .inl rfl
  ·cases hb:s.b
   ·exact .inr (h2 hb)
   ·exact .inl rfl
 ·rintro ⟨t,h1,h2⟩
  rw [Sp.ns]
  rcases h1 with h1|h1
  ·exact .inl h1
  ·rcases h2 with h2|h2
   ·exact .inr (.inl h2)
   ·exact .inr (.inr (by grind))
theorem nk {l:L3}{s:Sp}{m:L3} :
  (fa l s m=true->∀t,(fc l s m).oq t↔s.oq t/\0<au m (ka l t) (kb l t))/\(s.emp=false->fa l s m=false->∀t,s.oq t->¬0<au m (ka l t) (kb l t)):=by
 have key:jN m l≠0->∀t,(fc l s m).oq t↔s.oq t/\0<ku m l+jN m l*t:=fun hd t=>by
  have hi:=Rat.mul_inv_cancel _ hd
  unfold fc
  rcases q_ (jN m l) with ⟨h,e⟩|⟨h,e⟩|⟨h,e⟩
  ·exact absurd h hd
  ·rw [e]
   show (s.meet ⟨fV m l,0,false,true⟩).oq t↔_
   rw [Ad]
   have e2:jN m l*(t-fV m l)=ku m l+jN m l*t:=by unfold fV;grind
   have:(⟨fV m l,0,false,true⟩:Sp).oq t↔fV m l<t:=by unfold Sp.oq;simp
   rw [this,←e2]
   refine and_congr_right fun _=>⟨fun h'=>Rat.mul_pos h (by grind),fun h'=>?_⟩
   by_cases c:fV m l<t
   ·exact c
   ·have:=Rat.mul_nonneg (show 0<=jN m l by grind) (show 0<=fV m l-t by grind)
    grind
  ·rw [e]
   show (s.meet ⟨0,fV m l,true,false⟩).oq t↔_
   rw [Ad]
   have e2:-jN m l*(fV m l-t)=ku m l+jN m l*t:=by unfold fV;grind
   have:(⟨0,fV m l,true,false⟩:Sp).oq t↔t<fV m l:=by unfold Sp.oq;simp
   rw [this,←e2]
   refine and_congr_right fun _=>⟨fun h'=>Rat.mul_pos (by grind) (by grind),fun h'=>?_⟩
   by_cases c:t<fV m l
   ·exact c
   ·have:=Rat.mul_nonneg (show 0<=-jN m l by grind) (show 0<=t-fV m l by grind)
    grind
 by_cases hd:jN m l=0
 ·have ec:fc l s m=s:=by unfold fc;rw [hd];rfl
  have eb:fa l s m=decide ((ku m l).num.sign>0):=by unfold fa;rw [hd];rfl
  constructor
  ·intro hb t
   rw [ec,yj,hd]
   rw [eb] at hb
   have hb:(ku m l).num.sign>0:=by simpa using hb
   have:0<ku m l:=by
    rcases q_ (ku m l) with ⟨h,e⟩|⟨h,e⟩|⟨h,e⟩
    ·omega
    ·exact h
    ·omega
   exact ⟨fun h=>⟨h,by grind⟩,fun h=>h.1⟩
  ·intro _ hb t _ hp
   rw [yj,hd] at hp
   rw [eb] at hb
   have hb:¬(ku m l).num.sign>0:=by simpa using hb
   rcases q_ (ku m l) with ⟨h,e⟩|⟨h,e⟩|⟨h,e⟩
   ·grind
   ·omega
   ·grind
 ·have eb:fa l s m=!(fc l s m).emp:=by
   unfold fa
   rcases q_ (jN m l) with ⟨h,e⟩|⟨h,e⟩|⟨h,e⟩
   ·exact absurd h hd
   ·rw [e];rfl
   ·rw [e];rfl
  constructor
  ·intro _ t
   rw [yj];exact key hd t
  ·intro _ hb t ht hp
   rw [yj] at hp
   rw [eb] at hb
   have:=qT.2 ⟨t,(key hd t).2 ⟨ht,hp⟩⟩
   rw [this] at hb;cases hb
theorem rT {l:L3}{s:Sp}{m:L3}(hs:s.oT)(hb:fa l s m=true):(fc l s m).oT:=⟨Fq hs.1,Fp hs.2 hb⟩
abbrev Sd:=L3×Sp
def bJ:List Sd->L3->Sp->Option Sp
 | [],_,v=>some v
 | s::c,l,v=>if fa l v s.1 then bJ c l (fc l v s.1) else none
theorem pe:∀{c:List Sd} {l:L3} {v w:Sp},v.oT->bJ c l v=some w->w.oT/\∀t,w.oq t↔v.oq t/\∀s∈c,0<au s.1 (ka l t) (kb l t)
 | [],_,v,w,h,e=>by cases e;exact ⟨h,fun t=>⟨fun g=>⟨g,fun s hs=>by cases hs⟩,fun g=>g.1⟩⟩
 | s::c,l,v,w,h,e=>by
  unfold bJ at e
  split at e
  ·rename_i hb
   obtain ⟨g1,g2⟩:=pe (rT h hb) e
   refine ⟨g1,fun t=>?_⟩
   rw [g2,(nk.1 hb t)]
   simp only [List.forall_mem_cons,and_assoc]
  ·cases e
theorem o_:∀{c:List Sd} {l:L3} {v:Sp},v.oT->bJ c l v=none->∀t,v.oq t->¬∀s∈c,0<au s.1 (ka l t) (kb l t)
 | [],_,v,h,e=>by cases e
 | s::c,l,v,h,e=>by
  intro t ht hall
  unfold bJ at e
  split at e
  ·rename_i hb
   exact o_ (rT h hb) e t ((nk.1 hb t).2 ⟨ht,hall s (List.mem_cons_self ..)⟩) fun u hu=>hall u (List.mem_cons_of_mem _ hu)
  ·rename_i hb
   exact nk.2 h.2 (by simpa using hb) t ht (hall s (List.mem_cons_self ..))
theorem rP (l:L3):kk l=l\/kk l=gB l:=by unfold kk;split;exact .inr rfl;exact .inl rfl
theorem rev_rev (l:L3):gB (gB l)=l:=by unfold gB;simp
theorem Db (l:L3):ay.aG (gB l)=(-(ay.aG l).1,-(ay.aG l).2):=by unfold ay.aG gB;simp only [Rat.intCast_neg]
theorem Ep {l:L3}(h:du l=true):(ay.aG l).1≠0\/(ay.aG l).2≠0:=by
 have:=lY h
 unfold ay.aG
 by_cases e:l.2.1=0
 ·right;intro e'
  have:(l.1:Rat)=0:=by grind
  exact lY h ⟨by exact_mod_cast this,e⟩
 ·left;show (l.2.1:Rat)≠0;exact_mod_cast e
theorem I9 {l m:L3}(ol:du l=true)(om:du m=true){p:ay.V2}(h1:au l p.1 p.2=0)(h2:au m p.1 p.2=0)(hc:ay.cr (ay.aG l) (ay.aG m)=0):l=m\/l=gB m:=by
 have vz:∀{x:L3},au x p.1 p.2=0->au (kk x) p.1 p.2=0:=fun {x} h=>by
  rcases rP x with e|e<;>rw [e]
  ·exact h
  ·rw [val_rev];grind
 have c0:ay.cr (ay.aG (kk l)) (ay.aG (kk m))=0:=by
  unfold ay.cr at *
  rcases rP l with e|e<;>rcases rP m with e'|e'<;>rw [e,e']<;>(try rw [Db l])<;>(try rw [Db m])<;>(try dsimp only)<;>grind
 have:=ay.EF (Gj ol) (Gj om) (C6 l) (C6 m) (vz h1) (vz h2) c0
 rcases rP l with e|e<;>rcases rP m with e'|e'<;>rw [e,e'] at this
 ·exact .inl this
 ·exact .inr this
 ·right;rw [←this,rev_rev]
 ·left;have:=congrArg gB this;rwa [rev_rev,rev_rev] at this
theorem Jz {M:List L3}(hk:∀m∈M,du m=true){q:ay.V2}(hq:ay.pos M q):ay.Qi M:=by
 intro l hl m hm hne p h1 h2 hc
 rcases I9 (hk l hl) (hk m hm) h1 h2 hc with e|e
 ·exact hne e
 ·have a:=hq l hl
  have b:=hq m hm
  rw [e,val_rev] at a
  grind
theorem xO {l:L3}(h:Nz l){x y:Rat}(hp:au l x y=0):∃t,x=ka l t/\y=kb l t:=by
 have hi:=Rat.mul_inv_cancel _ h.norm
 unfold au at hp
 refine ⟨Gv l x y,?_,?_⟩
 ·unfold ka Gv iE at *;grind
 ·unfold kb Gv iE at *;grind
def bw:Sp:=⟨0,0,true,true⟩
theorem lx:bw.oT:=⟨⟨fun _=>rfl,fun _=>rfl⟩,rfl⟩
theorem sr (t:Rat):bw.oq t:=⟨.inl rfl,.inl rfl⟩
structure fN (M:List L3) (c:List Sd):Prop where
 pos:∃q,ay.pos M q
 mem:∀s∈c,s.1∈M/\s.2.oT/\∀t,s.2.oq t↔∀m∈M,m≠s.1->0<au m (ka s.1 t) (kb s.1 t)
 all:∀l∈M,ay.Es M l->∃v,(l,v)∈c
 qh:c.Pairwise fun s u=>ay.iL (ay.aG s.1) (ay.aG u.1)<0
def kG (x:Sd):List Sd->List Sd
 | []=>[x]
 | s::r=>if ay.iL (ay.aG s.1) (ay.aG x.1)<0 then s::kG x r else x::s::r
def kl (c:List Sd)(l:L3):List Sd:=c.filterMap fun s=>if fa s.1 s.2 l then some (s.1,fc s.1 s.2 l) else none
def cV:List Sd->L3->Int
 | [],_=>-1
 | s::c,l=>if (au l (ka s.1 s.2.dm) (kb s.1 s.2.dm)).num.sign≠0 then (au l (ka s.1 s.2.dm) (kb s.1 s.2.dm)).num.sign else if s.1=l then 1 else cV c l
def fq (c:List Sd)(l:L3):Option (List Sd):=
 match bJ c l bw with
 | some v=>some (kG (l,v) (kl c l))
 | none=>if 0<cV c l then some c else none
theorem kH {x y:Sd}:∀{r:List Sd},y∈kG x r↔y=x\/y∈r
 | []=>by simp [kG]
 | s::r=>by
  unfold kG
  split
  ·rw [List.mem_cons,kH,List.mem_cons];exact or_left_comm
  ·rw [List.mem_cons]
theorem C0 {a b d:ay.V2}(h:ay.iL a b<0)(h':ay.iL b d<0):ay.iL a d<0:=by
 by_cases q:ay.iL a d<0
 ·exact q
 ·exact absurd h (ay.Jr _ _ _ q (ay.CZ _ _ h'))
theorem zU {x:Sd}:∀{r:List Sd},(r.Pairwise fun s u=>ay.iL (ay.aG s.1) (ay.aG u.1)<0)->(∀s∈r,ay.iL (ay.aG s.1) (ay.aG x.1)≠0)->(kG x r).Pairwise fun s u=>ay.iL (ay.aG s.1) (ay.aG u.1)<0
 | [],_,_=>List.pairwise_singleton ..
 | s::r,h,hn=>by
  obtain ⟨h1,h2⟩:=List.pairwise_cons.1 h
  unfold kG
  split
  ·rename_i hs
   refine List.pairwise_cons.2 ⟨fun y hy=>?_,zU h2 fun u hu=>hn u (List.mem_cons_of_mem _ hu)⟩
   rcases kH.1 hy with rfl|hy
   ·exact hs
   ·exact h1 y hy
  ·rename_i hs
   have hx:ay.iL (ay.aG x.1) (ay.aG s.1)<0:=by
    rcases ay.Jq (ay.aG s.1) (ay.aG x.1) with g|g|g
    ·exact absurd g hs
    ·exact absurd g (hn s (List.mem_cons_self ..))
    ·exact g
   refine List.pairwise_cons.2 ⟨fun y hy=>?_,h⟩
   rcases List.mem_cons.1 hy with rfl|hy
   ·exact hx
   ·exact C0 hx (h1 y hy)
theorem zC {c:List Sd}{l:L3}{y:Sd}:y∈kl c l↔∃s∈c,fa s.1 s.2 l=true/\y=(s.1,fc s.1 s.2 l):=by
 unfold kl
 rw [List.mem_filterMap]
 constructor
 ·rintro ⟨s,hs,e⟩
  split at e
  ·rename_i hb;cases e;exact ⟨s,hs,hb,rfl⟩
  ·cases e
 ·rintro ⟨s,hs,hb,rfl⟩
  exact ⟨s,hs,by rw [if_pos hb]⟩
theorem zB {c:List Sd}{l:L3}(h:c.Pairwise fun s u=>ay.iL (ay.aG s.1) (ay.aG u.1)<0):(kl c l).Pairwise fun s u=>ay.iL (ay.aG s.1) (ay.aG u.1)<0:=by
 unfold kl
 refine List.Pairwise.filterMap _ ?_ h
 intro a b uE x hx y hy
 split at hx
 ·split at hy
  ·cases hx;cases hy;exact uE
  ·cases hy
 ·cases hx
theorem Gw {l s:L3}(hl:ay.nz (ay.aG s))(h:ay.iL (ay.aG s) (ay.aG l)=0){p r:ay.V2}(p0:au l p.1 p.2=0)(p1:0<au s p.1 p.2)(r0:au s r.1 r.2=0)(r1:0<au l r.1 r.2):False:=by
 obtain ⟨c,c0,e⟩:=ay.E6 hl h
 have e1:(s.2.1:Rat)=c*(l.2.1:Rat):=congrArg Prod.fst e
 have e2:-(s.1:Rat)=c*-(l.1:Rat):=congrArg Prod.snd e
 have e2:(s.1:Rat)=c*(l.1:Rat):=by grind
 have key:∀x:ay.V2,au s x.1 x.2=c*(au l x.1 x.2-(l.2.2:Rat))+(s.2.2:Rat):=fun x=>by unfold au;rw [e1,e2];grind
 have k:=ay.mp c0 r1
 rw [key] at p1 r0
 rw [p0] at p1
 generalize au l r.1 r.2=z at *
 grind
section
variable {M:List L3} {c:List Sd} (h:fN M c) (hk:∀m ∈ M,du m=true)
include h hk
theorem fN.int {p:ay.V2}(hp:∀s∈c,0<au s.1 p.1 p.2):ay.pos M p:=by
 obtain ⟨q,hq⟩:=h.pos
 refine ay.SW (Jz hk hq) (fun m hm=>Ep (hk m hm)) hq fun m hm he=>?_
 obtain ⟨v,hv⟩:=h.all m hm he
 exact hp _ hv
theorem D5 {l:L3}(hl:du l=true){v:Sp}(e:bJ c l bw=some v):fN (l::M) (kG (l,v) (kl c l)):=by
 have hN:Nz l:=lY hl
 obtain ⟨gv,hv⟩:=pe lx e
 have sD:∀t,v.oq t↔ay.pos M (ka l t,kb l t):=fun t=>⟨fun g=>h.int hk ((hv t).1 g).2,fun g=>(hv t).2 ⟨sr t,fun s hs=>g s.1 (h.mem s hs).1⟩⟩
 obtain ⟨t0,ht0⟩:=qT.1 gv.2
 have p0:=(sD t0).1 ht0
 have z0:=(rE hN t0).1
 have lM:l∉M:=fun hm=>by have:=p0 l hm;dsimp only at this;grind
 have ne:∀m∈M,m≠l:=fun m hm e=>lM (e▸hm)
 obtain ⟨q,hq,LC,-⟩:=ay.xD (M:=M) (x:=(ka l t0,kb l t0)) (Ep hl) z0 (fun m hm _=>p0 m hm) [] (fun m hm=>by cases hm)
 have Me:∀s∈kl c l,s.1∈M/\s.2.oT/\∀t,s.2.oq t↔∀m∈l::M,m≠s.1->0<au m (ka s.1 t) (kb s.1 t):=fun s hs=>by
  obtain ⟨s0,h0,hb,rfl⟩:=zC.1 hs
  obtain ⟨m1,m2,m3⟩:=h.mem s0 h0
  refine ⟨m1,rT m2 hb,fun t=>?_⟩
  dsimp only
  rw [nk.1 hb t,m3 t,List.forall_mem_cons]
  exact ⟨fun g=>⟨fun _=>g.2,g.1⟩,fun g=>⟨g.2,g.1 (fun e=>ne _ m1 e.symm)⟩⟩
 refine ⟨⟨q,List.forall_mem_cons.2 ⟨LC,hq⟩⟩,fun s hs=>?_,fun l' hl' he=>?_,zU (zB h.qh) fun s hs e0=>?_⟩
 ·rcases kH.1 hs with rfl|hs
  ·refine ⟨List.mem_cons_self ..,gv,fun t=>?_⟩
   rw [sD t,List.forall_mem_cons]
   exact ⟨fun g=>⟨fun h=>absurd rfl h,fun m hm _=>g m hm⟩,fun g m hm=>g.2 m hm (ne m hm)⟩
  ·obtain ⟨a,b⟩:=Me s hs
   exact ⟨List.mem_cons_of_mem _ a,b⟩
 ·rcases List.mem_cons.1 hl' with rfl|hl'
  ·exact ⟨v,kH.2 (.inl rfl)⟩
  ·obtain ⟨p,pz,hp⟩:=he
   obtain ⟨w,hw⟩:=h.all l' hl' ⟨p,pz,fun m hm hne=>hp m (List.mem_cons_of_mem _ hm) hne⟩
   obtain ⟨m1,m2,m3⟩:=h.mem _ hw
   obtain ⟨t,e1,e2⟩:=xO (lY (hk l' hl')) pz
   have hb:fa l' w l=true:=by
    cases hb:fa l' w l
    ·exfalso
     refine nk.2 m2.2 hb t ((m3 t).2 fun m hm hne=>?_) ?_
     ·dsimp only;rw [←e1,←e2];exact hp m (List.mem_cons_of_mem _ hm) hne
     ·rw [←e1,←e2];exact hp l (List.mem_cons_self ..) (fun e=>lM (e▸hl'))
    ·rfl
   exact ⟨fc l' w l,kH.2 (.inr (zC.2 ⟨_,hw,hb,rfl⟩))⟩
 ·obtain ⟨m1,m2,m3⟩:=Me s hs
  obtain ⟨t,ht⟩:=qT.1 m2.2
  have hr:=(m3 t).1 ht l (List.mem_cons_self ..) (fun e=>ne _ m1 e.symm)
  exact Gw (Ep (hk _ m1)) e0 (p:=(ka l t0,kb l t0)) (r:=(ka s.1 t,kb s.1 t)) z0 (p0 _ m1) (rE (lY (hk _ m1)) t).1 hr
omit h in
theorem oO {l:L3}(hl:du l=true)(hno:∀x:ay.V2,au l x.1 x.2=0->¬ay.pos M x){q:ay.V2}(hq:ay.pos M q){s:L3}(hs:s∈M){x:ay.V2}(xz:au s x.1 x.2=0)(hx:∀m∈M,m≠s->0<au m x.1 x.2) :
  (0<au l q.1 q.2->0<au l x.1 x.2\/s=l)/\(au l q.1 q.2<0->au l x.1 x.2<0\/au l x.1 x.2=0/\s≠l):=by
 have side:∀g:L3,(∀x:ay.V2,au g x.1 x.2=0->¬ay.pos M x)->0<au g q.1 q.2->∀y:ay.V2,au s y.1 y.2=0->(∀m∈M,m≠s->0<au m y.1 y.2)->¬au g y.1 y.2<0:=fun g hno gq y yz hy hneg=>by
  obtain ⟨q',h1,-,h3⟩:=ay.xD (Ep (hk s hs)) yz hy [gB g] (fun m hm=>by rcases List.mem_singleton.1 hm with rfl;rw [val_rev];grind)
  have h3:=h3 _ (List.mem_singleton.2 rfl)
  rw [val_rev] at h3
  have:=ay.nI hno hq h1 gq
  grind
 constructor
 ·intro hp
  by_cases c1:0<au l x.1 x.2
  ·exact .inl c1
  right
  have z:au l x.1 x.2=0:=by have:=side l hno hp x xz hx;grind
  by_cases e:s=l
  ·exact e
  exfalso
  have SS:ay.cr (ay.aG l) (ay.aG s)≠0:=fun e0=>by
   rcases I9 hl (hk s hs) z xz e0 with g|g
   ·exact e g.symm
   ·rw [g,val_rev] at hp
    have:=hq s hs
    grind
  have step:∀d:ay.V2,ay.nv s d=0->ay.nv l d<0->False:=fun d d0 d1=>by
   obtain ⟨r,r0,hr⟩:=ay.xZ ((M.filter fun m=>decide (m≠s)).map fun m=>(au m x.1 x.2,ay.nv m d)) (fun y hy=>by
    obtain ⟨m,hm,rfl⟩:=List.mem_map.1 hy
    have:=List.mem_filter.1 hm
    exact hx m this.1 (by simpa using this.2))
   refine side l hno hp (x.1+r*d.1,x.2+r*d.2) ?_ (fun m hm hne=>?_) ?_
   ·rw [ay.iJ,xz,d0];grind
   ·rw [ay.iJ]
    exact hr (au m x.1 x.2,ay.nv m d) (List.mem_map.2 ⟨m,List.mem_filter.2 ⟨hm,by simpa using hne⟩,rfl⟩)
   ·rw [ay.iJ,z]
    have:=ay.mp r0 (show -ay.nv l d>0 by grind)
    grind
  have s0:ay.nv s (ay.aG s)=0:=by rw [ay.Dq];exact ay.C_ _
  have ls:ay.nv l (ay.aG s)≠0:=by rw [ay.Dq];exact SS
  by_cases c2:ay.nv l (ay.aG s)<0
  ·exact step _ s0 c2
  ·have e1:ay.nv s (-(ay.aG s).1,-(ay.aG s).2)=-ay.nv s (ay.aG s):=by unfold ay.nv;dsimp only;grind
   have e2:ay.nv l (-(ay.aG s).1,-(ay.aG s).2)=-ay.nv l (ay.aG s):=by unfold ay.nv;dsimp only;grind
   exact step (-(ay.aG s).1,-(ay.aG s).2) (by rw [e1,s0];grind) (by rw [e2];grind)
 ·intro hp
  have:=side (gB l) (fun x hx=>hno x (by rw [val_rev] at hx;grind)) (by rw [val_rev];grind) x xz hx
  rw [val_rev] at this
  by_cases c1:au l x.1 x.2<0
  ·exact .inl c1
  ·refine .inr ⟨by grind,fun e=>?_⟩
   have:=hq s hs
   rw [e] at this
   grind
theorem kP {s:Sd}(hs:s∈c):au s.1 (ka s.1 s.2.dm) (kb s.1 s.2.dm)=0/\∀m∈M,m≠s.1->0<au m (ka s.1 s.2.dm) (kb s.1 s.2.dm):=by
 obtain ⟨m1,m2,m3⟩:=h.mem s hs
 refine ⟨(rE (lY (hk _ m1)) _).1,(m3 _).1 ?_⟩
 obtain ⟨h1,h2⟩:=Sp.Dw m2.2
 constructor
 ·cases ha:s.2.a
  ·exact .inr (h1 ha)
  ·exact .inl rfl
 ·cases hb:s.2.b
  ·exact .inr (h2 hb)
  ·exact .inl rfl
theorem wH {l:L3}(hl:du l=true)(hno:∀x:ay.V2,au l x.1 x.2=0->¬ay.pos M x){q:ay.V2}(hq:ay.pos M q)(hp:0<au l q.1 q.2)(h0:c≠[]):cV c l=1:=by
 cases hc:c with
 | nil=>exact absurd hc h0
 | cons s r=>
  have hs:s∈c:=by rw [hc];exact List.mem_cons_self ..
  obtain ⟨e1,e2⟩:=kP h hk hs
  have:=(oO hk hl hno hq (h.mem s hs).1 (x:=(ka s.1 s.2.dm,kb s.1 s.2.dm)) e1 e2).1 hp
  unfold cV
  dsimp only at this
  by_cases c1:0<au l (ka s.1 s.2.dm) (kb s.1 s.2.dm)
  ·rw [ay.Km.2 c1];rfl
  ·have hsl:s.1=l:=this.resolve_left c1
   have z:au l (ka s.1 s.2.dm) (kb s.1 s.2.dm)=0:=by
    have h:=e1;rw [hsl] at h ⊢;exact h
   rw [ay.nS.2 z,if_neg (by simp),if_pos hsl]
theorem wG {l:L3}(hl:du l=true)(hno:∀x:ay.V2,au l x.1 x.2=0->¬ay.pos M x){q:ay.V2}(hq:ay.pos M q)(hp:au l q.1 q.2<0):cV c l=-1:=by
 have:∀r:List Sd,(∀s∈r,s∈c)->cV r l=-1:=by
  intro r
  induction r with
  | nil=>intro _;rfl
  | cons s r ih=>
   intro hr
   have hs:=hr s (List.mem_cons_self ..)
   obtain ⟨e1,e2⟩:=kP h hk hs
   have:=(oO hk hl hno hq (h.mem s hs).1 (x:=(ka s.1 s.2.dm,kb s.1 s.2.dm)) e1 e2).2 hp
   dsimp only at this
   unfold cV
   rcases this with g|⟨g,g'⟩
   ·rw [ay.GX.2 g];rfl
   ·rw [ay.nS.2 g,if_neg (by simp),if_neg g']
    exact ih fun u hu=>hr u (List.mem_cons_of_mem _ hu)
 exact this c fun _ h=>h
theorem C7 {l:L3}(hl:du l=true):(∀c',fq c l=some c'->fN (l::M) c')/\(fq c l=none->¬∃q,ay.pos (l::M) q):=by
 unfold fq
 cases e:bJ c l bw with
 | some v=>exact ⟨fun c' e'=>by cases e';exact D5 h hk hl e,fun e'=>by cases e'⟩
 | none=>
  dsimp only
  have hno:∀x:ay.V2,au l x.1 x.2=0->¬ay.pos M x:=fun x hx hp=>by
   obtain ⟨t,e1,e2⟩:=xO (lY hl) hx
   refine o_ lx e t (sr t) fun s hs=>?_
   rw [←e1,←e2];exact hp s.1 (h.mem s hs).1
  have h0:c≠[]:=fun e0=>by rw [e0] at e;cases e
  obtain ⟨q,hq⟩:=h.pos
  by_cases c1:0<au l q.1 q.2
  ·rw [wH h hk hl hno hq c1 h0]
   refine ⟨fun c' e'=>?_,fun e'=>by cases e'⟩
   cases e'
   refine ⟨⟨q,List.forall_mem_cons.2 ⟨c1,hq⟩⟩,fun s hs=>?_,fun l' hl' he=>?_,h.qh⟩
   ·obtain ⟨m1,m2,m3⟩:=h.mem s hs
    refine ⟨List.mem_cons_of_mem _ m1,m2,fun t=>?_⟩
    rw [m3 t,List.forall_mem_cons]
    refine ⟨fun g=>⟨fun hne=>?_,g⟩,fun g=>g.2⟩
    exact ((oO hk hl hno hq m1 (x:=(ka s.1 t,kb s.1 t)) (rE (lY (hk _ m1)) t).1 g).1 c1).resolve_right fun e=>hne e.symm
   ·obtain ⟨p,pz,hp⟩:=he
    by_cases hm:l'∈M
    ·exact h.all l' hm ⟨p,pz,fun m hm hne=>hp m (List.mem_cons_of_mem _ hm) hne⟩
    ·exfalso
     have e1:l'=l:=(List.mem_cons.1 hl').resolve_right hm
     refine hno p (e1▸pz) fun m hm'=>hp m (List.mem_cons_of_mem _ hm') fun e2=>hm (e2▸hm')
  ·have c2:au l q.1 q.2<0:=by
    by_cases z:au l q.1 q.2=0
    ·exact absurd hq (hno q z)
    ·grind
   rw [wG h hk hl hno hq c2]
   refine ⟨fun c' e'=>(by cases e'),fun _=>?_⟩
   rintro ⟨q',hq'⟩
   obtain ⟨a,b⟩:=List.forall_mem_cons.1 hq'
   have:=ay.nI hno (fun m hm=>b m hm) hq a
   grind
end
theorem fN.nil:fN [] []:=⟨⟨(0,0),fun m hm=>by cases hm⟩,(fun s hs=>by cases hs),(fun l hl=>by cases hl),List.Pairwise.nil⟩
def br:List L3->List L3->List Sd->Option (List Sd)
 | [],_,c=>some c
 | l::r,M,c=>match fq c l with
  | some c'=>br r (l::M) c'
  | none=>none
theorem nj:∀{ls M:List L3} {c:List Sd},fN M c->(∀m∈M,du m=true)->(∀m∈ls,du m=true)->(∀c',br ls M c=some c'->fN (ls.reverse++M) c')/\(br ls M c=none->¬∃q,ay.pos (ls.reverse++M) q)
 | [],M,c,h,hk,hl=>⟨fun c' e=>by cases e;exact h,fun e=>by cases e⟩
 | l::r,M,c,h,hk,hl=>by
  obtain ⟨h1,h2⟩:=C7 h hk (hl l (List.mem_cons_self ..))
  rw [List.reverse_cons,List.append_assoc]
  unfold br
  cases e:fq c l with
  | some c'=>exact nj (h1 c' e) (List.forall_mem_cons.2 ⟨hl l (List.mem_cons_self ..),hk⟩) fun m hm=>hl m (List.mem_cons_of_mem _ hm)
  | none=>
   refine ⟨fun c' e'=>(by cases e'),fun _=>?_⟩
   rintro ⟨q,hq⟩
   exact h2 e ⟨q,fun m hm=>hq m (List.mem_append_right _ hm)⟩
end Go.Proofs.Tryz
namespace Go.Proofs.Tryz
open Go.bu Go.eQ
theorem Es.of {M N:List L3}(h:∀x,x∈M->x∈N){l:L3}(e:ay.Es N l):ay.Es M l:=by
 obtain ⟨p,p0,p1⟩:=e
 exact ⟨p,p0,fun m hm=>p1 m (h m hm)⟩
theorem Gk {l:L3}(h:du l=true):du (gB l)=true:=by
 unfold du gB fS at *
 simp only [Int.natAbs_neg]
 rw [Bool.and_eq_true,decide_eq_true_iff,decide_eq_true_iff] at h ⊢
 exact ⟨fun e=>h.1 ⟨by omega,by omega⟩,h.2⟩
section
variable {M:List L3} {c:List Sd} (h:fN M c) (hk:∀m ∈ M,du m=true)
include h hk
theorem nJ {l:L3}(hl:du l=true):(bJ c l bw).isSome=true↔∃x:ay.V2,au l x.1 x.2=0/\ay.pos M x:=by
 constructor
 ·intro e
  obtain ⟨v,hv⟩:=Option.isSome_iff_exists.1 e
  obtain ⟨g1,g2⟩:=pe lx hv
  obtain ⟨t,ht⟩:=qT.1 g1.2
  exact ⟨(ka l t,kb l t),(rE (lY hl) t).1,h.int hk ((g2 t).1 ht).2⟩
 ·rintro ⟨x,x0,x1⟩
  obtain ⟨t,e1,e2⟩:=xO (lY hl) x0
  cases e:bJ c l bw with
  | some v=>rfl
  | none=>exact absurd (fun s hs=>by rw [←e1,←e2];exact x1 _ (h.mem s hs).1) (o_ lx e t (sr t))
theorem Gy {l:L3}(hl:du l=true):((bJ c l bw).isSome=true↔(∃q,ay.pos M q/\0<au l q.1 q.2)/\∃q,ay.pos M q/\au l q.1 q.2<0) /\
  ((bJ c l bw).isSome=false->(cV c l=1/\∃q,ay.pos M q/\0<au l q.1 q.2)\/cV c l=-1/\¬∃q,ay.pos M q/\0<au l q.1 q.2):=by
 constructor
 ·rw [nJ h hk hl]
  constructor
  ·rintro ⟨x,x0,x1⟩
   obtain ⟨q,hq,LC,-⟩:=ay.xD (M:=M) (Ep hl) x0 (fun m hm _=>x1 m hm) [] (fun m hm=>by cases hm)
   obtain ⟨r,hr,hrl,-⟩:=ay.xD (M:=M) (l:=gB l) (x:=x) (Ep (Gk hl)) (by rw [val_rev,x0];rfl) (fun m hm _=>x1 m hm) [] (fun m hm=>by cases hm)
   rw [val_rev] at hrl
   exact ⟨⟨q,hq,LC⟩,r,hr,by grind⟩
  ·rintro ⟨⟨q,hq,LC⟩,r,hr,hrl⟩
   by_cases c0:∃x:ay.V2,au l x.1 x.2=0/\ay.pos M x
   ·exact c0
   ·have:=ay.nI (fun x x0 x1=>c0 ⟨x,x0,x1⟩) hq hr LC
    grind
 ·intro e
  have hno:∀x:ay.V2,au l x.1 x.2=0->¬ay.pos M x:=fun x x0 x1=>by
   rw [(nJ h hk hl).2 ⟨x,x0,x1⟩] at e;cases e
  obtain ⟨q,hq⟩:=h.pos
  have hne:c≠[]:=fun e0=>by subst e0;unfold bJ at e;cases e
  by_cases hp:0<au l q.1 q.2
  ·exact .inl ⟨wH h hk hl hno hq hp hne,q,hq,hp⟩
  ·have hz:au l q.1 q.2≠0:=fun z=>hno q z hq
   refine .inr ⟨wG h hk hl hno hq (by grind),?_⟩
   rintro ⟨r,hr,hrl⟩
   exact hp (ay.nI hno hr hq hrl)
theorem EH (q:ay.V2):ay.pos (c.map Prod.fst) q↔ay.pos M q:=by
 constructor
 ·intro g
  exact h.int hk fun s hs=>g _ (List.mem_map.2 ⟨s,hs,rfl⟩)
 ·intro g m hm
  obtain ⟨s,hs,rfl⟩:=List.mem_map.1 hm
  exact g _ (h.mem s hs).1
omit hk in
theorem Cs:(c.map Prod.fst).Nodup:=by
 refine List.nodup_iff_pairwise_ne.2 (List.pairwise_map.2 (h.qh.imp fun {a b} g e=>?_))
 rw [e] at g
 exact ay.CZ _ _ g g
end
end Go.Proofs.Tryz
namespace Go.Proofs.Tryz
open Go.bu Go.eQ
section
variable {M:List L3} {c:List Sd} (h:fN M c) (hk:∀m ∈ M,du m=true)
include h hk
end
end Go.Proofs.Tryz
namespace Go.Proofs.Tryz
open Go.bu Go.eQ
namespace ay
end ay
section
variable {M:List L3} {c:List Sd} (h:fN M c) (hk:∀m ∈ M,du m=true)
include h hk
end
end Go.Proofs.Tryz
namespace Go.Proofs.Tryz
open Go.bu Go.eQ
namespace ay
end ay
section
variable {M:List L3} {c:List Sd} (h:fN M c) (hk:∀m ∈ M,du m=true)
include h hk
end
end Go.Proofs.Tryz
namespace Go.Proofs.Tryz
open Go.bu Go.eQ
def tw (l:List ay.V2):Rat:=((List.range l.length).map fun i=>ay.cr (l.getD i (0,0)) (l.getD ((i+1)%l.length) (0,0))).sum
def lP (S:List L3):List ay.V2:=(List.range S.length).filterMap fun i=>if 0<ay.cr (ay.aG (S.getD i (0,0,0))) (ay.aG (S.getD ((i+1)%S.length) (0,0,0))) then some (J5 (S.getD i (0,0,0)) (S.getD ((i+1)%S.length) (0,0,0)),J6 (S.getD i (0,0,0)) (S.getD ((i+1)%S.length) (0,0,0))) else none
section
variable {M:List L3} {c:List Sd} (h:fN M c) (hk:∀m ∈ M,du m=true) (hb:∀s ∈ c,s.2.a=false/\s.2.b=false)
include h hk hb
end
end Go.Proofs.Tryz
namespace Go.Proofs.Tryz
open Go.bu Go.eQ
section
variable {M:List L3} {c:List Sd} (h:fN M c) (hk:∀m ∈ M,du m=true) (hb:∀s ∈ c,s.2.a=false/\s.2.b=false)
include h hk hb
end
end Go.Proofs.Tryz
namespace Go.Proofs.Tryz
open Go.bu Go.eQ
section
variable {M:List L3} {c:List Sd} (h:fN M c) (hk:∀m ∈ M,du m=true) (hb:∀s ∈ c,s.2.a=false/\s.2.b=false)
include h hk hb
end
end Go.Proofs.Tryz
namespace Go.Proofs.Tryz
open Go.bu Go.eQ
section
variable {M:List L3} {c:List Sd} (h:fN M c) (hk:∀m ∈ M,du m=true)
include h hk
theorem AG:∀m∈c.map Prod.fst,du m=true:=fun m hm=>by
 obtain ⟨s,hs,rfl⟩:=List.mem_map.1 hm
 exact hk _ (h.mem s hs).1
theorem GZ {l:L3}(hl:l∈c.map Prod.fst):ay.Es (c.map Prod.fst) l:=by
 obtain ⟨s,hs,rfl⟩:=List.mem_map.1 hl
 obtain ⟨e1,e2⟩:=kP h hk hs
 exact ⟨(ka s.1 s.2.dm,kb s.1 s.2.dm),e1,fun m hm hne=>by
  obtain ⟨u,hu,rfl⟩:=List.mem_map.1 hm
  exact e2 _ (h.mem u hu).1 hne⟩
theorem Ce {l:L3}(hl:l∈M):(bJ c l bw).isSome=false/\cV c l=1:=by
 have hp:(bJ c l bw).isSome=false:=by
  cases e:(bJ c l bw).isSome
  ·rfl
  ·obtain ⟨x,x0,x1⟩:=(nJ h hk (hk l hl)).1 e
   have:=x1 l hl
   rw [x0] at this;exact absurd this (by decide)
 refine ⟨hp,?_⟩
 obtain ⟨q,hq⟩:=h.pos
 rcases (Gy h hk (hk l hl)).2 hp with g|g
 ·exact g.1
 ·exact absurd ⟨q,hq,hq l hl⟩ g.2
end
theorem uJ {N:List L3}{c:List Sd}(h:fN N c)(hk:∀m∈N,du m=true){l:L3}(hl:du l=true){x:ay.V2}(x0:au l x.1 x.2=0)(x1:∀m∈N,0<au m x.1 x.2):(bJ c l bw).isSome=true:=(nJ h hk hl).2 ⟨x,x0,x1⟩
end Go.Proofs.Tryz
namespace Go.Proofs.Tryz
open Go.bu Go.eQ
theorem lh.up {k K:Nat}{l:L3}(h:lh k l)(hk:k<=K):lh K l:=⟨h.1.mono hk,h.2.1.mono hk,h.2.2.mono hk⟩
theorem DE {L M:L3}{s:Sp}{k K:Nat}(sl:lh k L)(sm:lh k M)(hs:s.sz K)(hk:60*k+60<=K):(fc L s M).sz K:=by
 have z:=Ku K (by omega)
 have c:=(yf sl sm).mono hk
 unfold fc
 split
 ·exact hs
 ·split
  ·exact Sp.xM hs ⟨c,z⟩
  ·exact Sp.xM hs ⟨z,c⟩
theorem HF {k:Nat}(hk:0<k):bw.sz k:=⟨Ku k hk,Ku k hk⟩
def NZ (s:Sd):Prop:=Bd s.1/\s.2.sz 100000
theorem Df {x:Sd}:∀{r:List Sd} {i:Nat},i<=r.length->(∀k (h:k<r.length),k<i->ay.iL (ay.aG r[k].1) (ay.aG x.1)<0)->(∀h:i<r.length,¬ay.iL (ay.aG r[i].1) (ay.aG x.1)<0)->kG x r=r.take i++x::r.drop i
 | [],i,hi,_,_=>by simp [kG]
 | s::r,0,_,_,h=>by
  have:¬ay.iL (ay.aG s.1) (ay.aG x.1)<0:=h (Nat.zero_lt_succ _)
  unfold kG
  rw [if_neg this]
  rfl
 | s::r,i+1,hi,h1,h2=>by
  have:ay.iL (ay.aG s.1) (ay.aG x.1)<0:=h1 0 (Nat.zero_lt_succ _) (Nat.zero_lt_succ _)
  unfold kG
  rw [if_pos this,Df (r:=r) (i:=i) (by simpa using hi) (fun k hk hki=>h1 (k+1) (by simpa using hk) (by omega)) fun h=>h2 (by simpa using h)]
  rfl
structure Bs (r:List Sd) (l:L3) (i j:Nat):Prop where
 le:i<=j
 len:j<=r.length
 lo:∀k (h:k<r.length),k<i->ay.iL (ay.aG r[k].1) (ay.aG l)<0
 hi:∀h:j<r.length,¬ay.iL (ay.aG r[j].1) (ay.aG l)<0
theorem Bs.start (r:List Sd)(l:L3):Bs r l 0 r.length:=⟨Nat.zero_le _,Nat.le_refl _,fun k h hk=>absurd hk (Nat.not_lt_zero _),fun h=>absurd h (Nat.lt_irrefl _)⟩
theorem Bs.up {r:List Sd}{l:L3}{i j h:Nat}(b:Bs r l i j)(qh:r.Pairwise fun s u=>ay.iL (ay.aG s.1) (ay.aG u.1)<0)(h2:h<j)(hl:h<r.length)(hc:ay.iL (ay.aG r[h].1) (ay.aG l)<0):Bs r l (h+1) j:=
 ⟨h2,b.len,fun k hk hkh=>by
  by_cases e:k=h
  ·subst e;exact hc
  ·exact C0 (List.pairwise_iff_getElem.1 qh k h hk hl (by omega)) hc,b.hi⟩
theorem Bs.down {r:List Sd}{l:L3}{i j h:Nat}(b:Bs r l i j)(h1:i<=h)(hl:h<r.length)(hc:¬ay.iL (ay.aG r[h].1) (ay.aG l)<0):Bs r l i h:=
 ⟨h1,by omega,b.lo,fun _=>hc⟩
theorem Bs.done {r:List Sd}{l:L3}{i:Nat}(b:Bs r l i i)(v:Sp):kG (l,v) r=r.take i++(l,v)::r.drop i:=Df b.len b.lo b.hi
theorem RR.half (V:View):RR V (.agg #[.int .i64 1,.int .i64 1,.pointer none]) (((2:Int):Rat)⁻¹):=by
 have e1:(((2:Int):Rat)⁻¹).num=1:=by decide +kernel
 have e2:(((2:Int):Rat)⁻¹).den=2:=by decide +kernel
 refine .inl ⟨by rw [e1,e2];rfl,?_⟩
 unfold Wd
 rw [e1,e2];decide
theorem zh {V:View}{v:Value}{x:Rat}(hx:RR V v x){k:Nat}(hk:Sz k x)(hkm:k+2<1099511627776) :
  ab prog 151 #[v] V fun r V'=>RR V' r (x*((2:Int):Rat)⁻¹):=by
 have hx0:=hx
 obtain ⟨a,b,c,rfl⟩:=hx.shape
 refine tI a b c V _ fun V1 l1=>(eh (hx0.le l1) (RR.half V1) hk (fZ yh) hkm).mono ?_
 rintro r V2 l2 g
 have g0:=g
 obtain ⟨u,v,w,rfl⟩:=g.shape
 exact ⟨_,_,_,rfl,fun V3 l3=>g0.le l3⟩
theorem zf {V:View}{v:Value}{s:Sp}(h:CX V v s){k:Nat}(hs:s.sz k)(hk:4*k+8<1099511627776) :
  ab prog 133 #[v] V fun r V'=>RR V' r s.dm:=by
 obtain ⟨x1,x2,p,y1,y2,q,rfl,h1,h2⟩:=h
 have a1:s.a=true->s.b=true->s.dm=0:=fun x y=>by simp [Sp.dm,x,y]
 have a2:s.a=true->s.b=false->s.dm=s.hi-((1:Int):Rat):=fun x y=>by simp [Sp.dm,x,y]
 have a3:s.a=false->s.b=true->s.dm=s.lo+((1:Int):Rat):=fun x y=>by simp [Sp.dm,x,y]
 have a4:s.a=false->s.b=false->s.dm=(s.lo+s.hi)*((2:Int):Rat)⁻¹:=fun x y=>by simp [Sp.dm,x,y]
 have no:∀{P:Prop},s.a=true->s.a=false->P:=fun x y=>by rw [x] at y;cases y
 have Vc:∀{P:Prop},s.b=true->s.b=false->P:=fun x y=>by rw [x] at y;cases y
 refine pt x1 x2 p y1 y2 q s.a s.b V _ ⟨fun ha=>⟨fun hb V1 l1=>?_,fun hb=>⟨fun _ V2 l2=>(gO 1 (by decide) (by decide)).mono ?_,fun e=>no ha e⟩⟩,fun ha=>⟨fun e=>no e ha,fun _=>⟨fun hb vE kq=>(gO 1 (by decide) (by decide)).mono ?_,fun hb KS nD=>(il (h1.le nD) (h2.le nD) hs.1 hs.2 (by omega)).mono ?_⟩⟩⟩
 ·rw [a1 ha hb];exact RR.zero _
 ·rintro r V3 l3 g
  have g0:=g
  obtain ⟨u,v,w,rfl⟩:=g.shape
  refine ⟨_,_,_,rfl,fun V4 l4=>(nh (h2.le (l2.trans (l3.trans l4))) (g0.le l4) hs.2 gC (by omega)).mono ?_⟩
  rintro r V5 l5 f
  have f0:=f
  obtain ⟨u,v,w,rfl⟩:=f.shape
  exact ⟨_,_,_,rfl,fun V6 l6=>by rw [a2 ha hb];exact f0.le l6⟩
 ·rintro r V3 l3 g
  have g0:=g
  obtain ⟨u,v,w,rfl⟩:=g.shape
  refine ⟨_,_,_,rfl,fun V4 l4=>(il (h1.le (kq.trans (l3.trans l4))) (g0.le l4) hs.1 gC (by omega)).mono ?_⟩
  rintro r V5 l5 f
  have f0:=f
  obtain ⟨u,v,w,rfl⟩:=f.shape
  exact ⟨_,_,_,rfl,fun V6 l6=>by rw [a3 ha hb];exact f0.le l6⟩
 ·rintro r V3 l3 g
  have g0:=g
  obtain ⟨u,v,w,rfl⟩:=g.shape
  refine ⟨_,_,_,rfl,fun V4 l4=>(zh (g0.le l4) (hs.1.add hs.2) (by omega)).mono ?_⟩
  rintro r V5 l5 f
  have f0:=f
  obtain ⟨u,v,w,rfl⟩:=f.shape
  exact ⟨_,_,_,rfl,fun V6 l6=>by rw [a4 ha hb];exact f0.le l6⟩
theorem Lg {V:View}:ab prog 179 #[] V fun r V'=>r=.agg #[.int .i64 0,.int .i64 0,.pointer none,.int .i64 0,.int .i64 0,.pointer none,.bool true,.bool true]:=
 CA V _ fun V1 l1=>rfl
def fE (V:View)(v:Value)(s:Sd):Prop:=Jj V v s.1 s.2/\NZ s
theorem fE.le {V V':View}{v:Value}{s:Sd}(h:fE V v s)(l:V.Le V'):fE V' v s:=⟨h.1.le l,h.2⟩
theorem fE.shape {V:View}{v:Value}{s:Sd}(h:fE V v s):∃(x1:Int)(x2:Int)(p:OA)(y1:Int)(y2:Int)(q:OA)(z1:Int)(z2:Int)(r:OA)(u1:Int)(u2:Int)(t:OA)(w1:Int)(w2:Int)(o:OA),v=.agg #[.int .i64 x1,.int .i64 x2,.pointer p,.int .i64 y1,.int .i64 y2,.pointer q,.int .i64 z1,.int .i64 z2,.pointer r,.int .i64 u1,.int .i64 u2,.pointer t,.int .i64 w1,.int .i64 w2,.pointer o,.bool s.2.a,.bool s.2.b]:=by
 obtain ⟨x1,x2,p,y1,y2,q,z1,z2,r,u1,u2,t,w1,w2,o,e,-⟩:=h.1
 exact ⟨x1,x2,p,y1,y2,q,z1,z2,r,u1,u2,t,w1,w2,o,e⟩
theorem Gl {x1:Int}{x2:Int}{p:OA}{y1:Int}{y2:Int}{q:OA}{z1:Int}{z2:Int}{r:OA}{u1:Int}{u2:Int}{t:OA}{w1:Int}{w2:Int}{o:OA}{c d:Bool}:∀v∈([.int .i64 x1,.int .i64 x2,.pointer p,.int .i64 y1,.int .i64 y2,.pointer q,.int .i64 z1,.int .i64 z2,.pointer r,.int .i64 u1,.int .i64 u2,.pointer t,.int .i64 w1,.int .i64 w2,.pointer o,.bool c,.bool d]:List Value),v.oneCell'=true:=by
 intro v hm
 simp only [List.mem_cons,List.not_mem_nil,or_false] at hm
 rcases hm with rfl|rfl|rfl|rfl|rfl|rfl|rfl|rfl|rfl|rfl|rfl|rfl|rfl|rfl|rfl|rfl|rfl<;>rfl
theorem Iq {V:View}{s:Sd}:∀xs,fE V (.agg (List.toArray xs)) s->∀v∈xs,v.oneCell'=true:=by
 intro xs h
 obtain ⟨x1,x2,p,y1,y2,q,z1,z2,r,u1,u2,t,w1,w2,o,e⟩:=h.shape
 have e:=congrArg Array.toList (Value.agg.inj e)
 dsimp only at e
 subst e
 exact Gl
theorem jS {V:View}{c:OA}{n:Nat}{al:List Sd}(h:cK 17 fE V c n al){i:Nat}(hi:i<al.length) :
  c.isSome=true/\∃(x1:Int)(x2:Int)(p:OA)(y1:Int)(y2:Int)(q:OA)(z1:Int)(z2:Int)(r:OA)(u1:Int)(u2:Int)(t:OA)(w1:Int)(w2:Int)(o:OA)(a:Addr),ah c (i*17)=some a/\V.at (a.add 0) (.int .i64 x1)/\V.at (a.add 1) (.int .i64 x2)/\V.at (a.add 2) (.pointer p)/\V.at (a.add 3) (.int .i64 y1)/\V.at (a.add 4) (.int .i64 y2)/\V.at (a.add 5) (.pointer q)/\V.at (a.add 6) (.int .i64 z1)/\V.at (a.add 7) (.int .i64 z2)/\V.at (a.add 8) (.pointer r)/\V.at (a.add 9) (.int .i64 u1)/\V.at (a.add 10) (.int .i64 u2)/\V.at (a.add 11) (.pointer t)/\V.at (a.add 12) (.int .i64 w1)/\V.at (a.add 13) (.int .i64 w2)/\V.at (a.add 14) (.pointer o)/\V.at (a.add 15) (.bool al[i].2.a)/\V.at (a.add 16) (.bool al[i].2.b) /\
   fE V (.agg #[.int .i64 x1,.int .i64 x2,.pointer p,.int .i64 y1,.int .i64 y2,.pointer q,.int .i64 z1,.int .i64 z2,.pointer r,.int .i64 u1,.int .i64 u2,.pointer t,.int .i64 w1,.int .i64 w2,.pointer o,.bool al[i].2.a,.bool al[i].2.b]) al[i]:=by
 obtain ⟨ad,h0,xs,h1,h2,h3⟩:=h.at_ i hi
 have h20:=h2
 obtain ⟨x1,x2,p,y1,y2,q,z1,z2,r,u1,u2,t,w1,w2,o,e⟩:=h2.shape
 have e:=congrArg Array.toList (Value.agg.inj e)
 dsimp only at e
 subst e
 refine ⟨?_,x1,x2,p,y1,y2,q,z1,z2,r,u1,u2,t,w1,w2,o,ad,h0,h3 0 _ rfl,h3 1 _ rfl,h3 2 _ rfl,h3 3 _ rfl,h3 4 _ rfl,h3 5 _ rfl,h3 6 _ rfl,h3 7 _ rfl,h3 8 _ rfl,h3 9 _ rfl,h3 10 _ rfl,h3 11 _ rfl,h3 12 _ rfl,h3 13 _ rfl,h3 14 _ rfl,h3 15 _ rfl,h3 16 _ rfl,h20⟩
 cases c with
 | none=>cases h0
 | some a=>rfl
theorem Du {V:View}{vs:List Value}{al:List Sd}(h:Row 17 fE V vs al){i:Nat}(hi:i<al.length):∃(x1:Int)(x2:Int)(p:OA)(y1:Int)(y2:Int)(q:OA)(z1:Int)(z2:Int)(r:OA)(u1:Int)(u2:Int)(t:OA)(w1:Int)(w2:Int)(o:OA),i*17+17<=vs.length/\(vs.drop (i*17)).take 17=[.int .i64 x1,.int .i64 x2,.pointer p,.int .i64 y1,.int .i64 y2,.pointer q,.int .i64 z1,.int .i64 z2,.pointer r,.int .i64 u1,.int .i64 u2,.pointer t,.int .i64 w1,.int .i64 w2,.pointer o,.bool al[i].2.a,.bool al[i].2.b] /\
  fE V (.agg #[.int .i64 x1,.int .i64 x2,.pointer p,.int .i64 y1,.int .i64 y2,.pointer q,.int .i64 z1,.int .i64 z2,.pointer r,.int .i64 u1,.int .i64 u2,.pointer t,.int .i64 w1,.int .i64 w2,.pointer o,.bool al[i].2.a,.bool al[i].2.b]) al[i]:=by
 obtain ⟨xs,h1,h2,h3⟩:=h.at_ i hi
 have hl:=h.iN (by decide)
 have h20:=h2
 obtain ⟨x1,x2,p,y1,y2,q,z1,z2,r,u1,u2,t,w1,w2,o,e⟩:=h2.shape
 have e:=congrArg Array.toList (Value.agg.inj e)
 dsimp only at e
 subst e
 refine ⟨x1,x2,p,y1,y2,q,z1,z2,r,u1,u2,t,w1,w2,o,by omega,?_,h20⟩
 apply List.ext_getElem?
 intro j
 rw [List.getElem?_take]
 split
 ·rename_i hj
  rw [List.getElem?_drop]
  exact h3 j _ (List.getElem?_eq_getElem (by show j<17;omega))▸(List.getElem?_eq_getElem (by show j<17;omega)).symm
 ·rename_i hj
  rw [List.getElem?_eq_none (by show 17<=j;omega)]
theorem fE.both {V:View}{s:Sd}{x1:Int}{x2:Int}{p:OA}{y1:Int}{y2:Int}{q:OA}{z1:Int}{z2:Int}{r:OA}{u1:Int}{u2:Int}{t:OA}{w1:Int}{w2:Int}{o:OA}{c d:Bool}(h:fE V (.agg #[.int .i64 x1,.int .i64 x2,.pointer p,.int .i64 y1,.int .i64 y2,.pointer q,.int .i64 z1,.int .i64 z2,.pointer r,.int .i64 u1,.int .i64 u2,.pointer t,.int .i64 w1,.int .i64 w2,.pointer o,.bool c,.bool d]) s) :
  rf V (.agg #[.int .i64 x1,.int .i64 x2,.pointer p,.int .i64 y1,.int .i64 y2,.pointer q,.int .i64 z1,.int .i64 z2,.pointer r]) s.1/\CX V (.agg #[.int .i64 u1,.int .i64 u2,.pointer t,.int .i64 w1,.int .i64 w2,.pointer o,.bool s.2.a,.bool s.2.b]) s.2/\c=s.2.a/\d=s.2.b:=by
 obtain ⟨VY,VZ,p',y1',y2',q',z1',z2',r',Vo,Vp,t',w1',w2',o',e,h1,h2⟩:=h.1
 have e:=congrArg Array.toList (Value.agg.inj e)
 simp only [List.cons.injEq,Value.bool.injEq,Value.int.injEq,Value.pointer.injEq,true_and,and_true] at e
 obtain ⟨rfl,rfl,rfl,rfl,rfl,rfl,rfl,rfl,rfl,rfl,rfl,rfl,rfl,rfl,rfl,rfl,rfl⟩:=e
 exact ⟨h1,h2,rfl,rfl⟩
theorem jV:∀{c d:List Sd} {l:L3} {v:Sp},bJ (c++d) l v=(bJ c l v).bind (bJ d l)
 | [],_,_,_=>rfl
 | s::c,d,l,v=>by
  rw [List.cons_append]
  unfold bJ
  split
  ·exact jV
  ·rfl
theorem pG {V:View}{cp:OA}{cn cc:Nat}{c:List Sd}{lv:Value}{l:L3}(h:cK 17 fE V cp cn c)(hl:rf V lv l)(hb:Bd l)(hn:c.length<=1000000) :
  ab prog 130 #[.slice cp cn cc,lv] V fun r V'=>∃w,r=.tuple #[w,.bool (bJ c l bw).isSome]/\CX V' w ((bJ c l bw).getD Sp.zero)/\((bJ c l bw).getD Sp.zero).sz 100000:=by
 have hl0:=hl
 obtain rfl:=h.len
 obtain ⟨_,_,_,_,_,_,_,_,_,rfl,-,-,-⟩:=hl
 have Ic:∀{i:Nat} (hi:i<c.length) {s:Sp},bJ (c.take i) l bw=some s->bJ (c.take (i+1)) l bw=if fa l s c[i].1=true then some (fc l s c[i].1) else none:=fun {i} hi {s} e=>by
  rw [List.take_add_one,List.getElem?_eq_getElem hi,jV,e]
  show bJ [c[i]] l s=_
  unfold bJ
  rfl
 refine pr cp _ cc _ _ _ _ _ _ _ _ _ V _ fun V1 l1=>Lg.mono ?_
 rintro r V2 l2 rfl
 have L2:=l1.trans l2
 refine ⟨_,_,_,_,_,_,_,_,rfl,fun z V'=>∃(i:Nat)(s:Sp),z.1=(i:Int)/\i<=c.length/\bJ (c.take i) l bw=some s/\s.sz 100000/\z.2.2.2.2.2.2.2.1=s.a/\z.2.2.2.2.2.2.2.2=s.b/\CX V' (.agg #[.int .i64 z.2.1,.int .i64 z.2.2.1,.pointer z.2.2.2.1,.int .i64 z.2.2.2.2.1,.int .i64 z.2.2.2.2.2.1,.pointer z.2.2.2.2.2.2.1,.bool s.a,.bool s.b]) s,
  fun z=>c.length-z.1.toNat,⟨(0,0,0,none,0,0,none,true,true),by and_intros<;>rfl,0,bw,rfl,Nat.zero_le _,rfl,HF (by omega),rfl,rfl,⟨_,_,_,_,_,_,rfl,RR.zero _,RR.zero _⟩⟩,?_⟩
 rintro ⟨z1,x1,x2,p,y1,y2,q,ba,bb⟩ V3 l3 ⟨i,s,e1,hi,hp,hs,ea,eb,hv⟩
 dsimp only at e1 ea eb hv ⊢
 subst e1 ea eb
 have L3:=L2.trans l3
 refine ⟨rfl,fun hlt=>?_,fun hlt V7 l7=>?_⟩
 ·have hlt:(i:Int)<c.length:=of_decide_eq_true hlt
  have hi':i<c.length:=by omega
  have w:i64.wrap ((i:Int)+1)=((i+1:Nat):Int):=by rw [aw (by omega)];rfl
  rw [Int.toNat_natCast,w]
  obtain ⟨ps,a1,a2,a3,a4,a5,a6,a7,a8,a9,b1,b2,b3,b4,b5,b6,a,ha,h0,h1,h2,h3,h4,h5,h6,h7,h8,h9,h10,h11,h12,KE,EU,KF,h16,hr⟩:=jS (h.le L3 fun _ _ g=>fE.le g L3) hi'
  obtain ⟨rl,ri,-,-⟩:=hr.both
  have pa:=Ic hi' hp
  have sd:=hr.2
  refine ⟨ps,⟨by omega,by omega⟩,_,_,_,_,_,_,_,_,_,_,_,_,_,_,_,_,_,a,ha,h0,h1,h2,h3,h4,h5,h6,h7,h8,h9,h10,h11,h12,KE,EU,KF,h16,fun V4 l4=>(zg (hl0.le (L3.trans l4)) (hv.le l4) (rl.le l4) (k:=100000) (hb.pY.up (by omega)) hs (sd.1.pY.up (by omega)) (by omega)).mono ?_⟩
  rintro r V5 l5 ⟨w5,rfl,g⟩
  have g0:=g
  obtain ⟨_,_,_,_,_,_,rfl,-,-⟩:=g
  refine ⟨_,_,_,_,_,_,_,_,_,rfl,fun hf V6 l6=>?_,fun hf=>⟨(((i+1:Nat):Int),_,_,_,_,_,_,_,_),by dsimp only;omega,by and_intros<;>rfl,i+1,fc l s c[i].1,rfl,hi',?_,DE hb.pY sd.1.pY hs (by omega),rfl,rfl,g0⟩⟩
  ·have hf:fa l s c[i].1=false:=by simpa using hf
   have e:bJ c l bw=none:=by
    have:=jV (c:=c.take (i+1)) (d:=c.drop (i+1)) (l:=l) (v:=bw)
    rw [List.take_append_drop,pa,hf] at this
    exact this
   rw [e]
   exact ⟨_,rfl,⟨_,_,_,_,_,_,rfl,RR.zero _,RR.zero _⟩,Ku _ (by omega),Ku _ (by omega)⟩
  ·have hf:fa l s c[i].1=true:=by simpa using hf
   rw [pa,if_pos hf]
 ·have hlt:¬(i:Int)<c.length:=of_decide_eq_false hlt
  obtain rfl:i=c.length:=by omega
  rw [List.take_length] at hp
  rw [hp]
  exact ⟨_,rfl,hv.le l7,hs⟩
def Gx (c:List Sd)(l:L3):Int:=if (bJ c l bw).isSome=true then 0 else cV c l
theorem m_ {V:View}{cp:OA}{cn cc:Nat}{c:List Sd}{lv:Value}{l:L3}(h:cK 17 fE V cp cn c)(hl:rf V lv l)(hb:Bd l)(hn:c.length<=1000000) :
  ab prog 78 #[.slice cp cn cc,lv] V fun r V'=>r=.int .i64 (Gx c l):=by
 have hl0:=hl
 obtain rfl:=h.len
 obtain ⟨_,_,_,_,_,_,_,_,_,rfl,-,-,-⟩:=hl
 refine oa cp _ cc _ _ _ _ _ _ _ _ _ V _ fun V1 l1=>(pG (h.le l1 fun _ _ g=>fE.le g l1) (hl0.le l1) hb hn).mono ?_
 rintro r V2 l2 ⟨w,rfl,g,-⟩
 obtain ⟨_,_,_,_,_,_,rfl,-,-⟩:=g
 have L2:=l1.trans l2
 refine ⟨_,_,_,_,_,_,_,_,_,rfl,fun hp V3 l3=>by unfold Gx;rw [if_pos hp],fun hp=>?_⟩
 have hp:(bJ c l bw).isSome=false:=hp
 have e0:Gx c l=cV c l:=by unfold Gx;rw [if_neg (by rw [hp];exact Bool.false_ne_true)]
 rw [e0]
 refine ⟨fun z V'=>∃i:Nat,z=(i:Int)/\i<=c.length/\cV c l=cV (c.drop i) l,fun z=>c.length-z.toNat,⟨0,by and_intros<;>rfl,0,rfl,Nat.zero_le _,rfl⟩,?_⟩
 rintro z V4 l4 ⟨i,rfl,hi,hpl⟩
 have L4:=L2.trans l4
 refine ⟨rfl,fun hlt=>?_,fun hlt mU eC=>?_⟩
 ·have hlt:(i:Int)<c.length:=of_decide_eq_true hlt
  have hi':i<c.length:=by omega
  have w:i64.wrap ((i:Int)+1)=((i+1:Nat):Int):=by rw [aw (by omega)];rfl
  rw [Int.toNat_natCast,w]
  obtain ⟨ps,a1,a2,a3,a4,a5,a6,a7,a8,a9,b1,b2,b3,b4,b5,b6,a,ha,h0,h1,h2,h3,h4,h5,h6,h7,h8,h9,h10,h11,h12,KE,EU,KF,h16,hr⟩:=jS (h.le L4 fun _ _ g=>fE.le g L4) hi'
  obtain ⟨rl,ri,-,-⟩:=hr.both
  have sd:=hr.2
  have ed:c.drop i=c[i]::c.drop (i+1):=List.drop_eq_getElem_cons hi'
  rw [ed] at hpl
  have hpl:cV c l=if (au l (ka c[i].1 c[i].2.dm) (kb c[i].1 c[i].2.dm)).num.sign≠0 then (au l (ka c[i].1 c[i].2.dm) (kb c[i].1 c[i].2.dm)).num.sign else if c[i].1=l then 1 else cV (c.drop (i+1)) l:=hpl.trans (by rfl)
  generalize c[i]=S at *
  have P1:=Iy sd.2
  refine ⟨ps,⟨by omega,by omega⟩,_,_,_,_,_,_,_,_,_,_,_,_,_,_,_,_,_,a,ha,h0,h1,h2,h3,h4,h5,h6,h7,h8,h9,h10,h11,h12,KE,EU,KF,h16,fun V5 l5=>(zf (ri.le l5) sd.2 (by omega)).mono ?_⟩
  rintro r V6 l6 g
  have g0:=g
  obtain ⟨_,_,_,rfl⟩:=g.shape
  refine ⟨_,_,_,rfl,fun V7 l7=>(O8 (rl.le (l5.trans (l6.trans l7))) (g0.le l7) (k:=300000) (sd.1.pY.up (by omega)) (P1.mono (by omega)) (by omega)).mono ?_⟩
  rintro r V8 l8 gp
  have Ta:=gp
  obtain ⟨_,_,_,_,_,_,rfl,-,-⟩:=gp
  have sx:=Kr (sd.1.pY.up (show 1000<=300000 by omega)) (P1.mono (show 2*100000+10<=300000 by omega))
  have sy:=Ks (sd.1.pY.up (show 1000<=300000 by omega)) (P1.mono (show 2*100000+10<=300000 by omega))
  refine ⟨_,_,_,_,_,_,rfl,fun V9 l9=>(JZ (hl0.le (L4.trans (l5.trans (l6.trans (l7.trans (l8.trans l9)))))) (Ta.le l9) (hb.pY.up (by omega)) sx sy (by omega)).mono ?_⟩
  rintro r kn l10 rfl
  refine ⟨_,rfl,fun hs ko bR=>?_,fun hs oo cU=>(HU (rl.le (l5.trans (l6.trans (l7.trans (l8.trans (l9.trans (l10.trans cU))))))) (hl0.le (L4.trans (l5.trans (l6.trans (l7.trans (l8.trans (l9.trans (l10.trans cU)))))))) (k:=1000) sd.1.pY hb.pY (by omega)).mono ?_⟩
  ·rw [hpl,if_pos (by simpa using hs)]
  ·rintro r rk dq rfl
   rw [if_neg (by simpa using hs)] at hpl
   refine ⟨_,rfl,fun he ow fh=>?_,fun he=>⟨((i+1:Nat):Int),by dsimp only;omega,by and_intros<;>rfl,i+1,rfl,hi',?_⟩⟩
   ·rw [hpl,if_pos (of_decide_eq_true he)]
   ·rw [hpl,if_neg (of_decide_eq_false he)]
 ·have hlt:¬(i:Int)<c.length:=of_decide_eq_false hlt
  obtain rfl:i=c.length:=by omega
  rw [hpl,List.drop_length]
  rfl
end Go.Proofs.Tryz
