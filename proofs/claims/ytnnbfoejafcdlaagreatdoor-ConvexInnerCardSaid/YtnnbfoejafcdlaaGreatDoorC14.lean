import Derived.Test.YtnnbfoejafcdlaaGreatDoorC13
import Derived.Test.YtnnbfoejafcdlaaGreatDoorC5
import Derived.Test.YtnnbfoejafcdlaaGreatDoorC12
import Derived.Test.YtnnbfoejafcdlaaGreatDoorC9
import Derived.Test.YtnnbfoejafcdlaaGreatDoorC7
set_option linter.unusedVariables false
open Go.IntKind (i64 u64 u32)
namespace Go.Proofs.Tryz
open Go.bw Go.eN
structure Js (V:View) (n:Nat) (vs:List Value) (l:List L3):Prop where
 row:Row 9 vW V vs l
 len:n=l.length
 R7:l.length<50
theorem Js.le {V V':View}{n:Nat}{vs:List Value}{l:List L3}(h:Js V n vs l)(e:V.Le V'):Js V' n vs l:=⟨h.row.le fun _ _ g=>vW.le g e,h.len,h.R7⟩
theorem Js.get {V:View}{n:Nat}{vs:List Value}{l:List L3}(h:Js V n vs l){k:Nat}(hk:k<l.length):∃(x y:Int)(p:OA)(xb yb:Int)(pb:OA)(xc yc:Int)(pc:OA),
  ((0+k*9)+9<=vs.length/\(vs.drop (0+k*9)).take 9=[.int .i64 x,.int .i64 y,.pointer p,.int .i64 xb,.int .i64 yb,.pointer pb,.int .i64 xc,.int .i64 yc,.pointer pc])/\vW V (.agg #[.int .i64 x,.int .i64 y,.pointer p,.int .i64 xb,.int .i64 yb,.pointer pb,.int .i64 xc,.int .i64 yc,.pointer pc]) (l.getD k Kj):=by
 obtain ⟨xs,-,h2,h3,h4⟩:=h.row.get (d:=Kj) hk (by decide)
 have h20:=h2
 obtain ⟨x,y,p,xb,yb,pb,xc,yc,pc,e⟩:=h2.shape
 have e:=congrArg Array.toList (Value.agg.inj e)
 dsimp only at e
 subst e
 rw [Nat.zero_add]
 exact ⟨x,y,p,xb,yb,pb,xc,yc,pc,⟨h3,h4⟩,h20⟩
theorem Js.swap {V:View}{n:Nat}{vs:List Value}{l:List L3}(h:Js V n vs l){i j:Nat}(hi:i<l.length)(hj:j<l.length){x y:Int}{p:OA}{xb yb:Int}{pb:OA}{xc yc:Int}{pc:OA}{x' y':Int}{p':OA}{Rb Rc:Int}{pb':OA}{N8 Rd:Int}{pc':OA}
  (h1:vW V (.agg #[.int .i64 x,.int .i64 y,.pointer p,.int .i64 xb,.int .i64 yb,.pointer pb,.int .i64 xc,.int .i64 yc,.pointer pc]) (l.getD i Kj))(h2:vW V (.agg #[.int .i64 x',.int .i64 y',.pointer p',.int .i64 Rb,.int .i64 Rc,.pointer pb',.int .i64 N8,.int .i64 Rd,.pointer pc']) (l.getD j Kj)) :
  (0+i*9)+9<=vs.length/\(0+j*9)+9<=(cY vs (0+i*9) [.int .i64 x',.int .i64 y',.pointer p',.int .i64 Rb,.int .i64 Rc,.pointer pb',.int .i64 N8,.int .i64 Rd,.pointer pc']).length /\
  Js V n (cY (cY vs (0+i*9) [.int .i64 x',.int .i64 y',.pointer p',.int .i64 Rb,.int .i64 Rc,.pointer pb',.int .i64 N8,.int .i64 Rd,.pointer pc']) (0+j*9) [.int .i64 x,.int .i64 y,.pointer p,.int .i64 xb,.int .i64 yb,.pointer pb,.int .i64 xc,.int .i64 yc,.pointer pc]) (qB Kj l i j):=by
 obtain ⟨-,-,-,g1,-⟩:=h.row.get (d:=Kj) hi (by decide)
 obtain ⟨-,-,-,g2,-⟩:=h.row.get (d:=Kj) hj (by decide)
 rw [Nat.zero_add,Nat.zero_add]
 refine ⟨g1,by rw [qg (by exact g1)];exact g2,h.row.swap hi hj (by decide) rfl rfl h1 h2,by rw [yI];exact h.len,by rw [yI];exact h.R7⟩
structure GR {α:Type} (sz:Nat) (R:View->Value->α->Prop) (V:View) (n c:Nat) (vs:List Value) (l:List α):Prop where
 len:n=l.length
 le:n<=c
 cap:c*sz<=vs.length
 row:Row sz R V vs l
theorem GR.nil {α:Type}{sz:Nat}{R:View->Value->α->Prop}{V:View}:GR sz R V 0 0 [] []:=⟨rfl,Nat.le_refl _,by simp,Row.nil⟩
theorem GR.mono {α:Type}{sz:Nat}{R:View->Value->α->Prop}{V V':View}{n c:Nat}{vs:List Value}{l:List α}(h:GR sz R V n c vs l)(m:∀v a,R V v a->R V' v a):GR sz R V' n c vs l:=⟨h.len,h.le,h.cap,h.row.le m⟩
theorem GR.snoc {α:Type}{sz:Nat}{R:View->Value->α->Prop}{V:View}{n c:Nat}{vs:List Value}{l:List α}(h:GR sz R V n c vs l){xs:List Value}{a:α}(hx:xs.length=sz)(ha:R V (.agg xs.toArray) a)(h0:0<sz){sp:List Value}{c':Nat}(h1:n+1<=c')(h2:c'*sz<=(n+1)*sz+sp.length) :
  GR sz R V (n+1) c' (vs.take (n*sz)++xs++sp) (l++[a]):=by
 have hn:=h.len
 have hc:=h.cap
 have hl:n*sz<=c*sz:=Nat.mul_le_mul_right _ h.le
 refine ⟨by rw [List.length_append,hn];rfl,h1,?_,?_⟩
 ·have ht:(vs.take (n*sz)).length=n*sz:=by rw [List.length_take];omega
  rw [List.length_append,List.length_append,ht,hx]
  rw [Nat.succ_mul] at h2
  exact h2
 ·have:=h.row.snoc (sp:=sp) hx ha h0
  rw [←hn] at this
  exact this
def kA (l:L3):L3:=if l.1<0\/l.1=0/\l.2.1<0 then iw l else l
theorem Bd.rev {l:L3}(h:Bd l):Bd (iw l):=by
 obtain ⟨h1,h2,h3⟩:=h
 unfold Bd iw
 simp only [Int.natAbs_neg]
 exact ⟨h1,h2,h3⟩
theorem Bd.can {l:L3}(h:Bd l):Bd (kA l):=by
 unfold kA;split
 ·exact h.rev
 ·exact h
theorem Bd.gO {l:L3}(h:Bd l):lA 1000 l:=⟨h.sz.1,h.sz.2.1,h.sz.2.2⟩
end Go.Proofs.Tryz
namespace Go.Proofs.Tryz.aq
open Go.bw Go.eN
def nv (l:L3)(v:V2):Rat:=(l.1:Rat)*v.1+(l.2.1:Rat)*v.2
def ax (l:L3):V2:=((l.2.1:Rat),-(l.1:Rat))
theorem DV (l:L3)(v:V2):nv l v=cr (ax l) v:=by unfold nv cr ax;grind
theorem HA {q:Rat}:q.num.sign=-1↔q<0:=by
 rw [Int.sign_eq_neg_one_iff_neg,←Int.not_le,←Rat.not_le,Rat.num_nonneg]
theorem K8 {q:Rat}:q.num.sign=1↔q>0:=by
 have h:=@HA (-q)
 rw [Rat.neg_num,Int.sign_neg] at h
 constructor
 ·intro e;have:=h.1 (by rw [e]);grind
 ·intro e;have:=h.2 (by grind);omega
theorem n_ {q:Rat}:q.num.sign=0↔q=0:=by rw [Int.sign_eq_zero_iff_zero,Rat.num_eq_zero]
def N_ (D:List V2)(M:List L3):Prop:=∀l∈M,∃r∈D,∃c:Rat,c>0/\r=(c*(ax l).1,c*(ax l).2)
theorem Cf {l:L3}{r:V2}{c:Rat}(c0:c>0)(e:r=(c*(ax l).1,c*(ax l).2))(v:V2):cr r v=c*nv l v:=by
 rw [DV,e];unfold cr;grind
theorem DS {c x:Rat}(c0:c>0):(c*x>0↔x>0)/\(c*x<0↔x<0)/\(c*x=0↔x=0):=by
 have p:x>0->c*x>0:=fun h=>mp c0 h
 have n:x<0->c*x<0:=fun h=>by have:=mp c0 (show -x>0 by grind);grind
 have z:x=0->c*x=0:=fun h=>by rw [h];grind
 refine ⟨⟨fun h=>?_,p⟩,⟨fun h=>?_,n⟩,⟨fun h=>?_,z⟩⟩
 ·by_cases q:x>0
  ·exact q
  ·by_cases q':x<0
   ·have:=n q';grind
   ·have:=z (by grind);grind
 ·by_cases q:x<0
  ·exact q
  ·by_cases q':x>0
   ·have:=p q';grind
   ·have:=z (by grind);grind
 ·rcases Rat.mul_eq_zero.1 h with h|h
  ·grind
  ·exact h
theorem N_.gen {D:List V2}{M:List L3}(h:N_ D M){v:V2}(hv:∀r∈D,cr r v≠0):∀l∈M,nv l v≠0:=by
 intro l hl e
 obtain ⟨r,hr,c,c0,e'⟩:=h l hl
 exact hv r hr (by rw [Cf c0 e',e];grind)
theorem N_.same {D:List V2}{M:List L3}(h:N_ D M){v x:V2}(hv:∀r∈D,(cr r v>0->cr r x>0)/\(cr r v<0->cr r x<0)) :
  ∀l∈M,(nv l v>0->nv l x>0)/\(nv l v<0->nv l x<0):=by
 intro l hl
 obtain ⟨r,hr,c,c0,e'⟩:=h l hl
 have:=hv r hr
 rw [Cf c0 e',Cf c0 e'] at this
 obtain ⟨a1,a2,_⟩:=@DS c (nv l v) c0
 obtain ⟨b1,b2,_⟩:=@DS c (nv l x) c0
 exact ⟨fun h=>b1.1 (this.1 (a1.2 h)),fun h=>b2.1 (this.2 (a2.2 h))⟩
theorem fx (l:L3)(p v:V2)(s:Rat):ar l (p.1+s*v.1) (p.2+s*v.2)=ar l p.1 p.2+s*nv l v:=by unfold ar nv;grind
theorem inv_mul {c:Rat}(h:c≠0)(a:Rat):a*c⁻¹*c=a:=by rw [Rat.mul_assoc,Rat.inv_mul_cancel _ h,Rat.mul_one]
def half (u:V2):Int:=if u.2.num.sign>0\/u.2.num.sign=0/\u.1.num.sign>0 then 1 else if u.2.num.sign<0\/u.1.num.sign<0 then 2 else 0
def gH (u v:V2):Int:=if half u<half v then -1 else if half u>half v then 1 else -(cr u v).num.sign
theorem nZ {q:Rat}:q.num.sign>0↔q>0:=by
 have:=Rat.num_nonneg (q:=-q)
 rw [Rat.neg_num] at this
 rw [gt_iff_lt,Int.sign_pos_iff]
 have h2:(0<=-q)↔¬q>0:=by constructor<;>intro h<;>grind
 rw [h2] at this
 by_cases h:q>0
 ·exact ⟨fun _=>h,fun _=>by
   have:¬0<=-q.num:=fun g=>this.1 g h
   omega⟩
 ·exact ⟨fun g=>by have:=this.2 h;omega,fun g=>absurd g h⟩
theorem qh {q:Rat}:q.num.sign<0↔q<0:=by
 have:=@nZ (-q)
 rw [Rat.neg_num,Int.sign_neg] at this
 constructor
 ·intro h;have:=this.1 (by omega);grind
 ·intro h;have:=this.2 (by grind);omega
theorem cJ (u:V2):half u=1/\up u\/half u=2/\dn u\/half u=0/\u.1=0/\u.2=0:=by
 unfold half up dn
 split
 ·rename_i h;rw [nZ,nZ,n_] at h;exact .inl ⟨rfl,h⟩
 ·rename_i h
  rw [nZ,nZ,n_] at h
  split
  ·rename_i h';rw [qh,qh] at h';exact .inr (.inl ⟨rfl,by grind⟩)
  ·rename_i h';rw [qh,qh] at h';exact .inr (.inr ⟨rfl,by grind,by grind⟩)
theorem rJ {u v:V2}:gH u v<0↔half u<half v\/half u=half v/\cr u v>0:=by
 have:=@nZ (cr u v)
 unfold gH
 by_cases h1:half u<half v
 ·simp [h1]
 ·by_cases h2:half u>half v
  ·rw [if_neg h1,if_pos h2];omega
  ·rw [if_neg h1,if_neg h2];constructor
   ·intro h;exact .inr ⟨by omega,this.1 (by omega)⟩
   ·rintro (h|⟨h,h'⟩)
    ·omega
    ·have:=this.2 h';omega
theorem zA {u v:V2}:gH u v=0↔half u=half v/\cr u v=0:=by
 have:=@n_ (cr u v)
 unfold gH
 by_cases h1:half u<half v
 ·rw [if_pos h1];constructor
  ·intro h;omega
  ·rintro ⟨h,_⟩;omega
 ·by_cases h2:half u>half v
  ·rw [if_neg h1,if_pos h2];constructor
   ·intro h;omega
   ·rintro ⟨h,_⟩;omega
  ·rw [if_neg h1,if_neg h2];constructor
   ·intro h;exact ⟨by omega,this.1 (by omega)⟩
   ·rintro ⟨_,h⟩;have:=this.2 h;omega
theorem Kb (u v:V2):gH u v<0\/gH u v=0\/gH v u<0:=by
 rw [rJ,zA,rJ]
 have:=DE u v
 rcases Int.lt_trichotomy (half u) (half v) with h|h|h
 ·exact .inl (.inl h)
 ·by_cases p:cr u v>0
  ·exact .inl (.inr ⟨h,p⟩)
  ·by_cases q:cr u v=0
   ·exact .inr (.inl ⟨h,q⟩)
   ·exact .inr (.inr (.inr ⟨h.symm,by grind⟩))
 ·exact .inr (.inr (.inl h))
theorem Dr (u v:V2)(h:gH u v<0):¬gH v u<0:=by
 rw [rJ] at *
 have:=DE u v
 rintro (h'|⟨h',g'⟩)<;>rcases h with h|⟨h,g⟩
 ·omega
 ·omega
 ·omega
 ·grind
theorem Im {a b d:V2}(sQ:half a=half b)(hbd:half b=half d)(h1:cr a b<=0)(h2:cr b d<=0):cr a d<=0:=by
 by_cases h:cr a d<=0
 ·exact h
 exfalso
 have c:cr a d>0:=by grind
 have j1:=P6 a d b
 have j2:=Gv a d b
 rcases cJ b with ⟨e,hb⟩|⟨e,hb⟩|⟨e,hb⟩
 ·have ha:up a:=by rcases cJ a with ⟨e',h⟩|⟨e',h⟩|⟨e',h⟩<;>first|exact h|omega
  have hd:up d:=by rcases cJ d with ⟨e',h⟩|⟨e',h⟩|⟨e',h⟩<;>first|exact h|omega
  unfold up at ha hb hd
  have m1:=mn (show -(cr a b)≥0 by grind) (show d.2≥0 by grind)
  have m2:=mn (show -(cr b d)≥0 by grind) (show a.2≥0 by grind)
  have m3:=mn (show cr a d≥0 by grind) (show b.2≥0 by grind)
  have z3:cr a d*b.2=0:=by grind
  have b2:b.2=0:=by rcases Rat.mul_eq_zero.1 z3 with h|h<;>grind
  have b1:b.1>0:=by grind
  have d2:d.2=0:=by
   by_cases q:d.2>0
   ·have:=mp b1 q;unfold cr at h2;rw [b2] at h2;grind
   ·grind
  have d1:d.1>0:=by grind
  have:=mn (show a.2≥0 by grind) (show d.1≥0 by grind)
  unfold cr at c
  rw [d2] at c
  grind
 ·have ha:dn a:=by rcases cJ a with ⟨e',h⟩|⟨e',h⟩|⟨e',h⟩<;>first|exact h|omega
  have hd:dn d:=by rcases cJ d with ⟨e',h⟩|⟨e',h⟩|⟨e',h⟩<;>first|exact h|omega
  unfold dn at ha hb hd
  have m1:=mn (show -(cr a b)≥0 by grind) (show -d.2≥0 by grind)
  have m2:=mn (show -(cr b d)≥0 by grind) (show -a.2≥0 by grind)
  have m3:=mn (show cr a d≥0 by grind) (show -b.2≥0 by grind)
  have z3:cr a d*b.2=0:=by grind
  have b2:b.2=0:=by rcases Rat.mul_eq_zero.1 z3 with h|h<;>grind
  have b1:-b.1>0:=by grind
  have d2:d.2=0:=by
   by_cases q:-d.2>0
   ·have:=mp b1 q;unfold cr at h2;rw [b2] at h2;grind
   ·grind
  have d1:d.1<0:=by grind
  have:=mn (show -a.2≥0 by grind) (show -d.1≥0 by grind)
  unfold cr at c
  rw [d2] at c
  grind
 ·have ha:a.1=0/\a.2=0:=by rcases cJ a with ⟨e',h⟩|⟨e',h⟩|⟨e',h⟩<;>first|exact h|omega
  unfold cr at c
  rw [ha.1,ha.2] at c
  grind
theorem Ka {u v:V2}:¬gH u v<0↔half v<half u\/half u=half v/\cr u v<=0:=by
 rw [rJ]
 constructor
 ·intro h
  rcases Int.lt_trichotomy (half u) (half v) with g|g|g
  ·exact absurd (.inl g) h
  ·exact .inr ⟨g,by by_cases p:cr u v>0;exact absurd (.inr ⟨g,p⟩) h;grind⟩
  ·exact .inl g
 ·rintro (h|⟨h,g⟩) (h'|⟨h',g'⟩)
  ·omega
  ·omega
  ·omega
  ·grind
theorem Kc (a b d:V2)(h:¬gH a b<0)(h':¬gH b d<0):¬gH a d<0:=by
 rw [Ka] at *
 rcases h with h|⟨h,g⟩<;>rcases h' with h'|⟨h',g'⟩
 ·exact .inl (by omega)
 ·exact .inl (by omega)
 ·exact .inl (by omega)
 ·exact .inr ⟨by omega,Im h h' g g'⟩
theorem FF {u v:V2}(hu:nz u)(h:gH u v=0):∃c:Rat,c>0/\u=(c*v.1,c*v.2):=by
 rw [zA] at h
 obtain ⟨e,c⟩:=h
 have fin:∀k:Rat,k>0->u.1=k*v.1->u.2=k*v.2->∃c:Rat,c>0/\u=(c*v.1,c*v.2):=fun k h0 h1 h2=>⟨k,h0,Prod.ext h1 h2⟩
 have pos:∀x y:Rat,y≠0->x*y>0->x*y⁻¹>0:=fun x y hy h=>by
  have e:=inv_mul hy x
  generalize x*y⁻¹=t at *
  have e2:t*(y*y)=x*y:=by grind
  have:=sq_pos (u:=(y,0)) (.inl hy)
  unfold dt at this
  by_cases q:t>0
  ·exact q
  ·have:=mn (show -t≥0 by grind) (show y*y≥0 by grind);grind
 unfold cr at c
 have two:v.2≠0->u.2*v.2>0->∃c:Rat,c>0/\u=(c*v.1,c*v.2):=fun h0 h1=>by
  refine fin (u.2*v.2⁻¹) (pos _ _ h0 h1) ?_ (inv_mul h0 _).symm
  have:=inv_mul h0 u.1
  have:u.1*v.2*v.2⁻¹=u.2*v.1*v.2⁻¹:=by rw [show u.1*v.2=u.2*v.1 by grind]
  grind
 have one:v.1≠0->u.1*v.1>0->v.2=0->u.2=0->∃c:Rat,c>0/\u=(c*v.1,c*v.2):=fun h0 h1 h2 h3=>
  fin (u.1*v.1⁻¹) (pos _ _ h0 h1) (inv_mul h0 _).symm (by rw [h2,h3];grind)
 rcases cJ u with ⟨e1,h⟩|⟨e1,h⟩|⟨e1,h⟩
 ·have h':up v:=by rcases cJ v with ⟨e',h⟩|⟨e',h⟩|⟨e',h⟩<;>first|exact h|omega
  unfold up at h h'
  by_cases q:v.2>0
  ·refine two (by grind) ?_
   by_cases q':u.2>0
   ·exact mp q' q
   ·have u2:u.2=0:=by grind
    have:=mp (show u.1>0 by grind) q
    rw [u2] at c;grind
  ·have v2:v.2=0:=by grind
   have v1:v.1>0:=by grind
   by_cases q':u.2>0
   ·have:=mp q' v1;rw [v2] at c;grind
   ·exact one (by grind) (mp (by grind) v1) v2 (by grind)
 ·have h':dn v:=by rcases cJ v with ⟨e',h⟩|⟨e',h⟩|⟨e',h⟩<;>first|exact h|omega
  unfold dn at h h'
  by_cases q:v.2<0
  ·refine two (by grind) ?_
   by_cases q':u.2<0
   ·have:=mp (show -u.2>0 by grind) (show -v.2>0 by grind);grind
   ·have u2:u.2=0:=by grind
    have:=mp (show -u.1>0 by grind) (show -v.2>0 by grind)
    rw [u2] at c;grind
  ·have v2:v.2=0:=by grind
   have v1:-v.1>0:=by grind
   by_cases q':u.2<0
   ·have:=mp (show -u.2>0 by grind) v1;rw [v2] at c;grind
   ·refine one (by grind) ?_ v2 (by grind)
    have:=mp (show -u.1>0 by grind) v1;grind
 ·unfold nz at hu;grind
section
variable {D:List V2} (h:Og D)
include h
end
theorem rj {a b c x y z:Int}(h1:a*y=b*x)(h2:a*z=c*x)(g:Nat.gcd (Nat.gcd x.natAbs y.natAbs) z.natAbs=1):x.natAbs∣a.natAbs:=by
 have e1:a.natAbs*y.natAbs=b.natAbs*x.natAbs:=by rw [←Int.natAbs_mul,←Int.natAbs_mul,h1]
 have e2:a.natAbs*z.natAbs=c.natAbs*x.natAbs:=by rw [←Int.natAbs_mul,←Int.natAbs_mul,h2]
 have d1:x.natAbs∣a.natAbs*Nat.gcd (Nat.gcd x.natAbs y.natAbs) z.natAbs:=by
  rw [←Nat.gcd_mul_left,←Nat.gcd_mul_left]
  exact Nat.dvd_gcd (Nat.dvd_gcd ⟨a.natAbs,by rw [Nat.mul_comm]⟩ ⟨b.natAbs,by rw [e1,Nat.mul_comm]⟩) ⟨c.natAbs,by rw [e2,Nat.mul_comm]⟩
 rwa [g,Nat.mul_one] at d1
theorem Fe {l m:L3}(ol:dV l=true)(om:dV m=true)(cl:kA l=l)(cm:kA m=m){x y:Rat}(hl:ar l x y=0)(hm:ar m x y=0)
  (hc:cr (ax l) (ax m)=0):l=m:=by
 unfold dV at ol om
 rw [Bool.and_eq_true,decide_eq_true_iff,decide_eq_true_iff] at ol om
 have c12:l.1*m.2.1=l.2.1*m.1:=by
  unfold cr ax at hc
  have:(l.1:Rat)*(m.2.1:Rat)=(l.2.1:Rat)*(m.1:Rat):=by grind
  exact_mod_cast this
 unfold ar at hl hm
 have WM:(l.1:Rat)*(m.2.1:Rat)=(l.2.1:Rat)*(m.1:Rat):=by exact_mod_cast c12
 have c13:l.1*m.2.2=l.2.2*m.1:=by
  have:(l.1:Rat)*(m.2.2:Rat)=(l.2.2:Rat)*(m.1:Rat):=by grind
  exact_mod_cast this
 have c23:l.2.1*m.2.2=l.2.2*m.2.1:=by
  have:(l.2.1:Rat)*(m.2.2:Rat)=(l.2.2:Rat)*(m.2.1:Rat):=by grind
  exact_mod_cast this
 obtain ⟨U6,Qo⟩:=ol
 obtain ⟨WI,Qp⟩:=om
 unfold gf at Qo Qp
 have Ua:Nat.gcd (Nat.gcd l.2.1.natAbs l.1.natAbs) l.2.2.natAbs=1:=by rw [Nat.gcd_comm l.2.1.natAbs];exact Qo
 have Py:Nat.gcd (Nat.gcd m.2.1.natAbs m.1.natAbs) m.2.2.natAbs=1:=by rw [Nat.gcd_comm m.2.1.natAbs];exact Qp
 have a1:l.1.natAbs=m.1.natAbs:=Nat.dvd_antisymm (rj (a:=m.1) (b:=m.2.1) (c:=m.2.2) (by rw [Int.mul_comm,←c12,Int.mul_comm]) (by rw [Int.mul_comm,←c13,Int.mul_comm]) Qo) (rj c12 c13 Qp)
 have a2:l.2.1.natAbs=m.2.1.natAbs:=Nat.dvd_antisymm (rj (a:=m.2.1) (b:=m.1) (c:=m.2.2) (by rw [Int.mul_comm,c12,Int.mul_comm]) (by rw [Int.mul_comm,←c23,Int.mul_comm]) Ua) (rj (b:=l.1) (c:=l.2.2) c12.symm c23 Py)
 have sl:¬(l.1<0\/l.1=0/\l.2.1<0):=fun h=>by
  unfold kA at cl
  rw [if_pos h] at cl
  have e1:-l.1=l.1:=congrArg (fun x:L3=>x.1) cl
  have e2:-l.2.1=l.2.1:=congrArg (fun x:L3=>x.2.1) cl
  omega
 have sm:¬(m.1<0\/m.1=0/\m.2.1<0):=fun h=>by
  unfold kA at cm
  rw [if_pos h] at cm
  have e1:-m.1=m.1:=congrArg (fun x:L3=>x.1) cm
  have e2:-m.2.1=m.2.1:=congrArg (fun x:L3=>x.2.1) cm
  omega
 have e1:l.1=m.1:=by omega
 by_cases z:l.1=0
 ·have e2:l.2.1=m.2.1:=by omega
  have n2:l.2.1≠0:=fun h=>U6 ⟨z,h⟩
  have e3:m.2.2=l.2.2:=Int.eq_of_mul_eq_mul_left n2 (by rw [c23,e2,Int.mul_comm])
  exact Prod.ext e1 (Prod.ext e2 e3.symm)
 ·have e2:m.2.1=l.2.1:=Int.eq_of_mul_eq_mul_left z (by rw [c12,e1,Int.mul_comm])
  have e3:m.2.2=l.2.2:=Int.eq_of_mul_eq_mul_left z (by rw [c13,e1,Int.mul_comm])
  exact Prod.ext e1 (Prod.ext e2.symm e3.symm)
end Go.Proofs.Tryz.aq
namespace Go.Proofs.Tryz.aq
def mx (x:Rat×Rat)(t:Rat):Rat:=x.1+t*(x.2-x.1)
theorem CB {x:Rat×Rat}{t:Rat}(h1:x.1>0)(h2:x.2>0)(t0:t>0)(t1:t<=1):mx x t>0:=by
 have a:=mn (show 1-t≥0 by grind) (show x.1≥0 by grind)
 have b:=mp t0 h2
 unfold mx;grind
theorem KQ {x:Rat×Rat}{t s:Rat}(h1:x.1>0)(hs:mx x s≥0)(s0:s>0)(t0:t>0)(ts:t<=s):mx x t≥0:=by
 unfold mx at *
 have e:s*(x.1+t*(x.2-x.1))=(s-t)*x.1+t*(x.1+s*(x.2-x.1)):=by grind
 have a:=mn (show s-t≥0 by grind) (show x.1≥0 by grind)
 have b:=mn (show t≥0 by grind) hs
 by_cases h:x.1+t*(x.2-x.1)≥0
 ·exact h
 ·have:=mp s0 (show -(x.1+t*(x.2-x.1))>0 by grind)
  grind
theorem rD {y:Rat×Rat}(h1:y.1>0){s:Rat}(s0:s>0)(hs:mx y s<=0):∃t,t>0/\t<=s/\mx y t=0:=by
 have hd:y.1-y.2>0:=by
  by_cases c:y.1-y.2>0
  ·exact c
  ·have:=mn (show s≥0 by grind) (show y.2-y.1≥0 by grind)
   unfold mx at hs;grind
 have e:=inv_mul (show y.1-y.2≠0 by grind) y.1
 have p:=mp h1 (Rat.inv_pos.2 hd)
 refine ⟨y.1*(y.1-y.2)⁻¹,p,?_,?_⟩
 ·generalize y.1*(y.1-y.2)⁻¹=t at *
  by_cases c:t<=s
  ·exact c
  ·have:=mp (show t-s>0 by grind) hd
   unfold mx at hs;grind
 ·generalize y.1*(y.1-y.2)⁻¹=t at *
  unfold mx;grind
theorem Ci:∀(L:List (Rat×Rat)),(∀x∈L,x.1>0)->(∃x∈L,x.2<=0)->∃t,t>0/\t<=1/\(∀x∈L,mx x t≥0)/\∃x∈L,mx x t=0
 | [],_,h=>by obtain ⟨x,hx,_⟩:=h;cases hx
 | y::L,h0,h=>by
  have hy:=h0 y (List.mem_cons_self ..)
  have hL:=fun x hx=>h0 x (List.mem_cons_of_mem y hx)
  by_cases c:∃x∈L,x.2<=0
  ·obtain ⟨t,t0,t1,a,x,hx,e⟩:=Ci L hL c
   by_cases g:mx y t≥0
   ·exact ⟨t,t0,t1,fun z hz=>by rcases List.mem_cons.1 hz with rfl|hz;exact g;exact a z hz,x,List.mem_cons_of_mem _ hx,e⟩
   ·obtain ⟨s,s0,st,es⟩:=rD hy t0 (by grind)
    exact ⟨s,s0,by grind,fun z hz=>by rcases List.mem_cons.1 hz with rfl|hz;grind;exact KQ (hL z hz) (a z hz) t0 s0 st,y,List.mem_cons_self ..,es⟩
  ·obtain ⟨x,hx,hx2⟩:=h
   have:x=y:=by
    rcases List.mem_cons.1 hx with rfl|hx
    ·rfl
    ·exact absurd ⟨x,hx,hx2⟩ c
   subst this
   obtain ⟨s,s0,st,es⟩:=rD hy (s:=1) (by decide) (by unfold mx;grind)
   refine ⟨s,s0,st,fun z hz=>?_,x,List.mem_cons_self ..,es⟩
   rcases List.mem_cons.1 hz with rfl|hz
   ·grind
   ·have:z.2>0:=by
     by_cases q:z.2>0
     ·exact q
     ·exact absurd ⟨z,hz,by grind⟩ c
    have:=CB (hL z hz) this s0 st
    grind
theorem yF:∀(L:List (Rat×Rat)),(∀x∈L,x.1>0)->∃s,s>0/\∀x∈L,x.1+s*x.2>0
 | [],_=>⟨1,by decide,fun x h=>by cases h⟩
 | y::L,h0=>by
  have hy:=h0 y (List.mem_cons_self ..)
  obtain ⟨s,s0,h⟩:=yF L fun x hx=>h0 x (List.mem_cons_of_mem y hx)
  by_cases c:y.1+s*y.2>0
  ·exact ⟨s,s0,fun z hz=>by rcases List.mem_cons.1 hz with rfl|hz;exact c;exact h z hz⟩
  ·have hn:-y.2>0:=by
    by_cases q:y.2<0
    ·grind
    ·have:=mn (show s≥0 by grind) (show y.2≥0 by grind);grind
   have e:=inv_mul (show -y.2≠0 by grind) y.1
   have p:=mp hy (Rat.inv_pos.2 hn)
   generalize y.1*(-y.2)⁻¹=r at *
   have hr:r<=s:=by
    by_cases q:r<=s
    ·exact q
    ·have:=mp (show r-s>0 by grind) hn;grind
   refine ⟨r*(1 / 2),by grind,fun z hz=>?_⟩
   rcases List.mem_cons.1 hz with rfl|hz
   ·grind
   ·have hz1:=h0 z (List.mem_cons_of_mem _ hz)
    have hz2:=h z hz
    by_cases q:z.2≥0
    ·have:=mn (show r*(1 / 2)≥0 by grind) q;grind
    ·have:=mn (show s-r*(1 / 2)≥0 by grind) (show -z.2≥0 by grind)
     grind
def pos (M:List L3)(p:V2):Prop:=∀m∈M,ar m p.1 p.2>0
def Es (M:List L3)(l:L3):Prop:=∃p:V2,ar l p.1 p.2=0/\∀m∈M,m≠l->ar m p.1 p.2>0
def ON (M:List L3):Prop:=∀l∈M,∀m∈M,l≠m->∀p:V2,ar l p.1 p.2=0->ar m p.1 p.2=0->cr (ax l) (ax m)≠0
theorem I3 {l m:L3}{w:V2}(hw:w.1≠0\/w.2≠0)(h1:nv l w=0)(h2:nv m w=0):cr (ax l) (ax m)=0:=by
 have e1:cr (ax l) (ax m)*w.1=0:=by unfold nv at *;unfold cr ax;grind
 have e2:cr (ax l) (ax m)*w.2=0:=by unfold nv at *;unfold cr ax;grind
 rcases hw with h|h
 ·rcases Rat.mul_eq_zero.1 e1 with g|g;exact g;exact absurd g h
 ·rcases Rat.mul_eq_zero.1 e2 with g|g;exact g;exact absurd g h
theorem DD (u:V2):cr u u=0:=by unfold cr;grind
theorem oq (m:L3)(q p:V2)(t:Rat):ar m (q.1+t*(p.1-q.1)) (q.2+t*(p.2-q.2))=ar m q.1 q.2+t*(ar m p.1 p.2-ar m q.1 q.2):=by unfold ar;grind
theorem KS (m:L3)(q p:V2)(t:Rat):nv m (q.1+t*(p.1-q.1),q.2+t*(p.2-q.2))=nv m q+t*(nv m p-nv m q):=by unfold nv;grind
theorem KT (m:L3)(q x:V2):nv m (q.1-x.1,q.2-x.2)=ar m q.1 q.2-ar m x.1 x.2:=by unfold nv ar;grind
theorem R5 {M:List L3}(hd:ON M)(hn:∀m∈M,(ax m).1≠0\/(ax m).2≠0){q p:V2}(hq:pos M q)(hp:∀m∈M,Es M m->ar m p.1 p.2>0):pos M p:=by
 intro m0 hm0
 by_cases c:ar m0 p.1 p.2>0
 ·exact c
 exfalso
 let f:L3->Rat×Rat:=fun m=>(ar m q.1 q.2,ar m p.1 p.2)
 obtain ⟨t,t0,t1,ge,x,hx,ex⟩:=Ci (M.map f) (fun x hx=>by obtain ⟨m,hm,rfl⟩:=List.mem_map.1 hx;exact hq m hm) ⟨f m0,List.mem_map_of_mem hm0,by show ar m0 p.1 p.2<=0;grind⟩
 obtain ⟨m1,hm1,rfl⟩:=List.mem_map.1 hx
 let X:V2:=(q.1+t*(p.1-q.1),q.2+t*(p.2-q.2))
 have vX:∀m,ar m X.1 X.2=mx (f m) t:=fun m=>oq m q p t
 have T9:∀m∈M,ar m X.1 X.2≥0:=fun m hm=>by rw [vX];exact ge _ (List.mem_map_of_mem hm)
 have zX:ar m1 X.1 X.2=0:=by rw [vX];exact ex
 let u:V2:=(q.1-X.1,q.2-X.2)
 have vu:∀m,nv m u=ar m q.1 q.2-ar m X.1 X.2:=fun m=>KT m q X
 let Z:=M.filter fun m=>decide (ar m X.1 X.2=0)
 have IW:∀m,m∈Z↔m∈M/\ar m X.1 X.2=0:=fun m=>by simp [Z,List.mem_filter]
 have U3:m1∈Z:=(IW m1).2 ⟨hm1,zX⟩
 let d:=ax m1
 have d0:nv m1 d=0:=by rw [DV];exact DD _
 let g:L3->Rat×Rat:=fun m=>(nv m u,nv m d)
 obtain ⟨k,k0,k1,T_,y,hy,ey⟩:=Ci (Z.map g) (fun x hx=>by
  obtain ⟨m,hm,rfl⟩:=List.mem_map.1 hx
  obtain ⟨Uz,hz⟩:=(IW m).1 hm
  show nv m u>0
  rw [vu,hz];have:=hq m Uz;grind) ⟨g m1,List.mem_map_of_mem U3,by show nv m1 d<=0;rw [d0];grind⟩
 obtain ⟨m2,hm2,rfl⟩:=List.mem_map.1 hy
 obtain ⟨Qf,Qg⟩:=(IW m2).1 hm2
 let w:V2:=(u.1+k*(d.1-u.1),u.2+k*(d.2-u.2))
 have vw:∀m,nv m w=mx (g m) k:=fun m=>KS m u d k
 have wz:nv m2 w=0:=by rw [vw];exact ey
 have w0:w.1≠0\/w.2≠0:=by
  by_cases e:k=1
  ·have:=hn m1 hm1
   have e1:w.1=d.1:=by dsimp only [w];rw [e];grind
   have e2:w.2=d.2:=by dsimp only [w];rw [e];grind
   rw [e1,e2];exact this
  ·have a:nv m1 w>0:=by
    rw [vw]
    show nv m1 u+k*(nv m1 d-nv m1 u)>0
    rw [d0]
    have:nv m1 u>0:=by rw [vu,zX];have:=hq m1 hm1;grind
    have:=mp (show 1-k>0 by grind) this
    grind
   by_cases e1:w.1=0
   ·by_cases e2:w.2=0
    ·unfold nv at a;rw [e1,e2] at a;grind
    ·exact .inr e2
   ·exact .inl e1
 obtain ⟨s,s0,hs⟩:=yF ((M.filter fun m=>decide (ar m X.1 X.2>0)).map fun m=>(ar m X.1 X.2,nv m w)) (fun x hx=>by
  obtain ⟨m,hm,rfl⟩:=List.mem_map.1 hx
  simpa using (List.mem_filter.1 hm).2)
 have es:Es M m2:=by
  refine ⟨(X.1+s*w.1,X.2+s*w.2),?_,fun m hm hne=>?_⟩
  ·rw [fx,Qg,wz];grind
  ·rw [fx]
   by_cases z:ar m X.1 X.2=0
   ·have UA:=(IW m).2 ⟨hm,z⟩
    have g0:nv m w≥0:=by rw [vw];exact T_ _ (List.mem_map_of_mem UA)
    have ne:nv m w≠0:=fun e=>hd m2 Qf m hm (fun h=>hne h.symm) X Qg z (I3 w0 wz e)
    have:=mp s0 (show nv m w>0 by grind)
    rw [z];grind
   ·have gz:=T9 m hm
    have hmem:(ar m X.1 X.2,nv m w)∈((M.filter fun m=>decide (ar m X.1 X.2>0)).map fun m=>(ar m X.1 X.2,nv m w)):=List.mem_map.2 ⟨m,List.mem_filter.2 ⟨hm,by simp;grind⟩,rfl⟩
    exact hs _ hmem
 have a:=hp m2 Qf es
 have b:=hq m2 Qf
 have:=CB (x:=f m2) b a t0 t1
 rw [←vX,Qg] at this
 grind
def gi (l:L3):V2:=((l.1:Rat),(l.2.1:Rat))
theorem QU {x y:Rat}(h:x≠0\/y≠0):x*x+y*y>0:=by
 have p:∀z:Rat,z≠0->z*z>0:=fun z hz=>by
  by_cases c:z>0
  ·exact mp c c
  ·have:=mp (show -z>0 by grind) (show -z>0 by grind);grind
 have q:∀z:Rat,z*z≥0:=fun z=>by
  by_cases c:z≥0
  ·exact mn c c
  ·have:=mn (show -z≥0 by grind) (show -z≥0 by grind);grind
 rcases h with h|h
 ·have:=p x h;have:=q y;grind
 ·have:=p y h;have:=q x;grind
theorem CC {l:L3}(h:(ax l).1≠0\/(ax l).2≠0):nv l (gi l)>0:=by
 have:nv l (gi l)=(l.1:Rat)*(l.1:Rat)+(l.2.1:Rat)*(l.2.1:Rat):=rfl
 rw [this]
 refine QU ?_
 rcases h with h|h
 ·exact .inr h
 ·left;intro e;apply h;show -(l.1:Rat)=0;rw [e];grind
theorem It {M:List L3}(hd:ON M)(hn:∀m∈M,(ax m).1≠0\/(ax m).2≠0){q:V2}(hq:pos M q)(h0:M≠[]):∃l∈M,Es M l:=by
 obtain ⟨l,hl⟩:=List.exists_mem_of_ne_nil M h0
 by_cases c:∃l∈M,Es M l
 ·exact c
 exfalso
 have h1:=CC (hn l hl)
 have e:=inv_mul (show nv l (gi l)≠0 by grind) (ar l q.1 q.2)
 have hp:=R5 hd hn hq (p:=(q.1+-(ar l q.1 q.2*(nv l (gi l))⁻¹)*(gi l).1,q.2+-(ar l q.1 q.2*(nv l (gi l))⁻¹)*(gi l).2)) (fun m hm he=>absurd ⟨m,hm,he⟩ c) l hl
 rw [fx] at hp
 grind
theorem Ga {M:List L3}{l:L3}(hn:(ax l).1≠0\/(ax l).2≠0){x:V2}(hx:ar l x.1 x.2=0)(h:∀m∈M,m≠l->ar m x.1 x.2>0)(L:List L3)(hL:∀m∈L,ar m x.1 x.2>0):∃q:V2,pos M q/\ar l q.1 q.2>0/\pos L q:=by
 have h1:=CC hn
 obtain ⟨s,s0,hs⟩:=yF (((M.filter fun m=>decide (m≠l))++L).map fun m=>(ar m x.1 x.2,nv m (gi l))) (fun y hy=>by
  obtain ⟨m,hm,rfl⟩:=List.mem_map.1 hy
  rcases List.mem_append.1 hm with hm|hm
  ·have:=List.mem_filter.1 hm
   exact h m this.1 (by simpa using this.2)
  ·exact hL m hm)
 have hl:ar l (x.1+s*(gi l).1) (x.2+s*(gi l).2)>0:=by rw [fx,hx];have:=mp s0 h1;grind
 refine ⟨(x.1+s*(gi l).1,x.2+s*(gi l).2),fun m hm=>?_,hl,fun m hm=>?_⟩
 ·by_cases e:m=l
  ·rw [e];exact hl
  ·rw [fx]
   exact hs (ar m x.1 x.2,nv m (gi l)) (List.mem_map.2 ⟨m,List.mem_append_left _ (List.mem_filter.2 ⟨hm,by simpa using e⟩),rfl⟩)
 ·rw [fx]
  exact hs (ar m x.1 x.2,nv m (gi l)) (List.mem_map.2 ⟨m,List.mem_append_right _ hm,rfl⟩)
theorem AG {M:List L3}{l:L3}(hno:∀x:V2,ar l x.1 x.2=0->¬pos M x){q p:V2}(hq:pos M q)(hp:pos M p):ar l q.1 q.2>0->ar l p.1 p.2>0:=by
 intro h
 by_cases c:ar l p.1 p.2>0
 ·exact c
 exfalso
 obtain ⟨t,t0,t1,e⟩:=rD (y:=(ar l q.1 q.2,ar l p.1 p.2)) h (s:=1) (by decide) (by unfold mx;grind)
 refine hno (q.1+t*(p.1-q.1),q.2+t*(p.2-q.2)) ?_ fun m hm=>?_
 ·rw [oq];exact e
 ·rw [oq];exact CB (x:=(ar m q.1 q.2,ar m p.1 p.2)) (hq m hm) (hp m hm) t0 t1
end Go.Proofs.Tryz.aq
namespace Go.Proofs.Tryz
open Go.bw Go.eN
def Sp.oG (s:Sp)(t:Rat):Prop:=(s.a=true\/s.lo<t)/\(s.b=true\/t<s.hi)
def EX (ss:List Sp)(t:Rat):Prop:=∃s∈ss,s.oG t
def Sp.pf (s:Sp):Prop:=s.can/\s.emp=false
def Sp.Lm (s t:Sp):Prop:=s.b=false/\t.a=false/\s.hi<t.lo
def Fz (ss:List Sp):Prop:=(∀s∈ss,s.pf)/\ss.Pairwise Sp.Lm
theorem pick (E:List Rat):∀l u:Rat,l<u->∃t,l<t/\t<u/\t∉E:=by
 induction E with
 | nil=>exact fun l u h=>⟨(l+u) / 2,by grind,by grind,by simp⟩
 | cons e r ih=>
  intro l u h
  by_cases c:l<e/\e<u
  ·obtain ⟨t,h1,h2,h3⟩:=ih l e c.1
   refine ⟨t,h1,by grind,fun hm=>?_⟩
   rcases List.mem_cons.1 hm with rfl|hm
   ·grind
   ·exact h3 hm
  ·obtain ⟨t,h1,h2,h3⟩:=ih l u h
   refine ⟨t,h1,h2,fun hm=>?_⟩
   rcases List.mem_cons.1 hm with rfl|hm
   ·exact c ⟨h1,h2⟩
   ·exact h3 hm
theorem Au {s:Sp}(h:s.emp=false)(ha:s.a=false)(hb:s.b=false):s.lo<s.hi:=by
 rcases Sp.nG.1 h with h|h|h
 ·rw [ha] at h;cases h
 ·rw [hb] at h;cases h
 ·exact h
theorem Fz.tail {s:Sp}{r:List Sp}(h:Fz (s::r)):Fz r:=⟨fun x hx=>h.1 x (by simp [hx]),(List.pairwise_cons.1 h.2).2⟩
theorem Fz.Lm {s:Sp}{r:List Sp}(h:Fz (s::r)){x:Sp}(hx:x∈r):s.Lm x:=(List.pairwise_cons.1 h.2).1 x hx
def nl:List Sp->List Rat
 | []=>[]
 | x::_=>[x.lo]
set_option linter.unusedSectionVars false
section
variable {s s':Sp} {r r':List Sp} {E:List Rat} (h:Fz (s :: r)) (h':Fz (s' :: r')) (e:∀t,t ∉ E->EX (s :: r) t->EX (s' :: r') t)
include h h' e
end
theorem Sp.ext' {s t:Sp}(h1:s.a=t.a)(h2:s.b=t.b)(h3:s.lo=t.lo)(h4:s.hi=t.hi):s=t:=by
 cases s;cases t;simp at *;exact ⟨h3,h4,h1,h2⟩
end Go.Proofs.Tryz
namespace Go.Proofs.Tryz
open Go.bw Go.eN
theorem row_one {α:Type}{sz:Nat}{R:View->Value->α->Prop}{V:View}{xs:List Value}{a:α}(hx:xs.length=sz)(ha:R V (.agg xs.toArray) a):Row sz R V xs [a]:=by
 refine ⟨fun i hi=>?_⟩
 obtain rfl:i=0:=by simpa using hi
 exact ⟨xs,hx,ha,fun j x hj=>by rw [Nat.zero_mul,Nat.zero_add];exact hj⟩
theorem CS {α:Type}{sz:Nat}{R:View->Value->α->Prop}{V:View}{vs:List Value}{ls:List α}(h:Row sz R V vs ls){k:Nat}(hk:k<=ls.length){xs sp:List Value}{a:α}(hx:xs.length=sz)(ha:R V (.agg xs.toArray) a)(hs:0<sz) :
  Row sz R V (vs.take (k*sz)++(xs++(vs.take (ls.length*sz)).drop (k*sz))++sp) (ls.take k++a::ls.drop k):=by
 have hl:=h.je hs
 have hks:k*sz<=ls.length*sz:=Nat.mul_le_mul_right _ hk
 have t1:(vs.take (k*sz)).length=k*sz:=by rw [List.length_take];omega
 have t2:((vs.take (ls.length*sz)).drop (k*sz)).length=ls.length*sz-k*sz:=by rw [List.length_drop,List.length_take];omega
 have a1:(ls.take k).length=k:=by rw [List.length_take];omega
 refine ⟨fun i hi=>?_⟩
 rw [List.append_assoc]
 by_cases c1:i<k
 ·have hi':i<ls.length:=by omega
  obtain ⟨ys,y1,y2,y3⟩:=h.at_ i hi'
  have e:(ls.take k++a::ls.drop k)[i]=ls[i]:=by rw [List.getElem_append_left (by omega),List.getElem_take]
  refine ⟨ys,y1,by rw [e];exact y2,fun j x hj=>?_⟩
  have hj':=(List.getElem?_eq_some_iff.1 hj).1
  have hlt:i*sz+j<k*sz:=by
   have:(i+1)*sz<=k*sz:=Nat.mul_le_mul_right _ c1
   rw [Nat.succ_mul] at this
   omega
  rw [List.getElem?_append_left (by omega),List.getElem?_take,if_pos hlt]
  exact y3 j x hj
 ·by_cases c2:i=k
  ·subst c2
   have e:(ls.take i++a::ls.drop i)[i]=a:=by
    rw [List.getElem_append_right (by omega)]
    simp [a1]
   refine ⟨xs,hx,by rw [e];exact ha,fun j x hj=>?_⟩
   have hj':=(List.getElem?_eq_some_iff.1 hj).1
   rw [List.getElem?_append_right (by omega),t1,Nat.add_sub_cancel_left,List.append_assoc,List.getElem?_append_left hj']
   exact hj
  ·have hi':i-1<ls.length:=by
    rw [List.length_append,a1,List.length_cons,List.length_drop] at hi
    omega
   obtain ⟨ys,y1,y2,y3⟩:=h.at_ (i-1) hi'
   have e:(ls.take k++a::ls.drop k)[i]=ls[i-1]:=by
    rw [List.getElem_append_right (by omega)]
    obtain ⟨m,hm⟩:∃m,i=k+(m+1):=⟨i-k-1,by omega⟩
    subst hm
    simp only [a1,Nat.add_sub_cancel_left,List.getElem_cons_succ,List.getElem_drop]
    congr 1
   refine ⟨ys,y1,by rw [e];exact y2,fun j x hj=>?_⟩
   have hj':=(List.getElem?_eq_some_iff.1 hj).1
   obtain ⟨m,hm⟩:∃m,i=k+1+m:=⟨i-k-1,by omega⟩
   subst hm
   have e1:(k+1+m)*sz=k*sz+sz+m*sz:=by rw [Nat.add_mul,Nat.add_mul,Nat.one_mul]
   have e2:(k+1+m-1)*sz=k*sz+m*sz:=by rw [show k+1+m-1=k+m by omega,Nat.add_mul]
   have:=y3 j x hj
   rw [e2] at this
   have hlt:k*sz+m*sz+j<ls.length*sz:=by
    have:(k+m+1)*sz<=ls.length*sz:=Nat.mul_le_mul_right _ (by omega)
    rw [Nat.add_mul,Nat.add_mul,Nat.one_mul] at this
    omega
   rw [List.getElem?_append_right (by omega),t1,List.append_assoc,List.getElem?_append_right (by omega),hx,List.getElem?_append_left (by omega),List.getElem?_drop,List.getElem?_take,if_pos (by omega)]
   rw [show k*sz+((k+1+m)*sz+j-k*sz-sz)=k*sz+m*sz+j by omega]
   exact this
theorem mN {α:Type}{sz:Nat}{R:View->Value->α->Prop}{V:View}{vs xs sp:List Value}{ls ms:List α}(h:Row sz R V vs ls)(h':Row sz R V xs ms)(hs:0<sz):Row sz R V (vs.take (ls.length*sz)++xs++sp) (ls++ms):=by
 have hl:=h.je hs
 have hl':=h'.je hs
 have ht:(vs.take (ls.length*sz)).length=ls.length*sz:=by rw [List.length_take];omega
 refine ⟨fun i hi=>?_⟩
 by_cases c:i<ls.length
 ·obtain ⟨ys,y1,y2,y3⟩:=h.at_ i c
  refine ⟨ys,y1,by rw [List.getElem_append_left c];exact y2,fun j x hj=>?_⟩
  have hj':=(List.getElem?_eq_some_iff.1 hj).1
  have hlt:i*sz+j<ls.length*sz:=by
   have:(i+1)*sz<=ls.length*sz:=Nat.mul_le_mul_right _ c
   rw [Nat.succ_mul] at this
   omega
  rw [List.append_assoc,List.getElem?_append_left (by omega),List.getElem?_take,if_pos hlt]
  exact y3 j x hj
 ·rw [List.length_append] at hi
  obtain ⟨m,rfl⟩:∃m,i=ls.length+m:=⟨i-ls.length,by omega⟩
  have hm:m<ms.length:=by omega
  obtain ⟨ys,y1,y2,y3⟩:=h'.at_ m hm
  refine ⟨ys,y1,?_,fun j x hj=>?_⟩
  ·have e:(ls++ms)[ls.length+m]=ms[m]:=by rw [List.getElem_append_right (by omega)];simp
   rw [e];exact y2
  ·have hj':=(List.getElem?_eq_some_iff.1 hj).1
   have hlt:m*sz+j<xs.length:=by
    have:(m+1)*sz<=ms.length*sz:=Nat.mul_le_mul_right _ hm
    rw [Nat.succ_mul] at this
    omega
   rw [List.append_assoc,List.getElem?_append_right (by rw [ht,Nat.add_mul];omega),ht,Nat.add_mul,List.getElem?_append_left (by omega)]
   rw [show ls.length*sz+m*sz+j-ls.length*sz=m*sz+j by omega]
   exact y3 j x hj
theorem yD {α:Type}{sz:Nat}{R:View->Value->α->Prop}{V:View}{vs:List Value}{al:List α}(h:Row sz R V vs al)(hs:0<sz)(hc:∀xs a,R V (.agg (List.toArray xs)) a->∀v∈xs,v.oneCell'=true){m:Nat}(hm:m<al.length*sz){v:Value}(hv:vs[m]?=some v):v.oneCell'=true:=by
 have hi:m / sz<al.length:=Nat.div_lt_of_lt_mul (by rw [Nat.mul_comm];exact hm)
 obtain ⟨xs,hl,hx,hat⟩:=h.at_ (m / sz) hi
 have hlt:m%sz<xs.length:=by rw [hl];exact Nat.mod_lt _ hs
 have e3:m=m / sz*sz+m%sz:=by rw [Nat.mul_comm];exact (Nat.div_add_mod m sz).symm
 have:=hat (m%sz) _ (List.getElem?_eq_getElem hlt)
 rw [←e3,hv] at this
 obtain rfl:=Option.some.inj this
 exact hc xs _ hx _ (List.getElem_mem hlt)
theorem km:Sz 2 (((2:Int):Rat)):=⟨by show (2:Int).natAbs<_;decide,by show (1:Nat)<_;decide⟩
theorem fV:Sz 2 (((1:Int):Rat)):=⟨by show (1:Int).natAbs<_;decide,by show (1:Nat)<_;decide⟩
theorem B7 {V:View}{v:Value}{x:Rat}(h:RQ V v x){k:Nat}(sx:Sz k x)(hk:k+2<274877906944) :
  ab prog 97 #[v] V fun r V'=>RQ V' r (x*((2:Int):Rat)⁻¹):=by
 have h0:=h
 obtain ⟨_,_,_,_,_,_,rfl⟩:=h.shape
 refine Br _ _ _ _ _ _ _ V _ fun V1 l1=>(ic 2 (by decide) (by decide)).mono ?_
 rintro r V2 l2 g
 have g0:=g
 obtain ⟨_,_,_,_,_,_,rfl⟩:=g.shape
 refine ⟨_,_,_,_,_,_,_,rfl,fun V3 l3=>(B8 (h0.le (l1.trans (l2.trans l3))) (g0.le l3) (by show (2:Int)≠0;decide) sx km hk).mono ?_⟩
 rintro r V4 l4 q
 have q0:=q
 obtain ⟨_,_,_,_,_,_,rfl⟩:=q.shape
 exact ⟨_,_,_,_,_,_,_,rfl,fun V5 l5=>q0.le l5⟩
theorem wH {V:View}{v w:Value}{x y:Rat}(h:RQ V v x)(h':RQ V w y){k:Nat}(sx:Sz k x)(sy:Sz k y)(hk:4*k+4<274877906944) :
  ab prog 55 #[v,w] V fun r V'=>RQ V' r ((x+y)*((2:Int):Rat)⁻¹):=by
 have h0:=h
 have h0':=h'
 obtain ⟨_,_,_,_,_,_,rfl⟩:=h.shape
 obtain ⟨_,_,_,_,_,_,rfl⟩:=h'.shape
 refine Db _ _ _ _ _ _ _ _ _ _ _ _ _ _ V _ fun V1 l1=>(cW (h0.le l1) (h0'.le l1) sx sy (by omega)).mono ?_
 rintro r V2 l2 g
 have g0:=g
 obtain ⟨_,_,_,_,_,_,rfl⟩:=g.shape
 refine ⟨_,_,_,_,_,_,_,rfl,fun V3 l3=>(B7 (g0.le l3) (sx.add sy) (by omega)).mono ?_⟩
 rintro r V4 l4 q
 have q0:=q
 obtain ⟨_,_,_,_,_,_,rfl⟩:=q.shape
 exact ⟨_,_,_,_,_,_,_,rfl,fun V5 l5=>q0.le l5⟩
theorem D9 {s:Sp}{k:Nat}(ss:s.sz k):Sz (2*k+10) s.bq:=by
 have z:Sz (2*k+10) (0:Rat):=⟨by show (0:Int).natAbs<_;exact Nat.lt_of_lt_of_le (by decide) (Nat.one_le_two_pow),Nat.one_lt_two_pow (by omega)⟩
 unfold Sp.bq
 split
 ·split
  ·exact z
  ·exact (ss.2.sub fV).mono (by omega)
 ·split
  ·exact (ss.1.add fV).mono (by omega)
  ·exact ((ss.1.add ss.2).mul (dI km)).mono (by omega)
theorem Lk.raw {V:View}{v:Value}{l:L3}{s:Sp}(h:Lk V v l s)(ho:S4 l s){k:Nat}(sl:lA k l)(ss:s.sz k)(hk:k<=1000000):∃f:FW,Oc V v f/\f.ok=true/\f.ln=l/\f.sp=s/\f.short:=by
 obtain ⟨b1,p1,n1,c1,b2,p2,n2,c2,b3,p3,n3,c3,b,p,n,c,p',n',c',d,q,m,e,q',m',e',rfl,h1,h2⟩:=h
 obtain ⟨_,_,_,_,_,_,_,_,_,el,x1,x2,x3⟩:=h1
 have el:=congrArg Array.toList (Value.agg.inj el)
 simp only [List.cons.injEq,Value.bool.injEq,Value.slice.injEq,and_true] at el
 obtain ⟨rfl,⟨rfl,rfl,rfl⟩,rfl,⟨rfl,rfl,rfl⟩,rfl,rfl,rfl,rfl⟩:=el
 obtain ⟨_,_,_,_,_,_,_,_,_,_,_,_,_,_,es,y1,y2⟩:=h2
 have es:=congrArg Array.toList (Value.agg.inj es)
 simp only [List.cons.injEq,Value.bool.injEq,Value.slice.injEq,and_true] at es
 obtain ⟨rfl,⟨rfl,rfl,rfl⟩,⟨rfl,rfl,rfl⟩,rfl,⟨rfl,rfl,rfl⟩,⟨rfl,rfl,rfl⟩⟩:=es
 obtain ⟨ok,can,emp⟩:=ho
 obtain ⟨w1,us,vs,r1,o1,e1,z1⟩:=y1.raw can.1
 obtain ⟨w2,ws,ts,r2,o2,e2,z2⟩:=y2.raw can.2
 have i1:=r1
 have i2:=r2
 obtain ⟨_,_,_,_,_,_,f1,-,-⟩:=i1
 obtain ⟨_,_,_,_,_,_,f2,-,-⟩:=i2
 have f1:=congrArg Array.toList (Value.agg.inj f1)
 have f2:=congrArg Array.toList (Value.agg.inj f2)
 simp only [List.cons.injEq,Value.bool.injEq,Value.slice.injEq,and_true] at f1 f2
 obtain ⟨rfl,-⟩:=f1
 obtain ⟨rfl,-⟩:=f2
 have len:∀{z:Int},Sz k (z:Rat)->(ah z.natAbs).length<=1000000:=fun h=>Nat.le_trans (af h.1) hk
 have d1:=z1 k ss.1
 have d2:=z2 k ss.2
 refine ⟨⟨decide (l.1<0),ah l.1.natAbs,decide (l.2.1<0),ah l.2.1.natAbs,decide (l.2.2<0),ah l.2.2.natAbs,b,us,vs,d,ws,ts,s.a,s.b⟩,⟨_,_,_,_,_,_,_,_,_,_,_,_,_,_,_,_,_,_,_,_,_,rfl,⟨_,_,_,_,_,_,_,_,_,rfl,x1,x2,x3⟩,⟨_,_,_,_,_,_,_,_,_,_,_,_,rfl,r1,r2⟩⟩,?_,?_,?_,⟨len sl.1,len sl.2.1,len sl.2.2,Nat.le_trans d1.1 hk,Nat.le_trans d1.2 hk,Nat.le_trans d2.1 hk,Nat.le_trans d2.2 hk⟩⟩
 ·have e3:NJ b us vs d ws ts s.a s.b=s:=by unfold NJ;rw [e1,e2]
  unfold FW.ok okW
  dsimp only
  rw [AF,o1,o2,e3,emp]
  show dV l&&true=true
  rw [ok];rfl
 ·unfold FW.ln SI
  dsimp only
  rw [aF,aF,aF]
 ·unfold FW.sp NJ
  dsimp only
  rw [e1,e2]
theorem yd {c:List Rat}{i:Nat}(h:i<c.length):c.getD i 0=c[i]:=by rw [List.getD_eq_getElem?_getD,List.getElem?_eq_getElem h];rfl
def gM (cuts:List Rat)(i:Nat):Sp:=⟨if 0<i then cuts.getD (i-1) 0 else 0,if i<cuts.length then cuts.getD i 0 else 0,decide (i=0),decide (i=cuts.length)⟩
def GJ (out:List Sp)(s:Sp):List Sp:=out.dropLast++[⟨(out.getLastD Sp.zero).lo,s.hi,(out.getLastD Sp.zero).a,s.b⟩]
def fo (cuts:List Rat)(marks:List Bool):Nat->List Sp
 | 0=>[]
 | i+1=>if marks.getD i false=true then (if 0<i/\marks.getD (i-1) false=true/\0<(fo cuts marks i).length then GJ (fo cuts marks i) (gM cuts i) else fo cuts marks i++[gM cuts i]) else fo cuts marks i
end Go.Proofs.Tryz
namespace Go.Proofs.Tryz
open Go.bw Go.eN
set_option linter.unusedSectionVars false
def mc (c:List Rat):Prop:=c.Pairwise (·< ·)
section
variable {c:List Rat} (h:mc c)
include h
theorem xG {i j:Nat}(Kv:i<j)(hj:j<c.length):c.getD i 0<c.getD j 0:=by
 rw [yd (by omega),yd hj]
 exact List.pairwise_iff_getElem.1 h i j (by omega) hj Kv
omit h
include h
theorem Gd {i:Nat}(hi:i<=c.length):(gM c i).pf:=by
 refine ⟨⟨fun e=>?_,fun e=>?_⟩,Sp.nG.2 ?_⟩
 ·have e:i=0:=of_decide_eq_true e
  subst e;rfl
 ·have e:i=c.length:=of_decide_eq_true e
  subst e
  exact if_neg (Nat.lt_irrefl _)
 ·by_cases h0:i=0
  ·exact .inl (decide_eq_true h0)
  ·by_cases h1:i=c.length
   ·exact .inr (.inl (decide_eq_true h1))
   ·refine .inr (.inr ?_)
    show (if 0<i then c.getD (i-1) 0 else 0)<(if i<c.length then c.getD i 0 else 0)
    rw [if_pos (by omega),if_pos (by omega)]
    exact xG h (by omega) (by omega)
omit h
end
section
variable {c:List Rat} {ms:List Bool}
structure FI (c:List Rat) (ms:List Bool) (i:Nat):Prop where
 r:Fz (fo c ms i)
 mem:∀t,t∉c->(EX (fo c ms i) t↔∃j,j<i/\ms.getD j false=true/\(gM c j).oG t)
 top:0<i->i<=c.length->∀s∈fo c ms i,s.b=false/\s.hi<=c.getD (i-1) 0
 str:0<i->i<=c.length->ms.getD (i-1) false=false->∀s∈fo c ms i,s.hi<c.getD (i-1) 0
 last:0<i->i<=c.length->ms.getD (i-1) false=true->∃l0 l,fo c ms i=l0++[l]/\l.hi=c.getD (i-1) 0
theorem po {ss:List Sp}{s:Sp}{t:Rat}:EX (ss++[s]) t↔EX ss t\/s.oG t:=by
 unfold EX
 constructor
 ·rintro ⟨x,hx,hi⟩
  rcases List.mem_append.1 hx with hx|hx
  ·exact .inl ⟨x,hx,hi⟩
  ·obtain rfl:x=s:=by simpa using hx
   exact .inr hi
 ·rintro (⟨x,hx,hi⟩|hi)
  ·exact ⟨x,by simp [hx],hi⟩
  ·exact ⟨s,by simp,hi⟩
theorem AW {ss:List Sp}{s:Sp}(h:Fz ss)(hs:s.pf)(hb:∀x∈ss,x.Lm s):Fz (ss++[s]):=by
 refine ⟨fun x hx=>?_,List.pairwise_append.2 ⟨h.2,by simp,fun x hx y hy=>?_⟩⟩
 ·rcases List.mem_append.1 hx with hx|hx
  ·exact h.1 x hx
  ·obtain rfl:x=s:=by simpa using hx
   exact hs
 ·obtain rfl:y=s:=by simpa using hy
  exact hb x hx
theorem Hu {ss:List Sp}{s:Sp}(h:Fz (ss++[s])):Fz ss/\s.pf/\∀x∈ss,x.Lm s:=by
 obtain ⟨h1,-,h3⟩:=List.pairwise_append.1 h.2
 exact ⟨⟨fun x hx=>h.1 x (by simp [hx]),h1⟩,h.1 s (by simp),fun x hx=>h3 x hx s (by simp)⟩
theorem x_ {P:Nat->Prop}{i:Nat}:(∃j,j<i+1/\P j)↔(∃j,j<i/\P j)\/P i:=by
 constructor
 ·rintro ⟨j,hj,hp⟩
  rcases Nat.lt_or_ge j i with h|h
  ·exact .inl ⟨j,h,hp⟩
  ·obtain rfl:j=i:=by omega
   exact .inr hp
 ·rintro (⟨j,hj,hp⟩|hp)
  ·exact ⟨j,by omega,hp⟩
  ·exact ⟨i,by omega,hp⟩
theorem Iu (h:mc c){i:Nat}(hi:i<=c.length)(F:FI c ms i):FI c ms (i+1):=by
 have hg:=Gd h hi
 have Oo:i<c.length->(gM c i).hi=c.getD i 0:=fun h0=>if_pos h0
 have Oq:0<i->(gM c i).lo=c.getD (i-1) 0:=fun h0=>if_pos h0
 have ga:0<i->(gM c i).a=false:=fun h0=>decide_eq_false (by omega)
 have gb:i<c.length->(gM c i).b=false:=fun h0=>decide_eq_false (by omega)
 by_cases hm:ms.getD i false=true
 ·have hne:¬ms.getD i false=false:=by rw [hm];decide
  by_cases h0:0<i/\ms.getD (i-1) false=true
  ·obtain ⟨l0,l,el,hl⟩:=F.last h0.1 hi h0.2
   have e:fo c ms (i+1)=l0++[⟨l.lo,(gM c i).hi,l.a,(gM c i).b⟩]:=by
    rw [fo,if_pos hm,if_pos ⟨h0.1,h0.2,by rw [el];simp⟩,el]
    simp [GJ]
   have F1:=F.r
   rw [el] at F1
   obtain ⟨f1,f2,f3⟩:=Hu F1
   have hlb:l.b=false:=(F.top h0.1 hi l (by rw [el];simp)).1
   have hgood:(⟨l.lo,(gM c i).hi,l.a,(gM c i).b⟩:Sp).pf:=by
    refine ⟨⟨f2.1.1,hg.1.2⟩,Sp.nG.2 ?_⟩
    dsimp only
    cases ha:l.a with
    | true=>exact .inl rfl
    | false=>
     cases hb:(gM c i).b with
     | true=>exact .inr (.inl rfl)
     | false=>
      have h1:=Au f2.2 ha hlb
      have h2:=Au hg.2 (ga h0.1) hb
      rw [Oq h0.1] at h2
      exact .inr (.inr (by grind))
   refine ⟨?_,fun t ht=>?_,fun _ hi1 s hs=>?_,fun _ hi1 hx=>?_,fun _ hi1 _=>?_⟩
   ·rw [e]
    exact AW f1 hgood fun x hx=>⟨(f3 x hx).1,(f3 x hx).2.1,(f3 x hx).2.2⟩
   ·rw [e,x_,←F.mem t ht,po,el,po,or_assoc]
    refine or_congr Iff.rfl ?_
    have hk:(gM c i).oG t↔c.getD (i-1) 0<t/\((gM c i).b=true\/t<(gM c i).hi):=by
     unfold Sp.oG;rw [ga h0.1,Oq h0.1];simp
    have hne':t≠c.getD (i-1) 0:=by
     rintro rfl
     rw [yd (by omega)] at ht
     exact ht (List.getElem_mem _)
    rw [hk]
    show (l.a=true\/l.lo<t)/\((gM c i).b=true\/t<(gM c i).hi)↔((l.a=true\/l.lo<t)/\(l.b=true\/t<l.hi))\/_
    rw [hl,hlb]
    have h1:l.a=true\/l.lo<c.getD (i-1) 0:=by
     cases ha:l.a with
     | true=>exact .inl rfl
     | false=>have:=Au f2.2 ha hlb;rw [hl] at this;exact .inr this
    have h2:(gM c i).b=true\/c.getD (i-1) 0<(gM c i).hi:=by
     cases hb:(gM c i).b with
     | true=>exact .inl rfl
     | false=>have:=Au hg.2 (ga h0.1) hb;rw [Oq h0.1] at this;exact .inr this
    constructor
    ·rintro ⟨g1,g2⟩
     by_cases g:t<c.getD (i-1) 0
     ·exact .inl ⟨g1,.inr g⟩
     ·exact .inr ⟨hm,by grind,g2⟩
    ·rintro (⟨g1,g2⟩|⟨-,g1,g2⟩)
     ·have g3:t<c.getD (i-1) 0:=by
       rcases g2 with g2|g2
       ·cases g2
       ·exact g2
      exact ⟨g1,h2.imp_right fun h2=>by grind⟩
     ·exact ⟨h1.imp_right fun h1=>by grind,g2⟩
   ·rw [e] at hs
    rw [Nat.add_sub_cancel]
    rcases List.mem_append.1 hs with hs|hs
    ·have b:=f3 s hs
     refine ⟨b.1,?_⟩
     have h1:l.lo<c.getD (i-1) 0:=by have:=Au f2.2 b.2.1 hlb;rwa [hl] at this
     have h2:=xG h (show i-1<i by omega) hi1
     have:=b.2.2
     grind
    ·obtain rfl:s=_:=by simpa using hs
     refine ⟨gb hi1,?_⟩
     show (gM c i).hi<=_
     rw [Oo hi1];grind
   ·rw [Nat.add_sub_cancel] at hx;exact absurd hx hne
   ·rw [Nat.add_sub_cancel]
    exact ⟨l0,_,e,Oo hi1⟩
  ·have e:fo c ms (i+1)=fo c ms i++[gM c i]:=by
    rw [fo,if_pos hm,if_neg (fun g=>h0 ⟨g.1,g.2.1⟩)]
   have hb:∀x∈fo c ms i,x.Lm (gM c i):=fun x hx=>by
    by_cases hz:0<i
    ·have UB:ms.getD (i-1) false=false:=by
      cases hq:ms.getD (i-1) false with
      | false=>rfl
      | true=>exact absurd ⟨hz,hq⟩ h0
     exact ⟨(F.top hz hi x hx).1,ga hz,by rw [Oq hz];exact F.str hz hi UB x hx⟩
    ·obtain rfl:i=0:=by omega
     cases hx
   refine ⟨?_,fun t ht=>?_,fun _ hi1 s hs=>?_,fun _ hi1 hx=>?_,fun _ hi1 _=>?_⟩
   ·rw [e];exact AW F.r hg hb
   ·rw [e,x_,←F.mem t ht,po]
    exact or_congr Iff.rfl ⟨fun g=>⟨hm,g⟩,fun g=>g.2⟩
   ·rw [e] at hs
    rw [Nat.add_sub_cancel]
    rcases List.mem_append.1 hs with hs|hs
    ·refine ⟨(hb s hs).1,?_⟩
     by_cases hz:0<i
     ·have h1:=(F.top hz hi s hs).2
      have h2:=xG h (show i-1<i by omega) hi1
      grind
     ·obtain rfl:i=0:=by omega
      cases hs
    ·obtain rfl:s=_:=by simpa using hs
     refine ⟨gb hi1,?_⟩
     rw [Oo hi1];grind
   ·rw [Nat.add_sub_cancel] at hx;exact absurd hx hne
   ·rw [Nat.add_sub_cancel]
    exact ⟨_,_,e,Oo hi1⟩
 ·have e:fo c ms (i+1)=fo c ms i:=by rw [fo,if_neg hm]
  have hlt:i<c.length->∀s∈fo c ms i,s.b=false/\s.hi<c.getD i 0:=fun hi1 s hs=>by
   by_cases hz:0<i
   ·obtain ⟨h1,h2⟩:=F.top hz hi s hs
    have h3:=xG h (show i-1<i by omega) hi1
    exact ⟨h1,by grind⟩
   ·obtain rfl:i=0:=by omega
    cases hs
  refine ⟨by rw [e];exact F.r,fun t ht=>?_,fun _ hi1 s hs=>?_,fun _ hi1 hx s hs=>?_,fun _ hi1 hx=>?_⟩
  ·rw [e,x_,F.mem t ht]
   exact ⟨.inl,fun g=>g.elim id fun g=>absurd g.1 hm⟩
  ·rw [e] at hs
   rw [Nat.add_sub_cancel]
   obtain ⟨h1,h2⟩:=hlt hi1 s hs
   exact ⟨h1,by grind⟩
  ·rw [e] at hs
   rw [Nat.add_sub_cancel]
   exact (hlt hi1 s hs).2
  ·rw [Nat.add_sub_cancel] at hx;exact absurd hx hm
theorem fi (h:mc c):∀{i:Nat},i<=c.length+1->FI c ms i:=by
 intro i
 induction i with
 | zero=>exact fun _=>⟨⟨(fun _ h=>by cases h),List.Pairwise.nil⟩,(fun t _=>⟨(fun ⟨_,h,_⟩=>by cases h),(fun ⟨_,h,_⟩=>absurd h (Nat.not_lt_zero _))⟩),(fun h=>absurd h (Nat.lt_irrefl _)),(fun h=>absurd h (Nat.lt_irrefl _)),(fun h=>absurd h (Nat.lt_irrefl _))⟩
 | succ i ih=>exact fun hi=>Iu h (by omega) (ih (by omega))
end
end Go.Proofs.Tryz
namespace Go.Proofs.Tryz
open Go.bw Go.eN
theorem Ay {s u:Sp}{t:Rat}:(s.meet u).oG t↔s.oG t/\u.oG t:=by
 have h1:Cy s.lo u.lo<t↔s.lo<t/\u.lo<t:=by
  unfold Cy
  rcases rf u.lo s.lo with ⟨h,e⟩|⟨h,e⟩|⟨h,e⟩<;>rw [e]<;>simp<;>grind
 have h2:t<kC s.hi u.hi↔t<s.hi/\t<u.hi:=by
  unfold kC
  rcases rf u.hi s.hi with ⟨h,e⟩|⟨h,e⟩|⟨h,e⟩<;>rw [e]<;>simp<;>grind
 unfold Sp.oG Sp.meet
 cases s.a<;>cases s.b<;>cases u.a<;>cases u.b<;>simp [h1,h2]<;>grind
theorem xH {l:L3}(h:Nz l)(t:Rat):ar l (fB l t) (fC l t)=0/\Hi l (fB l t) (fC l t)=t:=by
 have hn:=h.norm
 have hi:=Rat.mul_inv_cancel _ hn
 unfold ar Hi fB fC
 unfold iW at *
 constructor<;>grind
theorem HT {l m:L3}(h:bu l m≠0):ar l (EV l m) (EW l m)=0/\ar m (EV l m) (EW l m)=0:=by
 have hi:=Rat.mul_inv_cancel _ h
 unfold ar EV EW
 constructor
 ·have e:(l.1:Rat)*(((l.2.1:Rat)*(m.2.2:Rat)-(l.2.2:Rat)*(m.2.1:Rat))*(bu l m)⁻¹)+(l.2.1:Rat)*(((l.2.2:Rat)*(m.1:Rat)-(l.1:Rat)*(m.2.2:Rat))*(bu l m)⁻¹)+(l.2.2:Rat)=(l.2.2:Rat)*(1-bu l m*(bu l m)⁻¹):=by
   generalize hc:(bu l m)⁻¹=c
   unfold bu
   grind
  rw [e,hi];grind
 ·have e:(m.1:Rat)*(((l.2.1:Rat)*(m.2.2:Rat)-(l.2.2:Rat)*(m.2.1:Rat))*(bu l m)⁻¹)+(m.2.1:Rat)*(((l.2.2:Rat)*(m.1:Rat)-(l.1:Rat)*(m.2.2:Rat))*(bu l m)⁻¹)+(m.2.2:Rat)=(m.2.2:Rat)*(1-bu l m*(bu l m)⁻¹):=by
   generalize hc:(bu l m)⁻¹=c
   unfold bu
   grind
  rw [e,hi];grind
theorem Dz (l:L3):kA (kA l)=kA l:=by
 unfold kA
 by_cases h:l.1<0\/l.1=0/\l.2.1<0
 ·rw [if_pos h,if_neg]
  unfold iw
  dsimp only
  omega
 ·rw [if_neg h,if_neg h]
theorem G8 {l:L3}(h:dV l=true):dV (kA l)=true:=by
 unfold kA
 split
 ·unfold dV iw gf at *
  simp only [Int.natAbs_neg]
  rw [Bool.and_eq_true,decide_eq_true_iff,decide_eq_true_iff] at h ⊢
  exact ⟨fun e=>h.1 ⟨by omega,by omega⟩,h.2⟩
 ·exact h
theorem qe {l:L3}(h:dV l=true):¬(l.1=0/\l.2.1=0):=by
 unfold dV at h
 rw [Bool.and_eq_true,decide_eq_true_iff] at h
 exact h.1
theorem xZ {s:Sp}:s.emp=false↔∃t,s.oG t:=by
 constructor
 ·intro h
  obtain ⟨h1,h2⟩:=Sp.D1 h
  refine ⟨s.bq,?_,?_⟩
  ·cases ha:s.a
   ·exact .inr (h1 ha)
   ·exact .inl rfl
  ·cases hb:s.b
   ·exact .inr (h2 hb)
   ·exact .inl rfl
 ·rintro ⟨t,h1,h2⟩
  rw [Sp.nG]
  rcases h1 with h1|h1
  ·exact .inl h1
  ·rcases h2 with h2|h2
   ·exact .inr (.inl h2)
   ·exact .inr (.inr (by grind))
theorem nD {l:L3}{s:Sp}{m:L3} :
  (fk l s m=true->∀t,(fl l s m).oG t↔s.oG t/\0<ar m (fB l t) (fC l t))/\(s.emp=false->fk l s m=false->∀t,s.oG t->¬0<ar m (fB l t) (fC l t)):=by
 have key:ig m l≠0->∀t,(fl l s m).oG t↔s.oG t/\0<kG m l+ig m l*t:=fun hd t=>by
  have hi:=Rat.mul_inv_cancel _ hd
  unfold fl
  rcases rB (ig m l) with ⟨h,e⟩|⟨h,e⟩|⟨h,e⟩
  ·exact absurd h hd
  ·rw [e]
   show (s.meet ⟨gk m l,0,false,true⟩).oG t↔_
   rw [Ay]
   have e2:ig m l*(t-gk m l)=kG m l+ig m l*t:=by unfold gk;grind
   have:(⟨gk m l,0,false,true⟩:Sp).oG t↔gk m l<t:=by unfold Sp.oG;simp
   rw [this,←e2]
   refine and_congr_right fun _=>⟨fun h'=>Rat.mul_pos h (by grind),fun h'=>?_⟩
   by_cases c:gk m l<t
   ·exact c
   ·have:=Rat.mul_nonneg (show 0<=ig m l by grind) (show 0<=gk m l-t by grind)
    grind
  ·rw [e]
   show (s.meet ⟨0,gk m l,true,false⟩).oG t↔_
   rw [Ay]
   have e2:-ig m l*(gk m l-t)=kG m l+ig m l*t:=by unfold gk;grind
   have:(⟨0,gk m l,true,false⟩:Sp).oG t↔t<gk m l:=by unfold Sp.oG;simp
   rw [this,←e2]
   refine and_congr_right fun _=>⟨fun h'=>Rat.mul_pos (by grind) (by grind),fun h'=>?_⟩
   by_cases c:t<gk m l
   ·exact c
   ·have:=Rat.mul_nonneg (show 0<=-ig m l by grind) (show 0<=t-gk m l by grind)
    grind
 by_cases hd:ig m l=0
 ·have ec:fl l s m=s:=by unfold fl;rw [hd];rfl
  have eb:fk l s m=decide ((kG m l).num.sign>0):=by unfold fk;rw [hd];rfl
  constructor
  ·intro hb t
   rw [ec,yL,hd]
   rw [eb] at hb
   have hb:(kG m l).num.sign>0:=by simpa using hb
   have:0<kG m l:=by
    rcases rB (kG m l) with ⟨h,e⟩|⟨h,e⟩|⟨h,e⟩
    ·omega
    ·exact h
    ·omega
   exact ⟨fun h=>⟨h,by grind⟩,fun h=>h.1⟩
  ·intro _ hb t _ hp
   rw [yL,hd] at hp
   rw [eb] at hb
   have hb:¬(kG m l).num.sign>0:=by simpa using hb
   rcases rB (kG m l) with ⟨h,e⟩|⟨h,e⟩|⟨h,e⟩
   ·grind
   ·omega
   ·grind
 ·have eb:fk l s m=!(fl l s m).emp:=by
   unfold fk
   rcases rB (ig m l) with ⟨h,e⟩|⟨h,e⟩|⟨h,e⟩
   ·exact absurd h hd
   ·rw [e];rfl
   ·rw [e];rfl
  constructor
  ·intro _ t
   rw [yL];exact key hd t
  ·intro _ hb t ht hp
   rw [yL] at hp
   rw [eb] at hb
   have:=xZ.2 ⟨t,(key hd t).2 ⟨ht,hp⟩⟩
   rw [this] at hb;cases hb
theorem sD {l:L3}{s:Sp}{m:L3}(hs:s.pf)(hb:fk l s m=true):(fl l s m).pf:=⟨F4 hs.1,F3 hs.2 hb⟩
abbrev Sd:=L3×Sp
def cP:List Sd->L3->Sp->Option Sp
 | [],_,v=>some v
 | s::c,l,v=>if fk l v s.1 then cP c l (fl l v s.1) else none
theorem xg:∀{c:List Sd} {l:L3} {v w:Sp},v.pf->cP c l v=some w->w.pf/\∀t,w.oG t↔v.oG t/\∀s∈c,0<ar s.1 (fB l t) (fC l t)
 | [],_,v,w,h,e=>by cases e;exact ⟨h,fun t=>⟨fun g=>⟨g,fun s hs=>by cases hs⟩,fun g=>g.1⟩⟩
 | s::c,l,v,w,h,e=>by
  unfold cP at e
  split at e
  ·rename_i hb
   obtain ⟨g1,g2⟩:=xg (sD h hb) e
   refine ⟨g1,fun t=>?_⟩
   rw [g2,(nD.1 hb t)]
   simp only [List.forall_mem_cons,and_assoc]
  ·cases e
theorem xf:∀{c:List Sd} {l:L3} {v:Sp},v.pf->cP c l v=none->∀t,v.oG t->¬∀s∈c,0<ar s.1 (fB l t) (fC l t)
 | [],_,v,h,e=>by cases e
 | s::c,l,v,h,e=>by
  intro t ht hall
  unfold cP at e
  split at e
  ·rename_i hb
   exact xf (sD h hb) e t ((nD.1 hb t).2 ⟨ht,hall s (List.mem_cons_self ..)⟩) fun u hu=>hall u (List.mem_cons_of_mem _ hu)
  ·rename_i hb
   exact nD.2 h.2 (by simpa using hb) t ht (hall s (List.mem_cons_self ..))
theorem sk (l:L3):kA l=l\/kA l=iw l:=by unfold kA;split;exact .inr rfl;exact .inl rfl
theorem rev_rev (l:L3):iw (iw l)=l:=by unfold iw;simp
theorem DF (l:L3):aq.ax (iw l)=(-(aq.ax l).1,-(aq.ax l).2):=by unfold aq.ax iw;simp only [Rat.intCast_neg]
theorem CD {l:L3}(h:dV l=true):(aq.ax l).1≠0\/(aq.ax l).2≠0:=by
 have:=qe h
 unfold aq.ax
 by_cases e:l.2.1=0
 ·right;intro e'
  have:(l.1:Rat)=0:=by grind
  exact qe h ⟨by exact_mod_cast this,e⟩
 ·left;show (l.2.1:Rat)≠0;exact_mod_cast e
theorem JU {l m:L3}(ol:dV l=true)(om:dV m=true){p:aq.V2}(h1:ar l p.1 p.2=0)(h2:ar m p.1 p.2=0)(hc:aq.cr (aq.ax l) (aq.ax m)=0):l=m\/l=iw m:=by
 have vz:∀{x:L3},ar x p.1 p.2=0->ar (kA x) p.1 p.2=0:=fun {x} h=>by
  rcases sk x with e|e<;>rw [e]
  ·exact h
  ·rw [val_rev];grind
 have c0:aq.cr (aq.ax (kA l)) (aq.ax (kA m))=0:=by
  unfold aq.cr at *
  rcases sk l with e|e<;>rcases sk m with e'|e'<;>rw [e,e']<;>(try rw [DF l])<;>(try rw [DF m])<;>(try dsimp only)<;>grind
 have:=aq.Fe (G8 ol) (G8 om) (Dz l) (Dz m) (vz h1) (vz h2) c0
 rcases sk l with e|e<;>rcases sk m with e'|e'<;>rw [e,e'] at this
 ·exact .inl this
 ·exact .inr this
 ·right;rw [←this,rev_rev]
 ·left;have:=congrArg iw this;rwa [rev_rev,rev_rev] at this
theorem F7 {M:List L3}(hk:∀m∈M,dV m=true){q:aq.V2}(hq:aq.pos M q):aq.ON M:=by
 intro l hl m hm hne p h1 h2 hc
 rcases JU (hk l hl) (hk m hm) h1 h2 hc with e|e
 ·exact hne e
 ·have a:=hq l hl
  have b:=hq m hm
  rw [e,val_rev] at a
  grind
theorem DW {l:L3}(h:Nz l){x y:Rat}(hp:ar l x y=0):∃t,x=fB l t/\y=fC l t:=by
 have hi:=Rat.mul_inv_cancel _ h.norm
 unfold ar at hp
 refine ⟨Hi l x y,?_,?_⟩
 ·unfold fB Hi iW at *;grind
 ·unfold fC Hi iW at *;grind
def cI:Sp:=⟨0,0,true,true⟩
theorem wS:cI.pf:=⟨⟨fun _=>rfl,fun _=>rfl⟩,rfl⟩
theorem Af (t:Rat):cI.oG t:=⟨.inl rfl,.inl rfl⟩
structure fW (M:List L3) (c:List Sd):Prop where
 pos:∃q,aq.pos M q
 mem:∀s∈c,s.1∈M/\s.2.pf/\∀t,s.2.oG t↔∀m∈M,m≠s.1->0<ar m (fB s.1 t) (fC s.1 t)
 all:∀l∈M,aq.Es M l->∃v,(l,v)∈c
 mc:c.Pairwise fun s u=>aq.gH (aq.ax s.1) (aq.ax u.1)<0
def kN (x:Sd):List Sd->List Sd
 | []=>[x]
 | s::r=>if aq.gH (aq.ax s.1) (aq.ax x.1)<0 then s::kN x r else x::s::r
def kB (c:List Sd)(l:L3):List Sd:=c.filterMap fun s=>if fk s.1 s.2 l then some (s.1,fl s.1 s.2 l) else none
def dW:List Sd->L3->Int
 | [],_=>-1
 | s::c,l=>if (ar l (fB s.1 s.2.bq) (fC s.1 s.2.bq)).num.sign≠0 then (ar l (fB s.1 s.2.bq) (fC s.1 s.2.bq)).num.sign else if s.1=l then 1 else dW c l
def fA (c:List Sd)(l:L3):Option (List Sd):=
 match cP c l cI with
 | some v=>some (kN (l,v) (kB c l))
 | none=>if 0<dW c l then some c else none
theorem kO {x y:Sd}:∀{r:List Sd},y∈kN x r↔y=x\/y∈r
 | []=>by simp [kN]
 | s::r=>by
  unfold kN
  split
  ·rw [List.mem_cons,kO,List.mem_cons];exact or_left_comm
  ·rw [List.mem_cons]
theorem Ds {a b d:aq.V2}(h:aq.gH a b<0)(h':aq.gH b d<0):aq.gH a d<0:=by
 by_cases q:aq.gH a d<0
 ·exact q
 ·exact absurd h (aq.Kc _ _ _ q (aq.Dr _ _ h'))
theorem Aq {x:Sd}:∀{r:List Sd},(r.Pairwise fun s u=>aq.gH (aq.ax s.1) (aq.ax u.1)<0)->(∀s∈r,aq.gH (aq.ax s.1) (aq.ax x.1)≠0)->(kN x r).Pairwise fun s u=>aq.gH (aq.ax s.1) (aq.ax u.1)<0
 | [],_,_=>List.pairwise_singleton ..
 | s::r,h,hn=>by
  obtain ⟨h1,h2⟩:=List.pairwise_cons.1 h
  unfold kN
  split
  ·rename_i hs
   refine List.pairwise_cons.2 ⟨fun y hy=>?_,Aq h2 fun u hu=>hn u (List.mem_cons_of_mem _ hu)⟩
   rcases kO.1 hy with rfl|hy
   ·exact hs
   ·exact h1 y hy
  ·rename_i hs
   have hx:aq.gH (aq.ax x.1) (aq.ax s.1)<0:=by
    rcases aq.Kb (aq.ax s.1) (aq.ax x.1) with g|g|g
    ·exact absurd g hs
    ·exact absurd g (hn s (List.mem_cons_self ..))
    ·exact g
   refine List.pairwise_cons.2 ⟨fun y hy=>?_,h⟩
   rcases List.mem_cons.1 hy with rfl|hy
   ·exact hx
   ·exact Ds hx (h1 y hy)
theorem zY {c:List Sd}{l:L3}{y:Sd}:y∈kB c l↔∃s∈c,fk s.1 s.2 l=true/\y=(s.1,fl s.1 s.2 l):=by
 unfold kB
 rw [List.mem_filterMap]
 constructor
 ·rintro ⟨s,hs,e⟩
  split at e
  ·rename_i hb;cases e;exact ⟨s,hs,hb,rfl⟩
  ·cases e
 ·rintro ⟨s,hs,hb,rfl⟩
  exact ⟨s,hs,by rw [if_pos hb]⟩
theorem zW {c:List Sd}{l:L3}(h:c.Pairwise fun s u=>aq.gH (aq.ax s.1) (aq.ax u.1)<0):(kB c l).Pairwise fun s u=>aq.gH (aq.ax s.1) (aq.ax u.1)<0:=by
 unfold kB
 refine List.Pairwise.filterMap _ ?_ h
 intro a b sQ x hx y hy
 split at hx
 ·split at hy
  ·cases hx;cases hy;exact sQ
  ·cases hy
 ·cases hx
theorem Hj {l s:L3}(hl:aq.nz (aq.ax s))(h:aq.gH (aq.ax s) (aq.ax l)=0){p r:aq.V2}(p0:ar l p.1 p.2=0)(p1:0<ar s p.1 p.2)(r0:ar s r.1 r.2=0)(r1:0<ar l r.1 r.2):False:=by
 obtain ⟨c,c0,e⟩:=aq.FF hl h
 have e1:(s.2.1:Rat)=c*(l.2.1:Rat):=congrArg Prod.fst e
 have e2:-(s.1:Rat)=c*-(l.1:Rat):=congrArg Prod.snd e
 have e2:(s.1:Rat)=c*(l.1:Rat):=by grind
 have key:∀x:aq.V2,ar s x.1 x.2=c*(ar l x.1 x.2-(l.2.2:Rat))+(s.2.2:Rat):=fun x=>by unfold ar;rw [e1,e2];grind
 have k:=aq.mp c0 r1
 rw [key] at p1 r0
 rw [p0] at p1
 generalize ar l r.1 r.2=z at *
 grind
section
variable {M:List L3} {c:List Sd} (h:fW M c) (hk:∀m ∈ M,dV m=true)
include h hk
theorem fW.int {p:aq.V2}(hp:∀s∈c,0<ar s.1 p.1 p.2):aq.pos M p:=by
 obtain ⟨q,hq⟩:=h.pos
 refine aq.R5 (F7 hk hq) (fun m hm=>CD (hk m hm)) hq fun m hm he=>?_
 obtain ⟨v,hv⟩:=h.all m hm he
 exact hp _ hv
theorem EA {l:L3}(hl:dV l=true){v:Sp}(e:cP c l cI=some v):fW (l::M) (kN (l,v) (kB c l)):=by
 have hN:Nz l:=qe hl
 obtain ⟨gv,hv⟩:=xg wS e
 have sU:∀t,v.oG t↔aq.pos M (fB l t,fC l t):=fun t=>⟨fun g=>h.int hk ((hv t).1 g).2,fun g=>(hv t).2 ⟨Af t,fun s hs=>g s.1 (h.mem s hs).1⟩⟩
 obtain ⟨t0,ht0⟩:=xZ.1 gv.2
 have p0:=(sU t0).1 ht0
 have z0:=(xH hN t0).1
 have lM:l∉M:=fun hm=>by have:=p0 l hm;dsimp only at this;grind
 have ne:∀m∈M,m≠l:=fun m hm e=>lM (e▸hm)
 obtain ⟨q,hq,UE,-⟩:=aq.Ga (M:=M) (x:=(fB l t0,fC l t0)) (CD hl) z0 (fun m hm _=>p0 m hm) [] (fun m hm=>by cases hm)
 have M5:∀s∈kB c l,s.1∈M/\s.2.pf/\∀t,s.2.oG t↔∀m∈l::M,m≠s.1->0<ar m (fB s.1 t) (fC s.1 t):=fun s hs=>by
  obtain ⟨s0,h0,hb,rfl⟩:=zY.1 hs
  obtain ⟨m1,m2,m3⟩:=h.mem s0 h0
  refine ⟨m1,sD m2 hb,fun t=>?_⟩
  dsimp only
  rw [nD.1 hb t,m3 t,List.forall_mem_cons]
  exact ⟨fun g=>⟨fun _=>g.2,g.1⟩,fun g=>⟨g.2,g.1 (fun e=>ne _ m1 e.symm)⟩⟩
 refine ⟨⟨q,List.forall_mem_cons.2 ⟨UE,hq⟩⟩,fun s hs=>?_,fun l' hl' he=>?_,Aq (zW h.mc) fun s hs e0=>?_⟩
 ·rcases kO.1 hs with rfl|hs
  ·refine ⟨List.mem_cons_self ..,gv,fun t=>?_⟩
   rw [sU t,List.forall_mem_cons]
   exact ⟨fun g=>⟨fun h=>absurd rfl h,fun m hm _=>g m hm⟩,fun g m hm=>g.2 m hm (ne m hm)⟩
  ·obtain ⟨a,b⟩:=M5 s hs
   exact ⟨List.mem_cons_of_mem _ a,b⟩
 ·rcases List.mem_cons.1 hl' with rfl|hl'
  ·exact ⟨v,kO.2 (.inl rfl)⟩
  ·obtain ⟨p,pz,hp⟩:=he
   obtain ⟨w,hw⟩:=h.all l' hl' ⟨p,pz,fun m hm hne=>hp m (List.mem_cons_of_mem _ hm) hne⟩
   obtain ⟨m1,m2,m3⟩:=h.mem _ hw
   obtain ⟨t,e1,e2⟩:=DW (qe (hk l' hl')) pz
   have hb:fk l' w l=true:=by
    cases hb:fk l' w l
    ·exfalso
     refine nD.2 m2.2 hb t ((m3 t).2 fun m hm hne=>?_) ?_
     ·dsimp only;rw [←e1,←e2];exact hp m (List.mem_cons_of_mem _ hm) hne
     ·rw [←e1,←e2];exact hp l (List.mem_cons_self ..) (fun e=>lM (e▸hl'))
    ·rfl
   exact ⟨fl l' w l,kO.2 (.inr (zY.2 ⟨_,hw,hb,rfl⟩))⟩
 ·obtain ⟨m1,m2,m3⟩:=M5 s hs
  obtain ⟨t,ht⟩:=xZ.1 m2.2
  have hr:=(m3 t).1 ht l (List.mem_cons_self ..) (fun e=>ne _ m1 e.symm)
  exact Hj (CD (hk _ m1)) e0 (p:=(fB l t0,fC l t0)) (r:=(fB s.1 t,fC s.1 t)) z0 (p0 _ m1) (xH (qe (hk _ m1)) t).1 hr
omit h in
theorem oX {l:L3}(hl:dV l=true)(hno:∀x:aq.V2,ar l x.1 x.2=0->¬aq.pos M x){q:aq.V2}(hq:aq.pos M q){s:L3}(hs:s∈M){x:aq.V2}(xz:ar s x.1 x.2=0)(hx:∀m∈M,m≠s->0<ar m x.1 x.2) :
  (0<ar l q.1 q.2->0<ar l x.1 x.2\/s=l)/\(ar l q.1 q.2<0->ar l x.1 x.2<0\/ar l x.1 x.2=0/\s≠l):=by
 have side:∀g:L3,(∀x:aq.V2,ar g x.1 x.2=0->¬aq.pos M x)->0<ar g q.1 q.2->∀y:aq.V2,ar s y.1 y.2=0->(∀m∈M,m≠s->0<ar m y.1 y.2)->¬ar g y.1 y.2<0:=fun g hno gq y yz hy hneg=>by
  obtain ⟨q',h1,-,h3⟩:=aq.Ga (CD (hk s hs)) yz hy [iw g] (fun m hm=>by rcases List.mem_singleton.1 hm with rfl;rw [val_rev];grind)
  have h3:=h3 _ (List.mem_singleton.2 rfl)
  rw [val_rev] at h3
  have:=aq.AG hno hq h1 gq
  grind
 constructor
 ·intro hp
  by_cases c1:0<ar l x.1 x.2
  ·exact .inl c1
  right
  have z:ar l x.1 x.2=0:=by have:=side l hno hp x xz hx;grind
  by_cases e:s=l
  ·exact e
  exfalso
  have TT:aq.cr (aq.ax l) (aq.ax s)≠0:=fun e0=>by
   rcases JU hl (hk s hs) z xz e0 with g|g
   ·exact e g.symm
   ·rw [g,val_rev] at hp
    have:=hq s hs
    grind
  have step:∀d:aq.V2,aq.nv s d=0->aq.nv l d<0->False:=fun d d0 d1=>by
   obtain ⟨r,r0,hr⟩:=aq.yF ((M.filter fun m=>decide (m≠s)).map fun m=>(ar m x.1 x.2,aq.nv m d)) (fun y hy=>by
    obtain ⟨m,hm,rfl⟩:=List.mem_map.1 hy
    have:=List.mem_filter.1 hm
    exact hx m this.1 (by simpa using this.2))
   refine side l hno hp (x.1+r*d.1,x.2+r*d.2) ?_ (fun m hm hne=>?_) ?_
   ·rw [aq.fx,xz,d0];grind
   ·rw [aq.fx]
    exact hr (ar m x.1 x.2,aq.nv m d) (List.mem_map.2 ⟨m,List.mem_filter.2 ⟨hm,by simpa using hne⟩,rfl⟩)
   ·rw [aq.fx,z]
    have:=aq.mp r0 (show -aq.nv l d>0 by grind)
    grind
  have s0:aq.nv s (aq.ax s)=0:=by rw [aq.DV];exact aq.DD _
  have ls:aq.nv l (aq.ax s)≠0:=by rw [aq.DV];exact TT
  by_cases c2:aq.nv l (aq.ax s)<0
  ·exact step _ s0 c2
  ·have e1:aq.nv s (-(aq.ax s).1,-(aq.ax s).2)=-aq.nv s (aq.ax s):=by unfold aq.nv;dsimp only;grind
   have e2:aq.nv l (-(aq.ax s).1,-(aq.ax s).2)=-aq.nv l (aq.ax s):=by unfold aq.nv;dsimp only;grind
   exact step (-(aq.ax s).1,-(aq.ax s).2) (by rw [e1,s0];grind) (by rw [e2];grind)
 ·intro hp
  have:=side (iw l) (fun x hx=>hno x (by rw [val_rev] at hx;grind)) (by rw [val_rev];grind) x xz hx
  rw [val_rev] at this
  by_cases c1:ar l x.1 x.2<0
  ·exact .inl c1
  ·refine .inr ⟨by grind,fun e=>?_⟩
   have:=hq s hs
   rw [e] at this
   grind
theorem eX {s:Sd}(hs:s∈c):ar s.1 (fB s.1 s.2.bq) (fC s.1 s.2.bq)=0/\∀m∈M,m≠s.1->0<ar m (fB s.1 s.2.bq) (fC s.1 s.2.bq):=by
 obtain ⟨m1,m2,m3⟩:=h.mem s hs
 refine ⟨(xH (qe (hk _ m1)) _).1,(m3 _).1 ?_⟩
 obtain ⟨h1,h2⟩:=Sp.D1 m2.2
 constructor
 ·cases ha:s.2.a
  ·exact .inr (h1 ha)
  ·exact .inl rfl
 ·cases hb:s.2.b
  ·exact .inr (h2 hb)
  ·exact .inl rfl
theorem E2 {l:L3}(hl:dV l=true)(hno:∀x:aq.V2,ar l x.1 x.2=0->¬aq.pos M x){q:aq.V2}(hq:aq.pos M q)(hp:0<ar l q.1 q.2)(h0:c≠[]):dW c l=1:=by
 cases hc:c with
 | nil=>exact absurd hc h0
 | cons s r=>
  have hs:s∈c:=by rw [hc];exact List.mem_cons_self ..
  obtain ⟨e1,e2⟩:=eX h hk hs
  have:=(oX hk hl hno hq (h.mem s hs).1 (x:=(fB s.1 s.2.bq,fC s.1 s.2.bq)) e1 e2).1 hp
  unfold dW
  dsimp only at this
  by_cases c1:0<ar l (fB s.1 s.2.bq) (fC s.1 s.2.bq)
  ·rw [aq.K8.2 c1];rfl
  ·have hsl:s.1=l:=this.resolve_left c1
   have z:ar l (fB s.1 s.2.bq) (fC s.1 s.2.bq)=0:=by
    have h:=e1;rw [hsl] at h ⊢;exact h
   rw [aq.n_.2 z,if_neg (by simp),if_pos hsl]
theorem E1 {l:L3}(hl:dV l=true)(hno:∀x:aq.V2,ar l x.1 x.2=0->¬aq.pos M x){q:aq.V2}(hq:aq.pos M q)(hp:ar l q.1 q.2<0):dW c l=-1:=by
 have:∀r:List Sd,(∀s∈r,s∈c)->dW r l=-1:=by
  intro r
  induction r with
  | nil=>intro _;rfl
  | cons s r ih=>
   intro hr
   have hs:=hr s (List.mem_cons_self ..)
   obtain ⟨e1,e2⟩:=eX h hk hs
   have:=(oX hk hl hno hq (h.mem s hs).1 (x:=(fB s.1 s.2.bq,fC s.1 s.2.bq)) e1 e2).2 hp
   dsimp only at this
   unfold dW
   rcases this with g|⟨g,g'⟩
   ·rw [aq.HA.2 g];rfl
   ·rw [aq.n_.2 g,if_neg (by simp),if_neg g']
    exact ih fun u hu=>hr u (List.mem_cons_of_mem _ hu)
 exact this c fun _ h=>h
theorem DA {l:L3}(hl:dV l=true):(∀c',fA c l=some c'->fW (l::M) c')/\(fA c l=none->¬∃q,aq.pos (l::M) q):=by
 unfold fA
 cases e:cP c l cI with
 | some v=>exact ⟨fun c' e'=>by cases e';exact EA h hk hl e,fun e'=>by cases e'⟩
 | none=>
  dsimp only
  have hno:∀x:aq.V2,ar l x.1 x.2=0->¬aq.pos M x:=fun x hx hp=>by
   obtain ⟨t,e1,e2⟩:=DW (qe hl) hx
   refine xf wS e t (Af t) fun s hs=>?_
   rw [←e1,←e2];exact hp s.1 (h.mem s hs).1
  have h0:c≠[]:=fun e0=>by rw [e0] at e;cases e
  obtain ⟨q,hq⟩:=h.pos
  by_cases c1:0<ar l q.1 q.2
  ·rw [E2 h hk hl hno hq c1 h0]
   refine ⟨fun c' e'=>?_,fun e'=>by cases e'⟩
   cases e'
   refine ⟨⟨q,List.forall_mem_cons.2 ⟨c1,hq⟩⟩,fun s hs=>?_,fun l' hl' he=>?_,h.mc⟩
   ·obtain ⟨m1,m2,m3⟩:=h.mem s hs
    refine ⟨List.mem_cons_of_mem _ m1,m2,fun t=>?_⟩
    rw [m3 t,List.forall_mem_cons]
    refine ⟨fun g=>⟨fun hne=>?_,g⟩,fun g=>g.2⟩
    exact ((oX hk hl hno hq m1 (x:=(fB s.1 t,fC s.1 t)) (xH (qe (hk _ m1)) t).1 g).1 c1).resolve_right fun e=>hne e.symm
   ·obtain ⟨p,pz,hp⟩:=he
    by_cases hm:l'∈M
    ·exact h.all l' hm ⟨p,pz,fun m hm hne=>hp m (List.mem_cons_of_mem _ hm) hne⟩
    ·exfalso
     have e1:l'=l:=(List.mem_cons.1 hl').resolve_right hm
     refine hno p (e1▸pz) fun m hm'=>hp m (List.mem_cons_of_mem _ hm') fun e2=>hm (e2▸hm')
  ·have c2:ar l q.1 q.2<0:=by
    by_cases z:ar l q.1 q.2=0
    ·exact absurd hq (hno q z)
    ·grind
   rw [E1 h hk hl hno hq c2]
   refine ⟨fun c' e'=>(by cases e'),fun _=>?_⟩
   rintro ⟨q',hq'⟩
   obtain ⟨a,b⟩:=List.forall_mem_cons.1 hq'
   have:=aq.AG hno (fun m hm=>b m hm) hq a
   grind
end
theorem fW.nil:fW [] []:=⟨⟨(0,0),fun m hm=>by cases hm⟩,(fun s hs=>by cases hs),(fun l hl=>by cases hl),List.Pairwise.nil⟩
def bE:List L3->List L3->List Sd->Option (List Sd)
 | [],_,c=>some c
 | l::r,M,c=>match fA c l with
  | some c'=>bE r (l::M) c'
  | none=>none
theorem sr:∀{ls M:List L3} {c:List Sd},fW M c->(∀m∈M,dV m=true)->(∀m∈ls,dV m=true)->(∀c',bE ls M c=some c'->fW (ls.reverse++M) c')/\(bE ls M c=none->¬∃q,aq.pos (ls.reverse++M) q)
 | [],M,c,h,hk,hl=>⟨fun c' e=>by cases e;exact h,fun e=>by cases e⟩
 | l::r,M,c,h,hk,hl=>by
  obtain ⟨h1,h2⟩:=DA h hk (hl l (List.mem_cons_self ..))
  rw [List.reverse_cons,List.append_assoc]
  unfold bE
  cases e:fA c l with
  | some c'=>exact sr (h1 c' e) (List.forall_mem_cons.2 ⟨hl l (List.mem_cons_self ..),hk⟩) fun m hm=>hl m (List.mem_cons_of_mem _ hm)
  | none=>
   refine ⟨fun c' e'=>(by cases e'),fun _=>?_⟩
   rintro ⟨q,hq⟩
   exact h2 e ⟨q,fun m hm=>hq m (List.mem_append_right _ hm)⟩
end Go.Proofs.Tryz
namespace Go.Proofs.Tryz
open Go.bw Go.eN
theorem EB (l m:L3):bu l m=-ig m l:=by unfold bu ig;grind
theorem Ki (m l:L3):aq.cr (aq.ax m) (aq.ax l)=ig m l:=by unfold aq.cr aq.ax ig;grind
theorem Es.of {M N:List L3}(h:∀x,x∈M->x∈N){l:L3}(e:aq.Es N l):aq.Es M l:=by
 obtain ⟨p,p0,p1⟩:=e
 exact ⟨p,p0,fun m hm=>p1 m (h m hm)⟩
theorem KV {l:L3}(h:dV l=true):dV (iw l)=true:=by
 unfold dV iw gf at *
 simp only [Int.natAbs_neg]
 rw [Bool.and_eq_true,decide_eq_true_iff,decide_eq_true_iff] at h ⊢
 exact ⟨fun e=>h.1 ⟨by omega,by omega⟩,h.2⟩
section
variable {M:List L3} {c:List Sd} (h:fW M c) (hk:∀m ∈ M,dV m=true)
include h hk
theorem Il {p:aq.V2}(hp:∀s∈c,0<=ar s.1 p.1 p.2):∀m∈M,0<=ar m p.1 p.2:=by
 intro m hm
 obtain ⟨q,hq⟩:=h.pos
 have key:∀t:Rat,0<=t->t<1->aq.pos M (q.1+t*(p.1-q.1),q.2+t*(p.2-q.2)):=fun t t0 t1=>h.int hk fun s hs=>by
  dsimp only
  rw [aq.oq]
  have h1:=hq s.1 (h.mem s hs).1
  have h2:=aq.mn t0 (hp s hs)
  have h3:=aq.mp (show 1-t>0 by grind) h1
  grind
 by_cases c0:0<=ar m p.1 p.2
 ·exact c0
 exfalso
 have h1:=hq m hm
 obtain ⟨t,t0,t1,e⟩:=aq.rD (y:=(ar m q.1 q.2,ar m p.1 p.2)) h1 (s:=1) (by decide) (by unfold aq.mx;grind)
 have t1':t<1:=by
  by_cases e1:t=1
  ·subst e1;unfold aq.mx at e;dsimp only at e;grind
  ·grind
 have:=key t (by grind) t1' m hm
 dsimp only at this
 rw [aq.oq] at this
 unfold aq.mx at e
 dsimp only at e
 grind
omit h hk in
theorem KP {p r:aq.V2}(hp:aq.pos M p)(hr:∀m∈M,0<=ar m r.1 r.2):aq.pos M ((p.1+r.1)*((2:Int):Rat)⁻¹,(p.2+r.2)*((2:Int):Rat)⁻¹):=by
 intro m hm
 have h1:=hp m hm
 have h2:=hr m hm
 have e:ar m ((p.1+r.1)*((2:Int):Rat)⁻¹) ((p.2+r.2)*((2:Int):Rat)⁻¹)=(ar m p.1 p.2+ar m r.1 r.2)*(1 / 2):=by
  have:((2:Int):Rat)⁻¹=1 / 2:=by decide +kernel
  rw [this];unfold ar;grind
 dsimp only
 rw [e]
 grind
end
def iH (p n:aq.V2):List L3->Rat->Rat
 | [],f=>f
 | m::r,f=>iH p n r (if aq.nv m n<0 then kC f (-(ar m p.1 p.2*(aq.nv m n)⁻¹)) else f)
theorem min_le (x y:Rat):kC x y<=x/\kC x y<=y/\(kC x y=x\/kC x y=y):=by
 unfold kC
 rcases rf y x with ⟨h,e⟩|⟨h,e⟩|⟨h,e⟩<;>rw [e]<;>simp<;>grind
theorem ya {p n:aq.V2}:∀{r:List L3} {f:Rat},0<f->(∀m∈r,0<ar m p.1 p.2)->0<iH p n r f/\iH p n r f<=f/\∀m∈r,aq.nv m n<0->iH p n r f*-(aq.nv m n)<=ar m p.1 p.2
 | [],f,hf,_=>⟨hf,Rat.le_refl,fun m hm=>by cases hm⟩
 | m::r,f,hf,h=>by
  obtain ⟨h1,h2⟩:=List.forall_mem_cons.1 h
  unfold iH
  by_cases hn:aq.nv m n<0
  ·rw [if_pos hn]
   have hi:=Rat.mul_inv_cancel _ (show aq.nv m n≠0 by grind)
   have hneg:(aq.nv m n)⁻¹<0:=by
    by_cases g:(aq.nv m n)⁻¹<0
    ·exact g
    ·have:=aq.mn (show -(aq.nv m n)≥0 by grind) (show (aq.nv m n)⁻¹≥0 by grind)
     grind
   have hq:0< -(ar m p.1 p.2*(aq.nv m n)⁻¹):=by
    have:=aq.mp h1 (show -(aq.nv m n)⁻¹>0 by grind)
    grind
   obtain ⟨a1,a2,a3⟩:=min_le f (-(ar m p.1 p.2*(aq.nv m n)⁻¹))
   have hm:0<kC f (-(ar m p.1 p.2*(aq.nv m n)⁻¹)):=by rcases a3 with e|e<;>rw [e]<;>assumption
   obtain ⟨g1,g2,g3⟩:=ya (p:=p) (n:=n) (r:=r) hm h2
   refine ⟨g1,by grind,List.forall_mem_cons.2 ⟨fun _=>?_,g3⟩⟩
   generalize iH p n r (kC f (-(ar m p.1 p.2*(aq.nv m n)⁻¹)))=z at *
   have:=aq.mn (show -(ar m p.1 p.2*(aq.nv m n)⁻¹)-z≥0 by grind) (show -(aq.nv m n)≥0 by grind)
   have e:ar m p.1 p.2*(aq.nv m n)⁻¹*aq.nv m n=ar m p.1 p.2:=by grind
   grind
  ·rw [if_neg hn]
   obtain ⟨g1,g2,g3⟩:=ya (p:=p) (n:=n) (r:=r) hf h2
   exact ⟨g1,g2,List.forall_mem_cons.2 ⟨fun g=>absurd g hn,g3⟩⟩
theorem Gr {M:List L3}{s:Sd}{c:List Sd}(h:fW M (s::c))(hk:∀m∈M,dV m=true){f:Rat}(hf:f=iH (fB s.1 s.2.bq,fC s.1 s.2.bq) (aq.gi s.1) (c.map Prod.fst) 1) :
  aq.pos M (fB s.1 s.2.bq+f*((2:Int):Rat)⁻¹*(aq.gi s.1).1,fC s.1 s.2.bq+f*((2:Int):Rat)⁻¹*(aq.gi s.1).2):=by
 obtain ⟨e1,e2⟩:=eX h hk (List.mem_cons_self ..)
 have hs:=(h.mem s (List.mem_cons_self ..)).1
 have hn:=aq.CC (CD (hk _ hs))
 have hne:∀u∈c,u.1≠s.1:=fun u hu e=>by
  have:=(List.pairwise_cons.1 h.mc).1 u hu
  rw [e] at this
  exact aq.Dr _ _ this this
 obtain ⟨g1,g2,g3⟩:=ya (p:=(fB s.1 s.2.bq,fC s.1 s.2.bq)) (n:=aq.gi s.1) (r:=c.map Prod.fst) (f:=1) (by decide) fun m hm=>by
  obtain ⟨u,hu,rfl⟩:=List.mem_map.1 hm
  exact e2 _ (h.mem u (List.mem_cons_of_mem _ hu)).1 (hne u hu)
 rw [←hf] at g1 g2 g3
 have e2':((2:Int):Rat)⁻¹=1 / 2:=by decide +kernel
 rw [e2']
 refine h.int hk (List.forall_mem_cons.2 ⟨?_,fun u hu=>?_⟩)
 ·have:=aq.fx s.1 (fB s.1 s.2.bq,fC s.1 s.2.bq) (aq.gi s.1) (f*(1 / 2))
  dsimp only at this ⊢
  rw [this,e1]
  have:=aq.mp g1 hn
  grind
 ·have:=aq.fx u.1 (fB s.1 s.2.bq,fC s.1 s.2.bq) (aq.gi s.1) (f*(1 / 2))
  dsimp only at this ⊢
  rw [this]
  have v:=e2 _ (h.mem u (List.mem_cons_of_mem _ hu)).1 (hne u hu)
  by_cases hc:aq.nv u.1 (aq.gi s.1)<0
  ·have:=g3 u.1 (List.mem_map.2 ⟨u,hu,rfl⟩) hc
   dsimp only at this
   grind
  ·have:=aq.mn (show f≥0 by grind) (show aq.nv u.1 (aq.gi s.1)≥0 by grind)
   grind
end Go.Proofs.Tryz
namespace Go.Proofs.Tryz
open Go.bw Go.eN
section
variable {M:List L3} {c:List Sd} (h:fW M c) (hk:∀m ∈ M,dV m=true)
include h hk
end
end Go.Proofs.Tryz
namespace Go.Proofs.Tryz
open Go.bw Go.eN
namespace aq
theorem HR {l m n:V2}(h1:cr l m>0)(h2:cr m n>0)(h3:cr l n>0)(hl:up l)(hn:up n):up m:=by
 have e1:m.1*cr l n=cr m n*l.1+cr l m*n.1:=by unfold cr;grind
 have e2:m.2*cr l n=cr m n*l.2+cr l m*n.2:=by unfold cr;grind
 generalize cr l n=D at *
 generalize cr m n=A at *
 generalize cr l m=B at *
 have sg:∀x:Rat,x*D>0->x>0:=fun x hx=>by
  by_cases c:x>0
  ·exact c
  ·have:=mn (show -x≥0 by grind) (show D≥0 by grind);grind
 unfold up at *
 rcases hl with hl|⟨hl,hl'⟩<;>rcases hn with hn|⟨hn,hn'⟩
 ·exact .inl (sg _ (by have:=mp h2 hl;have:=mp h1 hn;grind))
 ·exact .inl (sg _ (by have:=mp h2 hl;rw [hn] at e2;grind))
 ·exact .inl (sg _ (by have:=mp h1 hn;rw [hl] at e2;grind))
 ·refine .inr ⟨?_,sg _ (by have:=mp h2 hl';have:=mp h1 hn';grind)⟩
  rw [hl,hn] at e2
  have e2:m.2*D=0:=by grind
  by_cases c:m.2>0
  ·have:=mp c h3;grind
  ·by_cases c':m.2<0
   ·have:=mp (show -m.2>0 by grind) h3;grind
   ·grind
theorem Kk {l m n:V2}(h1:cr l m>0)(h2:cr m n>0)(h3:cr l n>0)(hl:dn l)(hn:dn n):dn m:=by
 have g:∀u:V2,dn u↔up (-u.1,-u.2):=fun u=>by unfold dn up;dsimp only;constructor<;>intro h<;>grind
 have c2:∀u v:V2,cr (-u.1,-u.2) (-v.1,-v.2)=cr u v:=fun u v=>by unfold cr;grind
 rw [g] at *
 exact HR (l:=(-l.1,-l.2)) (n:=(-n.1,-n.2)) (by rw [c2];exact h1) (by rw [c2];exact h2) (by rw [c2];exact h3) hl hn
theorem sR {u:V2}(hu:nz u):half u=1/\up u\/half u=2/\dn u:=by
 rcases cJ u with h|h|⟨-,h1,h2⟩
 ·exact .inl h
 ·exact .inr h
 ·exact absurd hu (by unfold nz;grind)
theorem A9 {u:V2}(h1:up u)(h2:dn u):False:=by unfold up dn at *;grind
theorem G4 {l m n:V2}(zl:nz l)(zm:nz m)(zn:nz n)(h1:cr l m>0)(h2:cr m n>0)(h3:cr l n>0)(h:(gH l n<0/\(gH m l<0\/gH n m<0))\/gH n m<0/\gH m l<0):False:=by
 have a1:cr m l<0:=by
  have:cr m l=-cr l m:=by unfold cr;grind
  grind
 have a2:cr n m<0:=by
  have:cr n m=-cr m n:=by unfold cr;grind
  grind
 simp only [rJ] at h
 have x1:¬(half m=half l/\cr m l>0):=fun g=>by have:=g.2;grind
 have x2:¬(half n=half m/\cr n m>0):=fun g=>by have:=g.2;grind
 rcases sR zl with ⟨el,ul⟩|⟨el,ul⟩<;>rcases sR zm with ⟨em,um⟩|⟨em,um⟩<;>rcases sR zn with ⟨en,un⟩|⟨en,un⟩<;>rw [el,em,en] at h<;>rw [el,em] at x1<;>rw [en,em] at x2<;>try omega
 all_goals first|exact A9 (HR h1 h2 h3 ul un) um|exact A9 um (Kk h1 h2 h3 ul un)|(rcases h with ⟨h,h'|h'⟩|⟨h,h'⟩<;>rcases h with h|h<;>rcases h' with h'|h'<;>first|omega|exact absurd h'.2 (by grind)|exact absurd h.2 (by grind))
end aq
section
variable {M:List L3} {c:List Sd} (h:fW M c) (hk:∀m ∈ M,dV m=true)
include h hk
theorem Jn {i:Nat}(hi:i<c.length){l n:L3}(el:l=(c[i]).1)(en:n=(c[(i+1)%c.length]'(Nat.mod_lt _ (by omega))).1)(hc:0<aq.cr (aq.ax l) (aq.ax n)):∀m∈M,0<=ar m (EV l n) (EW l n):=by
 refine Il h hk (p:=(EV l n,EW l n)) fun s hs=>?_
 dsimp only
 have hx:bu l n≠0:=by
  rw [EB,←Ki];have:aq.cr (aq.ax n) (aq.ax l)=-aq.cr (aq.ax l) (aq.ax n):=by unfold aq.cr;grind
  grind
 obtain ⟨v1,v2⟩:=HT hx
 generalize EV l n=X at *
 generalize EW l n=Y at *
 by_cases c0:0<=ar s.1 X Y
 ·exact c0
 exfalso
 have hlc:c[i]∈c:=List.getElem_mem hi
 have hnc:(c[(i+1)%c.length]'(Nat.mod_lt _ (by omega)))∈c:=List.getElem_mem _
 have key:∀x:aq.V2,aq.cr (aq.ax l) (aq.ax n)*(ar s.1 x.1 x.2-ar s.1 X Y)=aq.cr (aq.ax s.1) (aq.ax n)*ar l x.1 x.2+aq.cr (aq.ax l) (aq.ax s.1)*ar n x.1 x.2:=fun x=>by
  have:aq.cr (aq.ax l) (aq.ax n)*(ar s.1 x.1 x.2-ar s.1 X Y)=aq.cr (aq.ax s.1) (aq.ax n)*(ar l x.1 x.2-ar l X Y)+aq.cr (aq.ax l) (aq.ax s.1)*(ar n x.1 x.2-ar n X Y):=by
   unfold aq.cr aq.ax ar;grind
  rw [this,v1,v2];grind
 obtain ⟨q,hq⟩:=h.pos
 have nl:s.1≠l:=fun e=>by rw [e,v1] at c0;exact c0 Rat.le_refl
 have nn:s.1≠n:=fun e=>by rw [e,v2] at c0;exact c0 Rat.le_refl
 have hln:l≠n:=fun e=>by rw [e] at hc;unfold aq.cr at hc;grind
 by_cases ca:0<aq.cr (aq.ax s.1) (aq.ax n)
 ·by_cases cb:0<aq.cr (aq.ax l) (aq.ax s.1)
  ·
   obtain ⟨j,hj,ej⟩:=List.mem_iff_getElem.1 hs
   have zs:∀k (hk':k<c.length),aq.nz (aq.ax (c[k]).1):=fun k hk'=>CD (hk _ (h.mem _ (List.getElem_mem hk')).1)
   have mc:∀a b (ha:a<c.length) (hb:b<c.length),a<b->aq.gH (aq.ax (c[a]).1) (aq.ax (c[b]).1)<0:=fun a b ha hb sQ=>List.pairwise_iff_getElem.1 h.mc a b ha hb sQ
   have hji:j≠i:=fun e=>by subst e;exact nl (by rw [el,ej])
   subst el
   rw [←ej] at nn ca cb
   by_cases hw:i+1<c.length
   ·have em:(i+1)%c.length=i+1:=Nat.mod_eq_of_lt hw
    simp only [em] at en
    subst en
    have hjn:j≠i+1:=fun e=>by subst e;exact nn rfl
    refine aq.G4 (zs i hi) (zs j hj) (zs (i+1) hw) cb ca hc (.inl ⟨mc i (i+1) hi hw (by omega),?_⟩)
    rcases Nat.lt_or_gt_of_ne hji with g|g
    ·exact .inl (mc j i hj hi g)
    ·exact .inr (mc (i+1) j hw hj (by omega))
   ·have em:(i+1)%c.length=0:=by rw [show i+1=c.length by omega];exact Nat.mod_self _
    simp only [em] at en
    subst en
    have hjn:j≠0:=fun e=>by subst e;exact nn rfl
    exact aq.G4 (zs i hi) (zs j hj) (zs 0 (by omega)) cb ca hc (.inr ⟨mc 0 j (by omega) hj (by omega),mc j i hj hi (by omega)⟩)
  ·obtain ⟨e1,e2⟩:=eX h hk hnc
   rw [←en] at e1 e2
   have:=key (fB n (c[(i+1)%c.length]'(Nat.mod_lt _ (by omega))).2.bq,fC n (c[(i+1)%c.length]'(Nat.mod_lt _ (by omega))).2.bq)
   have g1:=e2 s.1 (h.mem s hs).1 nn
   have g2:=key
   obtain ⟨Kl,e2'⟩:=eX h hk hlc
   rw [←el] at Kl e2'
   have k2:=key (fB l (c[i]).2.bq,fC l (c[i]).2.bq)
   have g3:=e2' s.1 (h.mem s hs).1 nl
   have g4:=e2' n (en▸(h.mem _ hnc).1) (fun e=>hln e.symm)
   dsimp only at k2
   rw [Kl] at k2
   have p1:=aq.mp hc (show ar s.1 (fB l (c[i]).2.bq) (fC l (c[i]).2.bq)-ar s.1 X Y>0 by grind)
   have p2:=aq.mn (show -aq.cr (aq.ax l) (aq.ax s.1)≥0 by grind) (show ar n (fB l (c[i]).2.bq) (fC l (c[i]).2.bq)≥0 by grind)
   grind
 ·by_cases cb:0<aq.cr (aq.ax l) (aq.ax s.1)
  ·obtain ⟨e1,e2⟩:=eX h hk hnc
   rw [←en] at e1 e2
   generalize (c[(i+1)%c.length]'(Nat.mod_lt _ (by omega))).2.bq=u at *
   have k2:=key (fB n u,fC n u)
   have g3:=e2 s.1 (h.mem s hs).1 nn
   have g4:=e2 l (el▸(h.mem _ hlc).1) hln
   dsimp only at k2
   rw [e1] at k2
   have p1:=aq.mp hc (show ar s.1 (fB n u) (fC n u)-ar s.1 X Y>0 by grind)
   have p2:=aq.mn (show -aq.cr (aq.ax s.1) (aq.ax n)≥0 by grind) (show ar l (fB n u) (fC n u)≥0 by grind)
   grind
  ·have k2:=key q
   have g3:=hq s.1 (h.mem s hs).1
   have g4:=hq l (el▸(h.mem _ hlc).1)
   have g5:=hq n (en▸(h.mem _ hnc).1)
   have p1:=aq.mp hc (show ar s.1 q.1 q.2-ar s.1 X Y>0 by grind)
   have p2:=aq.mn (show -aq.cr (aq.ax s.1) (aq.ax n)≥0 by grind) (show ar l q.1 q.2≥0 by grind)
   have p3:=aq.mn (show -aq.cr (aq.ax l) (aq.ax s.1)≥0 by grind) (show ar n q.1 q.2≥0 by grind)
   grind
end
end Go.Proofs.Tryz
namespace Go.Proofs.Tryz
open Go.bw Go.eN
namespace aq
end aq
section
variable {M:List L3} {c:List Sd} (h:fW M c) (hk:∀m ∈ M,dV m=true)
include h hk
end
end Go.Proofs.Tryz
namespace Go.Proofs.Tryz
open Go.bw Go.eN
def tw (l:List aq.V2):Rat:=((List.range l.length).map fun i=>aq.cr (l.getD i (0,0)) (l.getD ((i+1)%l.length) (0,0))).sum
def ko (S:List L3):List aq.V2:=(List.range S.length).filterMap fun i=>if 0<aq.cr (aq.ax (S.getD i (0,0,0))) (aq.ax (S.getD ((i+1)%S.length) (0,0,0))) then some (EV (S.getD i (0,0,0)) (S.getD ((i+1)%S.length) (0,0,0)),EW (S.getD i (0,0,0)) (S.getD ((i+1)%S.length) (0,0,0))) else none
section
variable {M:List L3} {c:List Sd} (h:fW M c) (hk:∀m ∈ M,dV m=true) (hb:∀s ∈ c,s.2.a=false/\s.2.b=false)
include h hk hb
end
end Go.Proofs.Tryz
namespace Go.Proofs.Tryz
open Go.bw Go.eN
section
variable {M:List L3} {c:List Sd} (h:fW M c) (hk:∀m ∈ M,dV m=true) (hb:∀s ∈ c,s.2.a=false/\s.2.b=false)
include h hk hb
end
end Go.Proofs.Tryz
namespace Go.Proofs.Tryz
open Go.bw Go.eN
section
variable {M:List L3} {c:List Sd} (h:fW M c) (hk:∀m ∈ M,dV m=true) (hb:∀s ∈ c,s.2.a=false/\s.2.b=false)
include h hk hb
end
end Go.Proofs.Tryz
namespace Go.Proofs.Tryz
open Go.bw Go.eN
section
variable {M:List L3} {c:List Sd} (h:fW M c) (hk:∀m ∈ M,dV m=true)
include h hk
end
end Go.Proofs.Tryz
namespace Go.Proofs.Tryz
open Go.bw Go.eN
theorem lA.up {k K:Nat}{l:L3}(h:lA k l)(hk:k<=K):lA K l:=⟨h.1.mono hk,h.2.1.mono hk,h.2.2.mono hk⟩
theorem D8 {L M:L3}{s:Sp}{k K:Nat}(sl:lA k L)(sm:lA k M)(hs:s.sz K)(hk:60*k+60<=K):(fl L s M).sz K:=by
 have z:=Jj K (by omega)
 have c:=(yJ sl sm).mono hk
 unfold fl
 split
 ·exact hs
 ·split
  ·exact Sp.yn hs ⟨c,z⟩
  ·exact Sp.yn hs ⟨z,c⟩
theorem Iw {k:Nat}(hk:0<k):cI.sz k:=⟨Jj k hk,Jj k hk⟩
def OT (s:Sd):Prop:=Bd s.1/\s.2.sz 100000
theorem DJ {x:Sd}:∀{r:List Sd} {i:Nat},i<=r.length->(∀k (h:k<r.length),k<i->aq.gH (aq.ax r[k].1) (aq.ax x.1)<0)->(∀h:i<r.length,¬aq.gH (aq.ax r[i].1) (aq.ax x.1)<0)->kN x r=r.take i++x::r.drop i
 | [],i,hi,_,_=>by simp [kN]
 | s::r,0,_,_,h=>by
  have:¬aq.gH (aq.ax s.1) (aq.ax x.1)<0:=h (Nat.zero_lt_succ _)
  unfold kN
  rw [if_neg this]
  rfl
 | s::r,i+1,hi,h1,h2=>by
  have:aq.gH (aq.ax s.1) (aq.ax x.1)<0:=h1 0 (Nat.zero_lt_succ _) (Nat.zero_lt_succ _)
  unfold kN
  rw [if_pos this,DJ (r:=r) (i:=i) (by simpa using hi) (fun k hk hki=>h1 (k+1) (by simpa using hk) (by omega)) fun h=>h2 (by simpa using h)]
  rfl
structure Bs (r:List Sd) (l:L3) (i j:Nat):Prop where
 le:i<=j
 len:j<=r.length
 lo:∀k (h:k<r.length),k<i->aq.gH (aq.ax r[k].1) (aq.ax l)<0
 hi:∀h:j<r.length,¬aq.gH (aq.ax r[j].1) (aq.ax l)<0
theorem Bs.start (r:List Sd)(l:L3):Bs r l 0 r.length:=⟨Nat.zero_le _,Nat.le_refl _,fun k h hk=>absurd hk (Nat.not_lt_zero _),fun h=>absurd h (Nat.lt_irrefl _)⟩
theorem Bs.up {r:List Sd}{l:L3}{i j h:Nat}(b:Bs r l i j)(mc:r.Pairwise fun s u=>aq.gH (aq.ax s.1) (aq.ax u.1)<0)(h2:h<j)(hl:h<r.length)(hc:aq.gH (aq.ax r[h].1) (aq.ax l)<0):Bs r l (h+1) j:=
 ⟨h2,b.len,fun k hk hkh=>by
  by_cases e:k=h
  ·subst e;exact hc
  ·exact Ds (List.pairwise_iff_getElem.1 mc k h hk hl (by omega)) hc,b.hi⟩
theorem Bs.down {r:List Sd}{l:L3}{i j h:Nat}(b:Bs r l i j)(h1:i<=h)(hl:h<r.length)(hc:¬aq.gH (aq.ax r[h].1) (aq.ax l)<0):Bs r l i h:=
 ⟨h1,by omega,b.lo,fun _=>hc⟩
theorem Bs.done {r:List Sd}{l:L3}{i:Nat}(b:Bs r l i i)(v:Sp):kN (l,v) r=r.take i++(l,v)::r.drop i:=DJ b.len b.lo b.hi
theorem RR.half (V:View):RR V (.agg #[.int .i64 1,.int .i64 1,.pointer none]) (((2:Int):Rat)⁻¹):=by
 have e1:(((2:Int):Rat)⁻¹).num=1:=by decide +kernel
 have e2:(((2:Int):Rat)⁻¹).den=2:=by decide +kernel
 refine .inl ⟨by rw [e1,e2];rfl,?_⟩
 unfold Wd
 rw [e1,e2];decide
theorem rR {V:View}{v:Value}{x:Rat}(hx:RR V v x){k:Nat}(hk:Sz k x)(hkm:k+2<1099511627776) :
  ab prog 151 #[v] V fun r V'=>RR V' r (x*((2:Int):Rat)⁻¹):=by
 have hx0:=hx
 obtain ⟨a,b,c,rfl⟩:=hx.shape
 refine tY a b c V _ fun V1 l1=>(ew (hx0.le l1) (RR.half V1) hk (dI km) hkm).mono ?_
 rintro r V2 l2 g
 have g0:=g
 obtain ⟨u,v,w,rfl⟩:=g.shape
 exact ⟨_,_,_,rfl,fun V3 l3=>g0.le l3⟩
theorem pP {V:View}{v:Value}{s:Sp}(h:Dn V v s){k:Nat}(hs:s.sz k)(hk:4*k+8<1099511627776) :
  ab prog 133 #[v] V fun r V'=>RR V' r s.bq:=by
 obtain ⟨x1,x2,p,y1,y2,q,rfl,h1,h2⟩:=h
 have a1:s.a=true->s.b=true->s.bq=0:=fun x y=>by simp [Sp.bq,x,y]
 have a2:s.a=true->s.b=false->s.bq=s.hi-((1:Int):Rat):=fun x y=>by simp [Sp.bq,x,y]
 have a3:s.a=false->s.b=true->s.bq=s.lo+((1:Int):Rat):=fun x y=>by simp [Sp.bq,x,y]
 have a4:s.a=false->s.b=false->s.bq=(s.lo+s.hi)*((2:Int):Rat)⁻¹:=fun x y=>by simp [Sp.bq,x,y]
 have no:∀{P:Prop},s.a=true->s.a=false->P:=fun x y=>by rw [x] at y;cases y
 have WD:∀{P:Prop},s.b=true->s.b=false->P:=fun x y=>by rw [x] at y;cases y
 refine pE x1 x2 p y1 y2 q s.a s.b V _ ⟨fun ha=>⟨fun hb V1 l1=>?_,fun hb=>⟨fun _ V2 l2=>(fF 1 (by decide) (by decide)).mono ?_,fun e=>no ha e⟩⟩,fun ha=>⟨fun e=>no e ha,fun _=>⟨fun hb rF jo=>(fF 1 (by decide) (by decide)).mono ?_,fun hb J5 kD=>(iK (h1.le kD) (h2.le kD) hs.1 hs.2 (by omega)).mono ?_⟩⟩⟩
 ·rw [a1 ha hb];exact RR.zero _
 ·rintro r V3 l3 g
  have g0:=g
  obtain ⟨u,v,w,rfl⟩:=g.shape
  refine ⟨_,_,_,rfl,fun V4 l4=>(ny (h2.le (l2.trans (l3.trans l4))) (g0.le l4) hs.2 fV (by omega)).mono ?_⟩
  rintro r V5 l5 f
  have f0:=f
  obtain ⟨u,v,w,rfl⟩:=f.shape
  exact ⟨_,_,_,rfl,fun V6 l6=>by rw [a2 ha hb];exact f0.le l6⟩
 ·rintro r V3 l3 g
  have g0:=g
  obtain ⟨u,v,w,rfl⟩:=g.shape
  refine ⟨_,_,_,rfl,fun V4 l4=>(iK (h1.le (jo.trans (l3.trans l4))) (g0.le l4) hs.1 fV (by omega)).mono ?_⟩
  rintro r V5 l5 f
  have f0:=f
  obtain ⟨u,v,w,rfl⟩:=f.shape
  exact ⟨_,_,_,rfl,fun V6 l6=>by rw [a3 ha hb];exact f0.le l6⟩
 ·rintro r V3 l3 g
  have g0:=g
  obtain ⟨u,v,w,rfl⟩:=g.shape
  refine ⟨_,_,_,rfl,fun V4 l4=>(rR (g0.le l4) (hs.1.add hs.2) (by omega)).mono ?_⟩
  rintro r V5 l5 f
  have f0:=f
  obtain ⟨u,v,w,rfl⟩:=f.shape
  exact ⟨_,_,_,rfl,fun V6 l6=>by rw [a4 ha hb];exact f0.le l6⟩
theorem Ma {V:View}:ab prog 179 #[] V fun r V'=>r=.agg #[.int .i64 0,.int .i64 0,.pointer none,.int .i64 0,.int .i64 0,.pointer none,.bool true,.bool true]:=
 C0 V _ fun V1 l1=>rfl
end Go.Proofs.Tryz
