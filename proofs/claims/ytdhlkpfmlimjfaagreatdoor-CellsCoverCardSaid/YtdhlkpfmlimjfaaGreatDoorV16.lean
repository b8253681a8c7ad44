import Derived.Test.YtdhlkpfmlimjfaaGreatDoorV15
import Derived.Test.YtdhlkpfmlimjfaaGreatDoorV14
import Derived.Test.YtdhlkpfmlimjfaaGreatDoorV10
import Derived.Test.YtdhlkpfmlimjfaaGreatDoorV9
set_option linter.unusedVariables false
open Go.IntKind (i64 u64 u32)
namespace Go.Proofs.Tryz.Sec
open Go.Eng Go.Big
def half (u:V2):Int:=if u.2.num.sign>0\/u.2.num.sign=0/\u.1.num.sign>0 then 1 else if u.2.num.sign<0\/u.1.num.sign<0 then 2 else 0
def ang (u v:V2):Int:=if half u<half v then -1 else if half u>half v then 1 else -(cr u v).num.sign
theorem uR {q:Rat}:q.num.sign>0↔q>0:=by
 have:=Rat.num_nonneg (q:=-q)
 rw [Rat.neg_num] at this
 rw [gt_iff_lt,Int.sign_pos_iff]
 have a:(0<=-q)↔¬q>0:=by constructor<;>intro h<;>grind
 rw [a] at this
 by_cases h:q>0
 ·exact ⟨fun _=>h,fun _=>by
   have:¬0<=-q.num:=fun g=>this.1 g h
   omega⟩
 ·exact ⟨fun g=>by have:=this.2 h;omega,fun g=>absurd g h⟩
theorem Cj {q:Rat}:q.num.sign<0↔q<0:=by
 have:=@uR (-q)
 rw [Rat.neg_num,Int.sign_neg] at this
 constructor
 ·intro h;have:=this.1 (by omega);grind
 ·intro h;have:=this.2 (by grind);omega
theorem bS (u:V2):half u=1/\up u\/half u=2/\dn u\/half u=0/\u.1=0/\u.2=0:=by
 unfold half up dn
 split
 ·rename_i h;rw [uR,uR,iY] at h;exact .inl ⟨rfl,h⟩
 ·rename_i h
  rw [uR,uR,iY] at h
  split
  ·rename_i h';rw [Cj,Cj] at h';exact .inr (.inl ⟨rfl,by grind⟩)
  ·rename_i h';rw [Cj,Cj] at h';exact .inr (.inr ⟨rfl,by grind,by grind⟩)
theorem mO {u v:V2}:ang u v<0↔half u<half v\/half u=half v/\cr u v>0:=by
 have:=@uR (cr u v)
 unfold ang
 by_cases a:half u<half v
 ·simp [a]
 ·by_cases b:half u>half v
  ·rw [if_neg a,if_pos b];omega
  ·rw [if_neg a,if_neg b];constructor
   ·intro h;exact .inr ⟨by omega,this.1 (by omega)⟩
   ·rintro (h|⟨h,h'⟩)
    ·omega
    ·have:=this.2 h';omega
theorem jv {u v:V2}:ang u v=0↔half u=half v/\cr u v=0:=by
 have:=@iY (cr u v)
 unfold ang
 by_cases a:half u<half v
 ·rw [if_pos a];constructor
  ·intro h;omega
  ·rintro ⟨h,_⟩;omega
 ·by_cases b:half u>half v
  ·rw [if_neg a,if_pos b];constructor
   ·intro h;omega
   ·rintro ⟨h,_⟩;omega
  ·rw [if_neg a,if_neg b];constructor
   ·intro h;exact ⟨by omega,this.1 (by omega)⟩
   ·rintro ⟨_,h⟩;have:=this.2 h;omega
theorem tg (u v:V2):ang u v<0\/ang u v=0\/ang v u<0:=by
 rw [mO,jv,mO]
 have:=fL u v
 rcases Int.lt_trichotomy (half u) (half v) with h|h|h
 ·exact .inl (.inl h)
 ·by_cases p:cr u v>0
  ·exact .inl (.inr ⟨h,p⟩)
  ·by_cases q:cr u v=0
   ·exact .inr (.inl ⟨h,q⟩)
   ·exact .inr (.inr (.inr ⟨h.symm,by grind⟩))
 ·exact .inr (.inr (.inl h))
theorem sI (u v:V2)(h:ang u v<0):¬ang v u<0:=by
 rw [mO] at *
 have:=fL u v
 rintro (h'|⟨h',a⟩)<;>rcases h with h|⟨h,g⟩
 ·omega
 ·omega
 ·omega
 ·grind
theorem Jy {a b d:V2}(hab:half a=half b)(hbd:half b=half d)(h1:cr a b<=0)(h2:cr b d<=0):cr a d<=0:=by
 by_cases h:cr a d<=0
 ·exact h
 exfalso
 have c:cr a d>0:=by grind
 have o:=MB a d b
 have p:=DE a d b
 rcases bS b with ⟨e,i⟩|⟨e,i⟩|⟨e,i⟩
 ·have g:up a:=by rcases bS a with ⟨f,h⟩|⟨f,h⟩|⟨f,h⟩<;>first|exact h|omega
  have j:up d:=by rcases bS d with ⟨f,h⟩|⟨f,h⟩|⟨f,h⟩<;>first|exact h|omega
  unfold up at g i j
  have l:=mn (show -(cr a b)≥0 by grind) (show d.2≥0 by grind)
  have m:=mn (show -(cr b d)≥0 by grind) (show a.2≥0 by grind)
  have n:=mn (show cr a d≥0 by grind) (show b.2≥0 by grind)
  have k:cr a d*b.2=0:=by grind
  have b2:b.2=0:=by rcases Rat.mul_eq_zero.1 k with h|h<;>grind
  have b1:b.1>0:=by grind
  have d2:d.2=0:=by
   by_cases q:d.2>0
   ·have:=mp b1 q;unfold cr at h2;rw [b2] at h2;grind
   ·grind
  have d1:d.1>0:=by grind
  have:=mn (show a.2≥0 by grind) (show d.1≥0 by grind)
  unfold cr at c
  rw [d2] at c
  grind
 ·have g:dn a:=by rcases bS a with ⟨f,h⟩|⟨f,h⟩|⟨f,h⟩<;>first|exact h|omega
  have j:dn d:=by rcases bS d with ⟨f,h⟩|⟨f,h⟩|⟨f,h⟩<;>first|exact h|omega
  unfold dn at g i j
  have l:=mn (show -(cr a b)≥0 by grind) (show -d.2≥0 by grind)
  have m:=mn (show -(cr b d)≥0 by grind) (show -a.2≥0 by grind)
  have n:=mn (show cr a d≥0 by grind) (show -b.2≥0 by grind)
  have k:cr a d*b.2=0:=by grind
  have b2:b.2=0:=by rcases Rat.mul_eq_zero.1 k with h|h<;>grind
  have b1:-b.1>0:=by grind
  have d2:d.2=0:=by
   by_cases q:-d.2>0
   ·have:=mp b1 q;unfold cr at h2;rw [b2] at h2;grind
   ·grind
  have d1:d.1<0:=by grind
  have:=mn (show -a.2≥0 by grind) (show -d.1≥0 by grind)
  unfold cr at c
  rw [d2] at c
  grind
 ·have g:a.1=0/\a.2=0:=by rcases bS a with ⟨f,h⟩|⟨f,h⟩|⟨f,h⟩<;>first|exact h|omega
  unfold cr at c
  rw [g.1,g.2] at c
  grind
theorem LQ {u v:V2}:¬ang u v<0↔half v<half u\/half u=half v/\cr u v<=0:=by
 rw [mO]
 constructor
 ·intro h
  rcases Int.lt_trichotomy (half u) (half v) with g|g|g
  ·exact absurd (.inl g) h
  ·exact .inr ⟨g,by by_cases p:cr u v>0;exact absurd (.inr ⟨g,p⟩) h;grind⟩
  ·exact .inl g
 ·rintro (h|⟨h,g⟩) (h'|⟨h',a⟩)
  ·omega
  ·omega
  ·omega
  ·grind
theorem tj (a b d:V2)(h:¬ang a b<0)(h':¬ang b d<0):¬ang a d<0:=by
 rw [LQ] at *
 rcases h with h|⟨h,g⟩<;>rcases h' with h'|⟨h',g'⟩
 ·exact .inl (by omega)
 ·exact .inl (by omega)
 ·exact .inl (by omega)
 ·exact .inr ⟨by omega,Jy h h' g g'⟩
theorem LR {u v:V2}(hu:nz u)(hv:nz v):ang u v<0↔rM u v:=by
 have b:∀{w:V2},nz w->¬(w.1=0/\w.2=0):=fun h g=>by unfold nz at h;rcases h with h|h;exact h g.1;exact h g.2
 rw [mO]
 unfold rM
 rcases bS u with ⟨e,h⟩|⟨e,h⟩|⟨e,h⟩
 ·rcases bS v with ⟨a,h'⟩|⟨a,h'⟩|⟨a,h'⟩
  ·rw [e,a];constructor
   ·rintro (g|⟨_,g⟩)
    ·omega
    ·exact .inr ⟨.inl ⟨h,h'⟩,g⟩
   ·rintro (⟨_,g⟩|⟨_,g⟩)
    ·exact (dX h' g).elim
    ·exact .inr ⟨rfl,g⟩
  ·rw [e,a];exact ⟨fun _=>.inl ⟨h,h'⟩,fun _=>.inl (by decide)⟩
  ·exact absurd h' (b hv)
 ·rcases bS v with ⟨a,h'⟩|⟨a,h'⟩|⟨a,h'⟩
  ·rw [e,a];constructor
   ·rintro (g|⟨g,_⟩)<;>omega
   ·rintro (⟨g,_⟩|⟨⟨g,_⟩|⟨_,g⟩,_⟩)
    ·exact (dX g h).elim
    ·exact (dX g h).elim
    ·exact (dX h' g).elim
  ·rw [e,a];constructor
   ·rintro (g|⟨_,g⟩)
    ·omega
    ·exact .inr ⟨.inr ⟨h,h'⟩,g⟩
   ·rintro (⟨g,_⟩|⟨_,g⟩)
    ·exact (dX g h).elim
    ·exact .inr ⟨rfl,g⟩
  ·exact absurd h' (b hv)
 ·exact absurd h (b hu)
theorem AF {u v:V2}(hu:nz u)(h:ang u v=0):∃c:Rat,c>0/\u=(c*v.1,c*v.2):=by
 rw [jv] at h
 obtain ⟨e,c⟩:=h
 have fin:∀k:Rat,k>0->u.1=k*v.1->u.2=k*v.2->∃c:Rat,c>0/\u=(c*v.1,c*v.2):=fun k a b g=>⟨k,a,Prod.ext b g⟩
 have pos:∀x y:Rat,y≠0->x*y>0->x*y⁻¹>0:=fun x y j h=>by
  have e:=inv_mul j x
  generalize x*y⁻¹=t at *
  have n:t*(y*y)=x*y:=by grind
  have:=sq_pos (u:=(y,0)) (.inl j)
  unfold dt at this
  by_cases q:t>0
  ·exact q
  ·have:=mn (show -t≥0 by grind) (show y*y≥0 by grind);grind
 unfold cr at c
 have two:v.2≠0->u.2*v.2>0->∃c:Rat,c>0/\u=(c*v.1,c*v.2):=fun a b=>by
  refine fin (u.2*v.2⁻¹) (pos _ _ a b) ?_ (inv_mul a _).symm
  have:=inv_mul a u.1
  have:u.1*v.2*v.2⁻¹=u.2*v.1*v.2⁻¹:=by rw [show u.1*v.2=u.2*v.1 by grind]
  grind
 have one:v.1≠0->u.1*v.1>0->v.2=0->u.2=0->∃c:Rat,c>0/\u=(c*v.1,c*v.2):=fun a b g m=>
  fin (u.1*v.1⁻¹) (pos _ _ a b) (inv_mul a _).symm (by rw [g,m];grind)
 rcases bS u with ⟨l,h⟩|⟨l,h⟩|⟨l,h⟩
 ·have h':up v:=by rcases bS v with ⟨d,h⟩|⟨d,h⟩|⟨d,h⟩<;>first|exact h|omega
  unfold up at h h'
  by_cases q:v.2>0
  ·refine two (by grind) ?_
   by_cases f:u.2>0
   ·exact mp f q
   ·have i:u.2=0:=by grind
    have:=mp (show u.1>0 by grind) q
    rw [i] at c;grind
  ·have v2:v.2=0:=by grind
   have v1:v.1>0:=by grind
   by_cases f:u.2>0
   ·have:=mp f v1;rw [v2] at c;grind
   ·exact one (by grind) (mp (by grind) v1) v2 (by grind)
 ·have h':dn v:=by rcases bS v with ⟨d,h⟩|⟨d,h⟩|⟨d,h⟩<;>first|exact h|omega
  unfold dn at h h'
  by_cases q:v.2<0
  ·refine two (by grind) ?_
   by_cases f:u.2<0
   ·have:=mp (show -u.2>0 by grind) (show -v.2>0 by grind);grind
   ·have i:u.2=0:=by grind
    have:=mp (show -u.1>0 by grind) (show -v.2>0 by grind)
    rw [i] at c;grind
  ·have v2:v.2=0:=by grind
   have v1:-v.1>0:=by grind
   by_cases f:u.2<0
   ·have:=mp (show -u.2>0 by grind) v1;rw [v2] at c;grind
   ·refine one (by grind) ?_ v2 (by grind)
    have:=mp (show -u.1>0 by grind) v1;grind
 ·unfold nz at hu;grind
theorem Jn {a b d:V2}(h:ang a b=0)(h':ang b d=0):ang a d=0:=by
 have z:∀{u v:V2},ang u v=0↔¬ang u v<0/\¬ang v u<0:=by
  intro u v
  constructor
  ·intro e
   refine ⟨by omega,?_⟩
   rw [jv] at e
   have:=fL u v
   rw [mO]
   rintro (g|⟨_,g⟩)
   ·omega
   ·grind
  ·rintro ⟨g,c⟩
   rcases tg u v with e|e|e
   ·exact absurd e g
   ·exact e
   ·exact absurd e c
 rw [z] at *
 exact ⟨tj _ _ _ h.1 h'.1,tj _ _ _ h'.2 h.2⟩
theorem th (a:V2):ang a a=0:=jv.2 ⟨rfl,by unfold cr;grind⟩
theorem Ez {a b d:V2}(h:¬ang b a<0)(h':ang b d<0):ang a d<0:=by
 by_cases q:ang a d<0
 ·exact q
 ·exact absurd h' (tj _ _ _ h q)
def eP (u v:V2):Bool:=decide (ang u v=0)
theorem A6:∀{r:List V2} {p:V2},(p::r).Pairwise (fun x y=>¬ang y x<0) ->
  (yT eP p r).Pairwise (fun x y=>ang x y<0)/\(∀x∈yT eP p r,ang p x<0)/\∀x∈p::r,∃y∈p::yT eP p r,ang y x=0
 | [],p,_=>⟨List.Pairwise.nil,(fun x h=>by cases h),fun x h=>⟨x,h,th x⟩⟩
 | a::r,p,h=>by
  obtain ⟨h1,h2⟩:=List.pairwise_cons.1 h
  obtain ⟨i1,i2,i3⟩:=A6 h2
  have f:¬ang a p<0:=h1 a (List.mem_cons_self ..)
  unfold yT
  by_cases e:ang a p=0
  ·have:eP a p=true:=decide_eq_true e
   rw [if_pos this]
   have i:¬ang p a<0:=fun g=>by
    rcases jv.1 e with ⟨j,k⟩
    rw [mO] at g
    have:=fL a p
    rcases g with g|⟨_,g⟩
    ·omega
    ·grind
   refine ⟨i1,fun x c=>Ez f (i2 x c),fun x c=>?_⟩
   rcases List.mem_cons.1 c with rfl|c
   ·exact ⟨x,List.mem_cons_self ..,th x⟩
   ·obtain ⟨y,d,g⟩:=i3 x c
    rcases List.mem_cons.1 d with rfl|d
    ·refine ⟨p,List.mem_cons_self ..,Jn (b:=y) ?_ g⟩
     rcases tg p y with q|q|q
     ·exact absurd q i
     ·exact q
     ·exact absurd q f
    ·exact ⟨y,List.mem_cons_of_mem _ d,g⟩
  ·have:eP a p=false:=decide_eq_false e
   rw [this]
   have lt:ang p a<0:=by
    rcases tg p a with q|q|q
    ·exact q
    ·exfalso;apply e
     rw [jv] at *
     have:=fL a p
     exact ⟨q.1.symm,by grind⟩
    ·exact absurd q f
   refine ⟨List.pairwise_cons.2 ⟨i2,i1⟩,fun x c=>?_,fun x c=>?_⟩
   ·rcases List.mem_cons.1 c with rfl|c
    ·exact lt
    ·exact Ez (b:=a) f (i2 x c)
   ·rcases List.mem_cons.1 c with rfl|c
    ·exact ⟨x,List.mem_cons_self ..,th x⟩
    ·obtain ⟨y,d,g⟩:=i3 x c
     exact ⟨y,List.mem_cons_of_mem _ d,g⟩
theorem Hc {m:List V2}(h:m.Pairwise (fun x y=>¬ang y x<0)):(wg eP m).Pairwise (fun x y=>ang x y<0)/\∀x∈m,∃y∈wg eP m,ang y x=0:=by
 cases m with
 | nil=>exact ⟨List.Pairwise.nil,fun x h=>by cases h⟩
 | cons p r=>
  obtain ⟨a,b,c⟩:=A6 h
  exact ⟨List.pairwise_cons.2 ⟨b,a⟩,c⟩
theorem M3 {m:List V2}(h:m.Pairwise (fun x y=>¬ang y x<0))(hn:∀r∈m,nz r)(ho:∀r∈m,∃s∈m,SW s r):KT (wg eP m)/\∀x∈m,∃y∈wg eP m,∃c:Rat,c>0/\y=(c*x.1,c*x.2):=by
 obtain ⟨i,j⟩:=Hc h
 have sub:∀x∈wg eP m,x∈m:=Hd
 have mem:∀x∈m,∃y∈wg eP m,∃c:Rat,c>0/\y=(c*x.1,c*x.2):=fun x l=>by
  obtain ⟨y,d,e⟩:=j x l
  exact ⟨y,d,AF (hn y (sub y d)) e⟩
 refine ⟨⟨fun r f=>hn r (sub r f),fun r f=>?_,?_⟩,mem⟩
 ·obtain ⟨s,n,k,o,p,q⟩:=ho r (sub r f)
  obtain ⟨y,d,c,t,e⟩:=mem s n
  refine ⟨y,d,c*k,mp t o,?_,?_⟩
  ·rw [e];show c*s.1=_;rw [p];grind
  ·rw [e];show c*s.2=_;rw [q];grind
 ·refine List.Pairwise.imp_of_mem ?_ i
  intro a b u v g
  exact (LR (hn a (sub a u)) (hn b (sub b v))).1 g
section
variable {D:List V2} (h:KT D)
include h
theorem MO {i:Nat}{u w:V2}(hi:D[i]?=some u)(hw:D[(i+1)%D.length]?=some w):cr u w≥0:=by
 by_cases q:cr u w≥0
 ·exact q
 exfalso
 have b:w∈D:=List.mem_of_getElem? hw
 have hu:u∈D:=List.mem_of_getElem? hi
 obtain ⟨s,c,d⟩:=h.cl w b
 obtain ⟨k,f,_,g⟩:=zt d u
 have p:cr u s>0:=by rw [g];have:=mp f (show -(cr u w)>0 by grind);grind
 obtain ⟨j,a⟩:=List.getElem?_of_mem c
 refine KX (h.nz u hu) (h.nz w b) (h.nz s c) (Q8 h hi hw a (fun e=>?_) (fun e=>?_)) p (by grind)
 ·rw [e,hi] at a;cases a;unfold cr at p;grind
 ·rw [e,hw] at a;cases a;grind
omit h in
def PY (f:V2->V2->V2)(D:List V2):List V2:=(List.range D.length).map fun i=>f (D.getD i (0,0)) (D.getD ((i+1)%D.length) (0,0))
theorem Kx {f:V2->V2->V2}(hf:∀u∈D,∀w∈D,cr u w≥0->Ff u w (f u w))(hD:D≠[]):Qk D (PY f D):=by
 have j:0<D.length:=List.length_pos_iff.2 hD
 have key:∀i u w,D[i]?=some u->D[(i+1)%D.length]?=some w->D.getD i (0,0)=u/\D.getD ((i+1)%D.length) (0,0)=w/\Ff u w (f u w):=fun i u w a hw=>
  ⟨by rw [List.getD_eq_getElem?_getD,a];rfl,by rw [List.getD_eq_getElem?_getD,hw];rfl,hf u (List.mem_of_getElem? a) w (List.mem_of_getElem? hw) (MO h a hw)⟩
 refine .inr ⟨hD,fun x k=>?_,fun i u w a hw=>?_⟩
 ·obtain ⟨i,a,rfl⟩:=List.mem_map.1 k
  have a:=List.mem_range.1 a
  have e:D[i]?=some D[i]:=List.getElem?_eq_getElem a
  have g:D[(i+1)%D.length]?=some (D[(i+1)%D.length]'(Nat.mod_lt _ j)):=List.getElem?_eq_getElem _
  obtain ⟨b,c,d⟩:=key i _ _ e g
  exact ⟨i,_,_,e,g,by rw [b,c];exact d⟩
 ·obtain ⟨b,c,d⟩:=key i u w a hw
  refine ⟨_,List.mem_map.2 ⟨i,List.mem_range.2 (List.getElem?_eq_some_iff.1 a).1,rfl⟩,?_⟩
  rw [b,c];exact d
end
theorem sK {a b c x y z:Int}(h1:a*y=b*x)(h2:a*z=c*x)(g:Nat.gcd (Nat.gcd x.natAbs y.natAbs) z.natAbs=1):x.natAbs∣a.natAbs:=by
 have d:a.natAbs*y.natAbs=b.natAbs*x.natAbs:=by rw [←Int.natAbs_mul,←Int.natAbs_mul,h1]
 have e:a.natAbs*z.natAbs=c.natAbs*x.natAbs:=by rw [←Int.natAbs_mul,←Int.natAbs_mul,h2]
 have d1:x.natAbs∣a.natAbs*Nat.gcd (Nat.gcd x.natAbs y.natAbs) z.natAbs:=by
  rw [←Nat.gcd_mul_left,←Nat.gcd_mul_left]
  exact Nat.dvd_gcd (Nat.dvd_gcd ⟨a.natAbs,by rw [Nat.mul_comm]⟩ ⟨b.natAbs,by rw [d,Nat.mul_comm]⟩) ⟨c.natAbs,by rw [e,Nat.mul_comm]⟩
 rwa [g,Nat.mul_one] at d1
theorem Gg {l m:L3}(ol:okL l=true)(om:okL m=true)(cl:cP l=l)(cm:cP m=m){x y:Rat}(hl:aj l x y=0)(hm:aj m x y=0)
  (hc:cr (dirL l) (dirL m)=0):l=m:=by
 unfold okL at ol om
 rw [Bool.and_eq_true,decide_eq_true_iff,decide_eq_true_iff] at ol om
 have d:l.1*m.2.1=l.2.1*m.1:=by
  unfold cr dirL at hc
  have:(l.1:Rat)*(m.2.1:Rat)=(l.2.1:Rat)*(m.1:Rat):=by grind
  exact_mod_cast this
 unfold aj at hl hm
 have s:(l.1:Rat)*(m.2.1:Rat)=(l.2.1:Rat)*(m.1:Rat):=by exact_mod_cast d
 have e:l.1*m.2.2=l.2.2*m.1:=by
  have:(l.1:Rat)*(m.2.2:Rat)=(l.2.2:Rat)*(m.1:Rat):=by grind
  exact_mod_cast this
 have f:l.2.1*m.2.2=l.2.2*m.2.1:=by
  have:(l.2.1:Rat)*(m.2.2:Rat)=(l.2.2:Rat)*(m.2.1:Rat):=by grind
  exact_mod_cast this
 obtain ⟨o,j⟩:=ol
 obtain ⟨t,k⟩:=om
 unfold ig at j k
 have p:Nat.gcd (Nat.gcd l.2.1.natAbs l.1.natAbs) l.2.2.natAbs=1:=by rw [Nat.gcd_comm l.2.1.natAbs];exact j
 have q:Nat.gcd (Nat.gcd m.2.1.natAbs m.1.natAbs) m.2.2.natAbs=1:=by rw [Nat.gcd_comm m.2.1.natAbs];exact k
 have u:l.1.natAbs=m.1.natAbs:=Nat.dvd_antisymm (sK (a:=m.1) (b:=m.2.1) (c:=m.2.2) (by rw [Int.mul_comm,←d,Int.mul_comm]) (by rw [Int.mul_comm,←e,Int.mul_comm]) j) (sK d e k)
 have v:l.2.1.natAbs=m.2.1.natAbs:=Nat.dvd_antisymm (sK (a:=m.2.1) (b:=m.1) (c:=m.2.2) (by rw [Int.mul_comm,d,Int.mul_comm]) (by rw [Int.mul_comm,←f,Int.mul_comm]) p) (sK (b:=l.1) (c:=l.2.2) d.symm f q)
 have sl:¬(l.1<0\/l.1=0/\l.2.1<0):=fun h=>by
  unfold cP at cl
  rw [if_pos h] at cl
  have g:-l.1=l.1:=congrArg (fun x:L3=>x.1) cl
  have i:-l.2.1=l.2.1:=congrArg (fun x:L3=>x.2.1) cl
  omega
 have sm:¬(m.1<0\/m.1=0/\m.2.1<0):=fun h=>by
  unfold cP at cm
  rw [if_pos h] at cm
  have g:-m.1=m.1:=congrArg (fun x:L3=>x.1) cm
  have i:-m.2.1=m.2.1:=congrArg (fun x:L3=>x.2.1) cm
  omega
 have g:l.1=m.1:=by omega
 by_cases z:l.1=0
 ·have i:l.2.1=m.2.1:=by omega
  have r:l.2.1≠0:=fun h=>o ⟨z,h⟩
  have n:m.2.2=l.2.2:=Int.eq_of_mul_eq_mul_left r (by rw [f,i,Int.mul_comm])
  exact Prod.ext g (Prod.ext i n.symm)
 ·have i:m.2.1=l.2.1:=Int.eq_of_mul_eq_mul_left z (by rw [d,g,Int.mul_comm])
  have n:m.2.2=l.2.2:=Int.eq_of_mul_eq_mul_left z (by rw [e,g,Int.mul_comm])
  exact Prod.ext g (Prod.ext i.symm n.symm)
end Go.Proofs.Tryz.Sec
namespace Go.Proofs.Tryz.Sec
def mx (x:Rat×Rat)(t:Rat):Rat:=x.1+t*(x.2-x.1)
theorem DL {x:Rat×Rat}{t:Rat}(h1:x.1>0)(h2:x.2>0)(t0:t>0)(t1:t<=1):mx x t>0:=by
 have a:=mn (show 1-t≥0 by grind) (show x.1≥0 by grind)
 have b:=mp t0 h2
 unfold mx;grind
theorem MK {x:Rat×Rat}{t s:Rat}(h1:x.1>0)(hs:mx x s≥0)(s0:s>0)(t0:t>0)(ts:t<=s):mx x t≥0:=by
 unfold mx at *
 have e:s*(x.1+t*(x.2-x.1))=(s-t)*x.1+t*(x.1+s*(x.2-x.1)):=by grind
 have a:=mn (show s-t≥0 by grind) (show x.1≥0 by grind)
 have b:=mn (show t≥0 by grind) hs
 by_cases h:x.1+t*(x.2-x.1)≥0
 ·exact h
 ·have:=mp s0 (show -(x.1+t*(x.2-x.1))>0 by grind)
  grind
theorem sU {y:Rat×Rat}(h1:y.1>0){s:Rat}(s0:s>0)(hs:mx y s<=0):∃t,t>0/\t<=s/\mx y t=0:=by
 have a:y.1-y.2>0:=by
  by_cases c:y.1-y.2>0
  ·exact c
  ·have:=mn (show s≥0 by grind) (show y.2-y.1≥0 by grind)
   unfold mx at hs;grind
 have e:=inv_mul (show y.1-y.2≠0 by grind) y.1
 have p:=mp h1 (Rat.inv_pos.2 a)
 refine ⟨y.1*(y.1-y.2)⁻¹,p,?_,?_⟩
 ·generalize y.1*(y.1-y.2)⁻¹=t at *
  by_cases c:t<=s
  ·exact c
  ·have:=mp (show t-s>0 by grind) a
   unfold mx at hs;grind
 ·generalize y.1*(y.1-y.2)⁻¹=t at *
  unfold mx;grind
theorem Ds:∀(L:List (Rat×Rat)),(∀x∈L,x.1>0)->(∃x∈L,x.2<=0)->∃t,t>0/\t<=1/\(∀x∈L,mx x t≥0)/\∃x∈L,mx x t=0
 | [],_,h=>by obtain ⟨x,hx,_⟩:=h;cases hx
 | y::L,h0,h=>by
  have j:=h0 y (List.mem_cons_self ..)
  have f:=fun x hx=>h0 x (List.mem_cons_of_mem y hx)
  by_cases c:∃x∈L,x.2<=0
  ·obtain ⟨t,t0,t1,a,x,hx,e⟩:=Ds L f c
   by_cases g:mx y t≥0
   ·exact ⟨t,t0,t1,fun z b=>by rcases List.mem_cons.1 b with rfl|b;exact g;exact a z b,x,List.mem_cons_of_mem _ hx,e⟩
   ·obtain ⟨s,d,st,es⟩:=sU j t0 (by grind)
    exact ⟨s,d,by grind,fun z b=>by rcases List.mem_cons.1 b with rfl|b;grind;exact MK (f z b) (a z b) t0 d st,y,List.mem_cons_self ..,es⟩
  ·obtain ⟨x,hx,i⟩:=h
   have:x=y:=by
    rcases List.mem_cons.1 hx with rfl|hx
    ·rfl
    ·exact absurd ⟨x,hx,i⟩ c
   subst this
   obtain ⟨s,d,st,es⟩:=sU j (s:=1) (by decide) (by unfold mx;grind)
   refine ⟨s,d,st,fun z b=>?_,x,List.mem_cons_self ..,es⟩
   rcases List.mem_cons.1 b with rfl|b
   ·grind
   ·have:z.2>0:=by
     by_cases q:z.2>0
     ·exact q
     ·exact absurd ⟨z,b,by grind⟩ c
    have:=DL (f z b) this d st
    grind
theorem zN:∀(L:List (Rat×Rat)),(∀x∈L,x.1>0)->∃s,s>0/\∀x∈L,x.1+s*x.2>0
 | [],_=>⟨1,by decide,fun x h=>by cases h⟩
 | y::L,h0=>by
  have hy:=h0 y (List.mem_cons_self ..)
  obtain ⟨s,d,h⟩:=zN L fun x f=>h0 x (List.mem_cons_of_mem y f)
  by_cases c:y.1+s*y.2>0
  ·exact ⟨s,d,fun z a=>by rcases List.mem_cons.1 a with rfl|a;exact c;exact h z a⟩
  ·have b:-y.2>0:=by
    by_cases q:y.2<0
    ·grind
    ·have:=mn (show s≥0 by grind) (show y.2≥0 by grind);grind
   have e:=inv_mul (show -y.2≠0 by grind) y.1
   have p:=mp hy (Rat.inv_pos.2 b)
   generalize y.1*(-y.2)⁻¹=r at *
   have j:r<=s:=by
    by_cases q:r<=s
    ·exact q
    ·have:=mp (show r-s>0 by grind) b;grind
   refine ⟨r*(1 / 2),by grind,fun z a=>?_⟩
   rcases List.mem_cons.1 a with rfl|a
   ·grind
   ·have g:=h0 z (List.mem_cons_of_mem _ a)
    have i:=h z a
    by_cases q:z.2≥0
    ·have:=mn (show r*(1 / 2)≥0 by grind) q;grind
    ·have:=mn (show s-r*(1 / 2)≥0 by grind) (show -z.2≥0 by grind)
     grind
def pos (M:List L3)(p:V2):Prop:=∀m∈M,aj m p.1 p.2>0
def Es (M:List L3)(l:L3):Prop:=∃p:V2,aj l p.1 p.2=0/\∀m∈M,m≠l->aj m p.1 p.2>0
def QJ (M:List L3):Prop:=∀l∈M,∀m∈M,l≠m->∀p:V2,aj l p.1 p.2=0->aj m p.1 p.2=0->cr (dirL l) (dirL m)≠0
theorem Kh {l m:L3}{w:V2}(hw:w.1≠0\/w.2≠0)(h1:nv l w=0)(h2:nv m w=0):cr (dirL l) (dirL m)=0:=by
 have a:cr (dirL l) (dirL m)*w.1=0:=by unfold nv at *;unfold cr dirL;grind
 have b:cr (dirL l) (dirL m)*w.2=0:=by unfold nv at *;unfold cr dirL;grind
 rcases hw with h|h
 ·rcases Rat.mul_eq_zero.1 a with g|g;exact g;exact absurd g h
 ·rcases Rat.mul_eq_zero.1 b with g|g;exact g;exact absurd g h
theorem EJ (u:V2):cr u u=0:=by unfold cr;grind
theorem o_ (m:L3)(q p:V2)(t:Rat):aj m (q.1+t*(p.1-q.1)) (q.2+t*(p.2-q.2))=aj m q.1 q.2+t*(aj m p.1 p.2-aj m q.1 q.2):=by unfold aj;grind
theorem MM (m:L3)(q p:V2)(t:Rat):nv m (q.1+t*(p.1-q.1),q.2+t*(p.2-q.2))=nv m q+t*(nv m p-nv m q):=by unfold nv;grind
theorem MN (m:L3)(q x:V2):nv m (q.1-x.1,q.2-x.2)=aj m q.1 q.2-aj m x.1 x.2:=by unfold nv aj;grind
theorem Ut {M:List L3}(hd:QJ M)(hn:∀m∈M,(dirL m).1≠0\/(dirL m).2≠0){q p:V2}(hq:pos M q)(hp:∀m∈M,Es M m->aj m p.1 p.2>0):pos M p:=by
 intro B C
 by_cases c:aj B p.1 p.2>0
 ·exact c
 exfalso
 let f:L3->Rat×Rat:=fun m=>(aj m q.1 q.2,aj m p.1 p.2)
 obtain ⟨t,t0,t1,ge,x,j,ex⟩:=Ds (M.map f) (fun x j=>by obtain ⟨m,hm,rfl⟩:=List.mem_map.1 j;exact hq m hm) ⟨f B,List.mem_map_of_mem C,by show aj B p.1 p.2<=0;grind⟩
 obtain ⟨i,l,rfl⟩:=List.mem_map.1 j
 let X:V2:=(q.1+t*(p.1-q.1),q.2+t*(p.2-q.2))
 have D:∀m,aj m X.1 X.2=mx (f m) t:=fun m=>o_ m q p t
 have N:∀m∈M,aj m X.1 X.2≥0:=fun m hm=>by rw [D];exact ge _ (List.mem_map_of_mem hm)
 have J:aj i X.1 X.2=0:=by rw [D];exact ex
 let u:V2:=(q.1-X.1,q.2-X.2)
 have K:∀m,nv m u=aj m q.1 q.2-aj m X.1 X.2:=fun m=>MN m q X
 let Z:=M.filter fun m=>decide (aj m X.1 X.2=0)
 have r:∀m,m∈Z↔m∈M/\aj m X.1 X.2=0:=fun m=>by simp [Z,List.mem_filter]
 have O:i∈Z:=(r i).2 ⟨l,J⟩
 let d:=dirL i
 have d0:nv i d=0:=by rw [EY];exact EJ _
 let g:L3->Rat×Rat:=fun m=>(nv m u,nv m d)
 obtain ⟨k,k0,k1,P,y,Q,R⟩:=Ds (Z.map g) (fun x j=>by
  obtain ⟨m,hm,rfl⟩:=List.mem_map.1 j
  obtain ⟨S,T⟩:=(r m).1 hm
  show nv m u>0
  rw [K,T];have:=hq m S;grind) ⟨g i,List.mem_map_of_mem O,by show nv i d<=0;rw [d0];grind⟩
 obtain ⟨n,E,rfl⟩:=List.mem_map.1 Q
 obtain ⟨F,G⟩:=(r n).1 E
 let w:V2:=(u.1+k*(d.1-u.1),u.2+k*(d.2-u.2))
 have H:∀m,nv m w=mx (g m) k:=fun m=>MM m u d k
 have L:nv n w=0:=by rw [H];exact R
 have U:w.1≠0\/w.2≠0:=by
  by_cases e:k=1
  ·have:=hn i l
   have v:w.1=d.1:=by dsimp only [w];rw [e];grind
   have A:w.2=d.2:=by dsimp only [w];rw [e];grind
   rw [v,A];exact this
  ·have a:nv i w>0:=by
    rw [H]
    show nv i u+k*(nv i d-nv i u)>0
    rw [d0]
    have:nv i u>0:=by rw [K,J];have:=hq i l;grind
    have:=mp (show 1-k>0 by grind) this
    grind
   by_cases v:w.1=0
   ·by_cases A:w.2=0
    ·unfold nv at a;rw [v,A] at a;grind
    ·exact .inr A
   ·exact .inl v
 obtain ⟨s,V,W⟩:=zN ((M.filter fun m=>decide (aj m X.1 X.2>0)).map fun m=>(aj m X.1 X.2,nv m w)) (fun x j=>by
  obtain ⟨m,hm,rfl⟩:=List.mem_map.1 j
  simpa using (List.mem_filter.1 hm).2)
 have es:Es M n:=by
  refine ⟨(X.1+s*w.1,X.2+s*w.2),?_,fun m hm I=>?_⟩
  ·rw [gJ,G,L];grind
  ·rw [gJ]
   by_cases z:aj m X.1 X.2=0
   ·have Y:=(r m).2 ⟨hm,z⟩
    have g0:nv m w≥0:=by rw [H];exact P _ (List.mem_map_of_mem Y)
    have ne:nv m w≠0:=fun e=>hd n F m hm (fun h=>I h.symm) X G z (Kh U L e)
    have:=mp V (show nv m w>0 by grind)
    rw [z];grind
   ·have gz:=N m hm
    have o:(aj m X.1 X.2,nv m w)∈((M.filter fun m=>decide (aj m X.1 X.2>0)).map fun m=>(aj m X.1 X.2,nv m w)):=List.mem_map.2 ⟨m,List.mem_filter.2 ⟨hm,by simp;grind⟩,rfl⟩
    exact W _ o
 have a:=hp n F es
 have b:=hq n F
 have:=DL (x:=f n) b a t0 t1
 rw [←D,G] at this
 grind
def EW (l:L3):V2:=((l.1:Rat),(l.2.1:Rat))
theorem Tw {x y:Rat}(h:x≠0\/y≠0):x*x+y*y>0:=by
 have p:∀z:Rat,z≠0->z*z>0:=fun z a=>by
  by_cases c:z>0
  ·exact mp c c
  ·have:=mp (show -z>0 by grind) (show -z>0 by grind);grind
 have q:∀z:Rat,z*z≥0:=fun z=>by
  by_cases c:z≥0
  ·exact mn c c
  ·have:=mn (show -z≥0 by grind) (show -z≥0 by grind);grind
 rcases h with h|h
 ·have:=p x h;have:=q y;grind
 ·have:=p y h;have:=q x;grind
theorem Ia {l:L3}(h:(dirL l).1≠0\/(dirL l).2≠0):nv l (EW l)>0:=by
 have:nv l (EW l)=(l.1:Rat)*(l.1:Rat)+(l.2.1:Rat)*(l.2.1:Rat):=rfl
 rw [this]
 refine Tw ?_
 rcases h with h|h
 ·exact .inr h
 ·left;intro e;apply h;show -(l.1:Rat)=0;rw [e];grind
theorem JB {M:List L3}(hd:QJ M)(hn:∀m∈M,(dirL m).1≠0\/(dirL m).2≠0){q:V2}(hq:pos M q)(h0:M≠[]):∃l∈M,Es M l:=by
 obtain ⟨l,a⟩:=List.exists_mem_of_ne_nil M h0
 by_cases c:∃l∈M,Es M l
 ·exact c
 exfalso
 have d:=Ia (hn l a)
 have e:=inv_mul (show nv l (EW l)≠0 by grind) (aj l q.1 q.2)
 have b:=Ut hd hn hq (p:=(q.1+-(aj l q.1 q.2*(nv l (EW l))⁻¹)*(EW l).1,q.2+-(aj l q.1 q.2*(nv l (EW l))⁻¹)*(EW l).2)) (fun m hm he=>absurd ⟨m,hm,he⟩ c) l a
 rw [gJ] at b
 grind
theorem tV {M:List L3}{l:L3}(hn:(dirL l).1≠0\/(dirL l).2≠0){x:V2}(hx:aj l x.1 x.2=0)(h:∀m∈M,m≠l->aj m x.1 x.2>0)(L:List L3)(hL:∀m∈L,aj m x.1 x.2>0):∃q:V2,pos M q/\aj l q.1 q.2>0/\pos L q:=by
 have c:=Ia hn
 obtain ⟨s,d,a⟩:=zN (((M.filter fun m=>decide (m≠l))++L).map fun m=>(aj m x.1 x.2,nv m (EW l))) (fun y f=>by
  obtain ⟨m,hm,rfl⟩:=List.mem_map.1 f
  rcases List.mem_append.1 hm with hm|hm
  ·have:=List.mem_filter.1 hm
   exact h m this.1 (by simpa using this.2)
  ·exact hL m hm)
 have b:aj l (x.1+s*(EW l).1) (x.2+s*(EW l).2)>0:=by rw [gJ,hx];have:=mp d c;grind
 refine ⟨(x.1+s*(EW l).1,x.2+s*(EW l).2),fun m hm=>?_,b,fun m hm=>?_⟩
 ·by_cases e:m=l
  ·rw [e];exact b
  ·rw [gJ]
   exact a (aj m x.1 x.2,nv m (EW l)) (List.mem_map.2 ⟨m,List.mem_append_left _ (List.mem_filter.2 ⟨hm,by simpa using e⟩),rfl⟩)
 ·rw [gJ]
  exact a (aj m x.1 x.2,nv m (EW l)) (List.mem_map.2 ⟨m,List.mem_append_right _ hm,rfl⟩)
theorem oE {M:List L3}{l:L3}(hno:∀x:V2,aj l x.1 x.2=0->¬pos M x){q p:V2}(hq:pos M q)(hp:pos M p):aj l q.1 q.2>0->aj l p.1 p.2>0:=by
 intro h
 by_cases c:aj l p.1 p.2>0
 ·exact c
 exfalso
 obtain ⟨t,t0,t1,e⟩:=sU (y:=(aj l q.1 q.2,aj l p.1 p.2)) h (s:=1) (by decide) (by unfold mx;grind)
 refine hno (q.1+t*(p.1-q.1),q.2+t*(p.2-q.2)) ?_ fun m hm=>?_
 ·rw [o_];exact e
 ·rw [o_];exact DL (x:=(aj m q.1 q.2,aj m p.1 p.2)) (hq m hm) (hp m hm) t0 t1
end Go.Proofs.Tryz.Sec
namespace Go.Proofs.Tryz
open Go.Eng Go.Big
def Sp.nd (s:Sp)(t:Rat):Prop:=(s.a=true\/s.lo<t)/\(s.b=true\/t<s.hi)
def FY (ss:List Sp)(t:Rat):Prop:=∃s∈ss,s.nd t
def Sp.kY (s:Sp):Prop:=s.can/\s.emp=false
def Sp.NI (s t:Sp):Prop:=s.b=false/\t.a=false/\s.hi<t.lo
def GD (ss:List Sp):Prop:=(∀s∈ss,s.kY)/\ss.Pairwise Sp.NI
theorem pick (E:List Rat):∀l u:Rat,l<u->∃t,l<t/\t<u/\t∉E:=by
 induction E with
 | nil=>exact fun l u h=>⟨(l+u) / 2,by grind,by grind,by simp⟩
 | cons e r ih=>
  intro l u h
  by_cases c:l<e/\e<u
  ·obtain ⟨t,a,b,d⟩:=ih l e c.1
   refine ⟨t,a,by grind,fun hm=>?_⟩
   rcases List.mem_cons.1 hm with rfl|hm
   ·grind
   ·exact d hm
  ·obtain ⟨t,a,b,d⟩:=ih l u h
   refine ⟨t,a,b,fun hm=>?_⟩
   rcases List.mem_cons.1 hm with rfl|hm
   ·exact c ⟨a,b⟩
   ·exact d hm
theorem BJ {s:Sp}(h:s.emp=false)(ha:s.a=false)(hb:s.b=false):s.lo<s.hi:=by
 rcases Sp.kh.1 h with h|h|h
 ·rw [ha] at h;cases h
 ·rw [hb] at h;cases h
 ·exact h
theorem GD.tail {s:Sp}{r:List Sp}(h:GD (s::r)):GD r:=⟨fun x a=>h.1 x (by simp [a]),(List.pairwise_cons.1 h.2).2⟩
theorem GD.NI {s:Sp}{r:List Sp}(h:GD (s::r)){x:Sp}(hx:x∈r):s.NI x:=(List.pairwise_cons.1 h.2).1 x hx
set_option linter.unusedSectionVars false
section
variable {s s':Sp} {r r':List Sp} {E:List Rat} (h:GD (s :: r)) (h':GD (s' :: r')) (e:∀t,t ∉ E->FY (s :: r) t->FY (s' :: r') t)
include h h' e
end
theorem Sp.ext' {s t:Sp}(h1:s.a=t.a)(h2:s.b=t.b)(h3:s.lo=t.lo)(h4:s.hi=t.hi):s=t:=by
 cases s;cases t;simp at *;exact ⟨h3,h4,h1,h2⟩
end Go.Proofs.Tryz
namespace Go.Proofs.Tryz
open Go.Eng Go.Big
def gF (cuts:List Rat)(i:Nat):Sp:=⟨if 0<i then cuts.getD (i-1) 0 else 0,if i<cuts.length then cuts.getD i 0 else 0,decide (i=0),decide (i=cuts.length)⟩
def HO (out:List Sp)(s:Sp):List Sp:=out.dropLast++[⟨(out.getLastD Sp.zero).lo,s.hi,(out.getLastD Sp.zero).a,s.b⟩]
def fa (cuts:List Rat)(marks:List Bool):Nat->List Sp
 | 0=>[]
 | i+1=>if marks.getD i false=true then (if 0<i/\marks.getD (i-1) false=true/\0<(fa cuts marks i).length then HO (fa cuts marks i) (gF cuts i) else fa cuts marks i++[gF cuts i]) else fa cuts marks i
end Go.Proofs.Tryz
namespace Go.Proofs.Tryz
open Go.Eng Go.Big
set_option linter.unusedSectionVars false
def asc (c:List Rat):Prop:=c.Pairwise (·< ·)
section
variable {c:List Rat} (h:asc c)
include h
theorem yG {i j:Nat}(JM:i<j)(hj:j<c.length):c.getD i 0<c.getD j 0:=by
 rw [iS (by omega),iS hj]
 exact List.pairwise_iff_getElem.1 h i j (by omega) hj JM
omit h
include h
theorem Ht {i:Nat}(hi:i<=c.length):(gF c i).kY:=by
 refine ⟨⟨fun e=>?_,fun e=>?_⟩,Sp.kh.2 ?_⟩
 ·have e:i=0:=of_decide_eq_true e
  subst e;rfl
 ·have e:i=c.length:=of_decide_eq_true e
  subst e
  exact if_neg (Nat.lt_irrefl _)
 ·by_cases a:i=0
  ·exact .inl (decide_eq_true a)
  ·by_cases b:i=c.length
   ·exact .inr (.inl (decide_eq_true b))
   ·refine .inr (.inr ?_)
    show (if 0<i then c.getD (i-1) 0 else 0)<(if i<c.length then c.getD i 0 else 0)
    rw [if_pos (by omega),if_pos (by omega)]
    exact yG h (by omega) (by omega)
omit h
theorem DS:(fN c).length=c.length+1:=by
 unfold fN
 by_cases a:c.length=0
 ·rw [if_pos a,a];rfl
 ·rw [if_neg a,List.length_append,B2 c (by omega)];rfl
end
section
variable {c:List Rat} {ms:List Bool}
structure FI (c:List Rat) (ms:List Bool) (i:Nat):Prop where
 r:GD (fa c ms i)
 mem:∀t,t∉c->(FY (fa c ms i) t↔∃j,j<i/\ms.getD j false=true/\(gF c j).nd t)
 top:0<i->i<=c.length->∀s∈fa c ms i,s.b=false/\s.hi<=c.getD (i-1) 0
 str:0<i->i<=c.length->ms.getD (i-1) false=false->∀s∈fa c ms i,s.hi<c.getD (i-1) 0
 last:0<i->i<=c.length->ms.getD (i-1) false=true->∃l0 l,fa c ms i=l0++[l]/\l.hi=c.getD (i-1) 0
theorem qf {ss:List Sp}{s:Sp}{t:Rat}:FY (ss++[s]) t↔FY ss t\/s.nd t:=by
 unfold FY
 constructor
 ·rintro ⟨x,a,b⟩
  rcases List.mem_append.1 a with a|a
  ·exact .inl ⟨x,a,b⟩
  ·obtain rfl:x=s:=by simpa using a
   exact .inr b
 ·rintro (⟨x,a,b⟩|b)
  ·exact ⟨x,by simp [a],b⟩
  ·exact ⟨s,by simp,b⟩
theorem Cf {ss:List Sp}{s:Sp}(h:GD ss)(hs:s.kY)(hb:∀x∈ss,x.NI s):GD (ss++[s]):=by
 refine ⟨fun x a=>?_,List.pairwise_append.2 ⟨h.2,by simp,fun x a y b=>?_⟩⟩
 ·rcases List.mem_append.1 a with a|a
  ·exact h.1 x a
  ·obtain rfl:x=s:=by simpa using a
   exact hs
 ·obtain rfl:y=s:=by simpa using b
  exact hb x a
theorem ID {ss:List Sp}{s:Sp}(h:GD (ss++[s])):GD ss/\s.kY/\∀x∈ss,x.NI s:=by
 obtain ⟨b,-,c⟩:=List.pairwise_append.1 h.2
 exact ⟨⟨fun x a=>h.1 x (by simp [a]),b⟩,h.1 s (by simp),fun x a=>c x a s (by simp)⟩
theorem yX {P:Nat->Prop}{i:Nat}:(∃j,j<i+1/\P j)↔(∃j,j<i/\P j)\/P i:=by
 constructor
 ·rintro ⟨j,b,a⟩
  rcases Nat.lt_or_ge j i with h|h
  ·exact .inl ⟨j,h,a⟩
  ·obtain rfl:j=i:=by omega
   exact .inr a
 ·rintro (⟨j,b,a⟩|a)
  ·exact ⟨j,by omega,a⟩
  ·exact ⟨i,by omega,a⟩
theorem JC (h:asc c){i:Nat}(hi:i<=c.length)(F:FI c ms i):FI c ms (i+1):=by
 have A:=Ht h hi
 have B:i<c.length->(gF c i).hi=c.getD i 0:=fun j=>if_pos j
 have C:0<i->(gF c i).lo=c.getD (i-1) 0:=fun j=>if_pos j
 have D:0<i->(gF c i).a=false:=fun j=>decide_eq_false (by omega)
 have H:i<c.length->(gF c i).b=false:=fun j=>decide_eq_false (by omega)
 by_cases hm:ms.getD i false=true
 ·have y:¬ms.getD i false=false:=by rw [hm];decide
  by_cases j:0<i/\ms.getD (i-1) false=true
  ·obtain ⟨I,l,el,G⟩:=F.last j.1 hi j.2
   have e:fa c ms (i+1)=I++[⟨l.lo,(gF c i).hi,l.a,(gF c i).b⟩]:=by
    rw [fa,if_pos hm,if_pos ⟨j.1,j.2,by rw [el];simp⟩,el]
    simp [HO]
   have J:=F.r
   rw [el] at J
   obtain ⟨f1,f2,f3⟩:=ID J
   have m:l.b=false:=(F.top j.1 hi l (by rw [el];simp)).1
   have u:(⟨l.lo,(gF c i).hi,l.a,(gF c i).b⟩:Sp).kY:=by
    refine ⟨⟨f2.1.1,A.1.2⟩,Sp.kh.2 ?_⟩
    dsimp only
    cases ha:l.a with
    | true=>exact .inl rfl
    | false=>
     cases w:(gF c i).b with
     | true=>exact .inr (.inl rfl)
     | false=>
      have n:=BJ f2.2 ha m
      have q:=BJ A.2 (D j.1) w
      rw [C j.1] at q
      exact .inr (.inr (by grind))
   refine ⟨?_,fun t v=>?_,fun _ d s f=>?_,fun _ d k=>?_,fun _ d _=>?_⟩
   ·rw [e]
    exact Cf f1 u fun x k=>⟨(f3 x k).1,(f3 x k).2.1,(f3 x k).2.2⟩
   ·rw [e,yX,←F.mem t v,qf,el,qf,or_assoc]
    refine or_congr Iff.rfl ?_
    have hk:(gF c i).nd t↔c.getD (i-1) 0<t/\((gF c i).b=true\/t<(gF c i).hi):=by
     unfold Sp.nd;rw [D j.1,C j.1];simp
    have K:t≠c.getD (i-1) 0:=by
     rintro rfl
     rw [iS (by omega)] at v
     exact v (List.getElem_mem _)
    rw [hk]
    show (l.a=true\/l.lo<t)/\((gF c i).b=true\/t<(gF c i).hi)↔((l.a=true\/l.lo<t)/\(l.b=true\/t<l.hi))\/_
    rw [G,m]
    have n:l.a=true\/l.lo<c.getD (i-1) 0:=by
     cases ha:l.a with
     | true=>exact .inl rfl
     | false=>have:=BJ f2.2 ha m;rw [G] at this;exact .inr this
    have q:(gF c i).b=true\/c.getD (i-1) 0<(gF c i).hi:=by
     cases w:(gF c i).b with
     | true=>exact .inl rfl
     | false=>have:=BJ A.2 (D j.1) w;rw [C j.1] at this;exact .inr this
    constructor
    ·rintro ⟨E,o⟩
     by_cases g:t<c.getD (i-1) 0
     ·exact .inl ⟨E,.inr g⟩
     ·exact .inr ⟨hm,by grind,o⟩
    ·rintro (⟨E,o⟩|⟨-,E,o⟩)
     ·have M:t<c.getD (i-1) 0:=by
       rcases o with o|o
       ·cases o
       ·exact o
      exact ⟨E,q.imp_right fun q=>by grind⟩
     ·exact ⟨n.imp_right fun n=>by grind,o⟩
   ·rw [e] at f
    rw [Nat.add_sub_cancel]
    rcases List.mem_append.1 f with f|f
    ·have b:=f3 s f
     refine ⟨b.1,?_⟩
     have n:l.lo<c.getD (i-1) 0:=by have:=BJ f2.2 b.2.1 m;rwa [G] at this
     have q:=yG h (show i-1<i by omega) d
     have:=b.2.2
     grind
    ·obtain rfl:s=_:=by simpa using f
     refine ⟨H d,?_⟩
     show (gF c i).hi<=_
     rw [B d];grind
   ·rw [Nat.add_sub_cancel] at k;exact absurd k y
   ·rw [Nat.add_sub_cancel]
    exact ⟨I,_,e,B d⟩
  ·have e:fa c ms (i+1)=fa c ms i++[gF c i]:=by
    rw [fa,if_pos hm,if_neg (fun g=>j ⟨g.1,g.2.1⟩)]
   have w:∀x∈fa c ms i,x.NI (gF c i):=fun x k=>by
    by_cases p:0<i
    ·have L:ms.getD (i-1) false=false:=by
      cases hq:ms.getD (i-1) false with
      | false=>rfl
      | true=>exact absurd ⟨p,hq⟩ j
     exact ⟨(F.top p hi x k).1,D p,by rw [C p];exact F.str p hi L x k⟩
    ·obtain rfl:i=0:=by omega
     cases k
   refine ⟨?_,fun t v=>?_,fun _ d s f=>?_,fun _ d k=>?_,fun _ d _=>?_⟩
   ·rw [e];exact Cf F.r A w
   ·rw [e,yX,←F.mem t v,qf]
    exact or_congr Iff.rfl ⟨fun g=>⟨hm,g⟩,fun g=>g.2⟩
   ·rw [e] at f
    rw [Nat.add_sub_cancel]
    rcases List.mem_append.1 f with f|f
    ·refine ⟨(w s f).1,?_⟩
     by_cases p:0<i
     ·have n:=(F.top p hi s f).2
      have q:=yG h (show i-1<i by omega) d
      grind
     ·obtain rfl:i=0:=by omega
      cases f
    ·obtain rfl:s=_:=by simpa using f
     refine ⟨H d,?_⟩
     rw [B d];grind
   ·rw [Nat.add_sub_cancel] at k;exact absurd k y
   ·rw [Nat.add_sub_cancel]
    exact ⟨_,_,e,B d⟩
 ·have e:fa c ms (i+1)=fa c ms i:=by rw [fa,if_neg hm]
  have z:i<c.length->∀s∈fa c ms i,s.b=false/\s.hi<c.getD i 0:=fun d s f=>by
   by_cases p:0<i
   ·obtain ⟨n,q⟩:=F.top p hi s f
    have N:=yG h (show i-1<i by omega) d
    exact ⟨n,by grind⟩
   ·obtain rfl:i=0:=by omega
    cases f
  refine ⟨by rw [e];exact F.r,fun t v=>?_,fun _ d s f=>?_,fun _ d k s f=>?_,fun _ d k=>?_⟩
  ·rw [e,yX,F.mem t v]
   exact ⟨.inl,fun g=>g.elim id fun g=>absurd g.1 hm⟩
  ·rw [e] at f
   rw [Nat.add_sub_cancel]
   obtain ⟨n,q⟩:=z d s f
   exact ⟨n,by grind⟩
  ·rw [e] at f
   rw [Nat.add_sub_cancel]
   exact (z d s f).2
  ·rw [Nat.add_sub_cancel] at k;exact absurd k hm
theorem fi (h:asc c):∀{i:Nat},i<=c.length+1->FI c ms i:=by
 intro i
 induction i with
 | zero=>exact fun _=>⟨⟨(fun _ h=>by cases h),List.Pairwise.nil⟩,(fun t _=>⟨(fun ⟨_,h,_⟩=>by cases h),(fun ⟨_,h,_⟩=>absurd h (Nat.not_lt_zero _))⟩),(fun h=>absurd h (Nat.lt_irrefl _)),(fun h=>absurd h (Nat.lt_irrefl _)),(fun h=>absurd h (Nat.lt_irrefl _))⟩
 | succ i ih=>exact fun a=>JC h (by omega) (ih (by omega))
end
end Go.Proofs.Tryz
namespace Go.Proofs.Tryz
open Go.Eng Go.Big
theorem BO {s u:Sp}{t:Rat}:(s.meet u).nd t↔s.nd t/\u.nd t:=by
 have c:BM s.lo u.lo<t↔s.lo<t/\u.lo<t:=by
  unfold BM
  rcases l_ u.lo s.lo with ⟨h,e⟩|⟨h,e⟩|⟨h,e⟩<;>rw [e]<;>simp<;>grind
 have d:t<BR s.hi u.hi↔t<s.hi/\t<u.hi:=by
  unfold BR
  rcases l_ u.hi s.hi with ⟨h,e⟩|⟨h,e⟩|⟨h,e⟩<;>rw [e]<;>simp<;>grind
 unfold Sp.nd Sp.meet
 cases s.a<;>cases s.b<;>cases u.a<;>cases u.b<;>simp [c,d]<;>grind
theorem kN {l:L3}(h:Nz l)(t:Rat):aj l (fu l t) (iF l t)=0/\F5 l (fu l t) (iF l t)=t:=by
 have a:=h.norm
 have b:=Rat.mul_inv_cancel _ a
 unfold aj F5 fu iF
 unfold eN at *
 constructor<;>grind
theorem Ng {l m:L3}(h:bw l m≠0):aj l (Ka l m) (MJ l m)=0/\aj m (Ka l m) (MJ l m)=0:=by
 have a:=Rat.mul_inv_cancel _ h
 unfold aj Ka MJ
 constructor
 ·have e:(l.1:Rat)*(((l.2.1:Rat)*(m.2.2:Rat)-(l.2.2:Rat)*(m.2.1:Rat))*(bw l m)⁻¹)+(l.2.1:Rat)*(((l.2.2:Rat)*(m.1:Rat)-(l.1:Rat)*(m.2.2:Rat))*(bw l m)⁻¹)+(l.2.2:Rat)=(l.2.2:Rat)*(1-bw l m*(bw l m)⁻¹):=by
   generalize hc:(bw l m)⁻¹=c
   unfold bw
   grind
  rw [e,a];grind
 ·have e:(m.1:Rat)*(((l.2.1:Rat)*(m.2.2:Rat)-(l.2.2:Rat)*(m.2.1:Rat))*(bw l m)⁻¹)+(m.2.1:Rat)*(((l.2.2:Rat)*(m.1:Rat)-(l.1:Rat)*(m.2.2:Rat))*(bw l m)⁻¹)+(m.2.2:Rat)=(m.2.2:Rat)*(1-bw l m*(bw l m)⁻¹):=by
   generalize hc:(bw l m)⁻¹=c
   unfold bw
   grind
  rw [e,a];grind
theorem EF (l:L3):cP (cP l)=cP l:=by
 unfold cP
 by_cases h:l.1<0\/l.1=0/\l.2.1<0
 ·rw [if_pos h,if_neg]
  unfold revL
  dsimp only
  omega
 ·rw [if_neg h,if_neg h]
theorem DO {l:L3}(h:okL l=true):okL (cP l)=true:=by
 unfold cP
 split
 ·unfold okL revL ig at *
  simp only [Int.natAbs_neg]
  rw [Bool.and_eq_true,decide_eq_true_iff,decide_eq_true_iff] at h ⊢
  exact ⟨fun e=>h.1 ⟨by omega,by omega⟩,h.2⟩
 ·exact h
theorem jM {l:L3}(h:okL l=true):¬(l.1=0/\l.2.1=0):=by
 unfold okL at h
 rw [Bool.and_eq_true,decide_eq_true_iff] at h
 exact h.1
theorem ma {s:Sp}:s.emp=false↔∃t,s.nd t:=by
 constructor
 ·intro h
  obtain ⟨c,d⟩:=Sp.E4 h
  refine ⟨s.cW,?_,?_⟩
  ·cases ha:s.a
   ·exact .inr (c ha)
   ·exact .inl rfl
  ·cases hb:s.b
   ·exact .inr (d hb)
   ·exact .inl rfl
 ·rintro ⟨t,c,d⟩
  rw [Sp.kh]
  rcases c with c|c
  ·exact .inl c
  ·rcases d with d|d
   ·exact .inr (.inl d)
   ·exact .inr (.inr (by grind))
theorem iP {l:L3}{s:Sp}{m:L3} :
  (c_ l s m=true->∀t,(cH l s m).nd t↔s.nd t/\0<aj m (fu l t) (iF l t))/\(s.emp=false->c_ l s m=false->∀t,s.nd t->¬0<aj m (fu l t) (iF l t)):=by
 have key:fw m l≠0->∀t,(cH l s m).nd t↔s.nd t/\0<jw m l+fw m l*t:=fun b t=>by
  have k:=Rat.mul_inv_cancel _ b
  unfold cH
  rcases iZ (fw m l) with ⟨h,e⟩|⟨h,e⟩|⟨h,e⟩
  ·exact absurd h b
  ·rw [e]
   show (s.meet ⟨dm m l,0,false,true⟩).nd t↔_
   rw [BO]
   have g:fw m l*(t-dm m l)=jw m l+fw m l*t:=by unfold dm;grind
   have:(⟨dm m l,0,false,true⟩:Sp).nd t↔dm m l<t:=by unfold Sp.nd;simp
   rw [this,←g]
   refine and_congr_right fun _=>⟨fun h'=>Rat.mul_pos h (by grind),fun h'=>?_⟩
   by_cases c:dm m l<t
   ·exact c
   ·have:=Rat.mul_nonneg (show 0<=fw m l by grind) (show 0<=dm m l-t by grind)
    grind
  ·rw [e]
   show (s.meet ⟨0,dm m l,true,false⟩).nd t↔_
   rw [BO]
   have g:-fw m l*(dm m l-t)=jw m l+fw m l*t:=by unfold dm;grind
   have:(⟨0,dm m l,true,false⟩:Sp).nd t↔t<dm m l:=by unfold Sp.nd;simp
   rw [this,←g]
   refine and_congr_right fun _=>⟨fun h'=>Rat.mul_pos (by grind) (by grind),fun h'=>?_⟩
   by_cases c:t<dm m l
   ·exact c
   ·have:=Rat.mul_nonneg (show 0<=-fw m l by grind) (show 0<=t-dm m l by grind)
    grind
 by_cases b:fw m l=0
 ·have i:cH l s m=s:=by unfold cH;rw [b];rfl
  have d:c_ l s m=decide ((jw m l).num.sign>0):=by unfold c_;rw [b];rfl
  constructor
  ·intro a t
   rw [i,vf,b]
   rw [d] at a
   have a:(jw m l).num.sign>0:=by simpa using a
   have:0<jw m l:=by
    rcases iZ (jw m l) with ⟨h,e⟩|⟨h,e⟩|⟨h,e⟩
    ·omega
    ·exact h
    ·omega
   exact ⟨fun h=>⟨h,by grind⟩,fun h=>h.1⟩
  ·intro _ a t _ f
   rw [vf,b] at f
   rw [d] at a
   have a:¬(jw m l).num.sign>0:=by simpa using a
   rcases iZ (jw m l) with ⟨h,e⟩|⟨h,e⟩|⟨h,e⟩
   ·grind
   ·omega
   ·grind
 ·have d:c_ l s m=!(cH l s m).emp:=by
   unfold c_
   rcases iZ (fw m l) with ⟨h,e⟩|⟨h,e⟩|⟨h,e⟩
   ·exact absurd h b
   ·rw [e];rfl
   ·rw [e];rfl
  constructor
  ·intro _ t
   rw [vf];exact key b t
  ·intro _ a t j f
   rw [vf] at f
   rw [d] at a
   have:=ma.2 ⟨t,(key b t).2 ⟨j,f⟩⟩
   rw [this] at a;cases a
theorem kU {l:L3}{s:Sp}{m:L3}(hs:s.kY)(hb:c_ l s m=true):(cH l s m).kY:=⟨Hg hs.1,Hf hs.2 hb⟩
abbrev Sd:=L3×Sp
def bu:List Sd->L3->Sp->Option Sp
 | [],_,v=>some v
 | s::c,l,v=>if c_ l v s.1 then bu c l (cH l v s.1) else none
theorem qj:∀{c:List Sd} {l:L3} {v w:Sp},v.kY->bu c l v=some w->w.kY/\∀t,w.nd t↔v.nd t/\∀s∈c,0<aj s.1 (fu l t) (iF l t)
 | [],_,v,w,h,e=>by cases e;exact ⟨h,fun t=>⟨fun g=>⟨g,fun s hs=>by cases hs⟩,fun g=>g.1⟩⟩
 | s::c,l,v,w,h,e=>by
  unfold bu at e
  split at e
  ·rename_i hb
   obtain ⟨g1,g2⟩:=qj (kU h hb) e
   refine ⟨g1,fun t=>?_⟩
   rw [g2,(iP.1 hb t)]
   simp only [List.forall_mem_cons,and_assoc]
  ·cases e
theorem qi:∀{c:List Sd} {l:L3} {v:Sp},v.kY->bu c l v=none->∀t,v.nd t->¬∀s∈c,0<aj s.1 (fu l t) (iF l t)
 | [],_,v,h,e=>by cases e
 | s::c,l,v,h,e=>by
  intro t ht hall
  unfold bu at e
  split at e
  ·rename_i hb
   exact qi (kU h hb) e t ((iP.1 hb t).2 ⟨ht,hall s (List.mem_cons_self ..)⟩) fun u hu=>hall u (List.mem_cons_of_mem _ hu)
  ·rename_i hb
   exact iP.2 h.2 (by simpa using hb) t ht (hall s (List.mem_cons_self ..))
theorem tJ (l:L3):cP l=l\/cP l=revL l:=by unfold cP;split;exact .inr rfl;exact .inl rfl
theorem rev_rev (l:L3):revL (revL l)=l:=by unfold revL;simp
theorem EK (l:L3):Sec.dirL (revL l)=(-(Sec.dirL l).1,-(Sec.dirL l).2):=by unfold Sec.dirL revL;simp only [Rat.intCast_neg]
theorem zk {l:L3}(h:okL l=true):(Sec.dirL l).1≠0\/(Sec.dirL l).2≠0:=by
 have:=jM h
 unfold Sec.dirL
 by_cases e:l.2.1=0
 ·right;intro a
  have:(l.1:Rat)=0:=by grind
  exact jM h ⟨by exact_mod_cast this,e⟩
 ·left;show (l.2.1:Rat)≠0;exact_mod_cast e
theorem Lw {l m:L3}(ol:okL l=true)(om:okL m=true){p:Sec.V2}(h1:aj l p.1 p.2=0)(h2:aj m p.1 p.2=0)(hc:Sec.cr (Sec.dirL l) (Sec.dirL m)=0):l=m\/l=revL m:=by
 have a:∀{x:L3},aj x p.1 p.2=0->aj (cP x) p.1 p.2=0:=fun {x} h=>by
  rcases tJ x with e|e<;>rw [e]
  ·exact h
  ·rw [val_rev];grind
 have b:Sec.cr (Sec.dirL (cP l)) (Sec.dirL (cP m))=0:=by
  unfold Sec.cr at *
  rcases tJ l with e|e<;>rcases tJ m with e'|e'<;>rw [e,e']<;>(try rw [EK l])<;>(try rw [EK m])<;>(try dsimp only)<;>grind
 have:=Sec.Gg (DO ol) (DO om) (EF l) (EF m) (a h1) (a h2) b
 rcases tJ l with e|e<;>rcases tJ m with e'|e'<;>rw [e,e'] at this
 ·exact .inl this
 ·exact .inr this
 ·right;rw [←this,rev_rev]
 ·left;have:=congrArg revL this;rwa [rev_rev,rev_rev] at this
theorem Hj {M:List L3}(hk:∀m∈M,okL m=true){q:Sec.V2}(hq:Sec.pos M q):Sec.QJ M:=by
 intro l d m hm c p f g h
 rcases Lw (hk l d) (hk m hm) f g h with e|e
 ·exact c e
 ·have a:=hq l d
  have b:=hq m hm
  rw [e,val_rev] at a
  grind
theorem oD {l:L3}(h:Nz l){x y:Rat}(hp:aj l x y=0):∃t,x=fu l t/\y=iF l t:=by
 have a:=Rat.mul_inv_cancel _ h.norm
 unfold aj at hp
 refine ⟨F5 l x y,?_,?_⟩
 ·unfold fu F5 eN at *;grind
 ·unfold iF F5 eN at *;grind
def fullSp:Sp:=⟨0,0,true,true⟩
theorem gR:fullSp.kY:=⟨⟨fun _=>rfl,fun _=>rfl⟩,rfl⟩
theorem oh (t:Rat):fullSp.nd t:=⟨.inl rfl,.inl rfl⟩
structure CanC (M:List L3) (c:List Sd):Prop where
 pos:∃q,Sec.pos M q
 mem:∀s∈c,s.1∈M/\s.2.kY/\∀t,s.2.nd t↔∀m∈M,m≠s.1->0<aj m (fu s.1 t) (iF s.1 t)
 all:∀l∈M,Sec.Es M l->∃v,(l,v)∈c
 asc:c.Pairwise fun s u=>Sec.ang (Sec.dirL s.1) (Sec.dirL u.1)<0
def kZ (x:Sd):List Sd->List Sd
 | []=>[x]
 | s::r=>if Sec.ang (Sec.dirL s.1) (Sec.dirL x.1)<0 then s::kZ x r else x::s::r
def kI (c:List Sd)(l:L3):List Sd:=c.filterMap fun s=>if c_ s.1 s.2 l then some (s.1,cH s.1 s.2 l) else none
def cF:List Sd->L3->Int
 | [],_=>-1
 | s::c,l=>if (aj l (fu s.1 s.2.cW) (iF s.1 s.2.cW)).num.sign≠0 then (aj l (fu s.1 s.2.cW) (iF s.1 s.2.cW)).num.sign else if s.1=l then 1 else cF c l
def clipC (c:List Sd)(l:L3):Option (List Sd):=
 match bu c l fullSp with
 | some v=>some (kZ (l,v) (kI c l))
 | none=>if 0<cF c l then some c else none
theorem k_ {x y:Sd}:∀{r:List Sd},y∈kZ x r↔y=x\/y∈r
 | []=>by simp [kZ]
 | s::r=>by
  unfold kZ
  split
  ·rw [List.mem_cons,k_,List.mem_cons];exact or_left_comm
  ·rw [List.mem_cons]
theorem yC {a b d:Sec.V2}(h:Sec.ang a b<0)(h':Sec.ang b d<0):Sec.ang a d<0:=by
 by_cases q:Sec.ang a d<0
 ·exact q
 ·exact absurd h (Sec.tj _ _ _ q (Sec.sI _ _ h'))
theorem Bw {x:Sd}:∀{r:List Sd},(r.Pairwise fun s u=>Sec.ang (Sec.dirL s.1) (Sec.dirL u.1)<0)->(∀s∈r,Sec.ang (Sec.dirL s.1) (Sec.dirL x.1)≠0)->(kZ x r).Pairwise fun s u=>Sec.ang (Sec.dirL s.1) (Sec.dirL u.1)<0
 | [],_,_=>List.pairwise_singleton ..
 | s::r,h,hn=>by
  obtain ⟨h1,h2⟩:=List.pairwise_cons.1 h
  unfold kZ
  split
  ·rename_i b
   refine List.pairwise_cons.2 ⟨fun y a=>?_,Bw h2 fun u hu=>hn u (List.mem_cons_of_mem _ hu)⟩
   rcases k_.1 a with rfl|a
   ·exact b
   ·exact h1 y a
  ·rename_i b
   have c:Sec.ang (Sec.dirL x.1) (Sec.dirL s.1)<0:=by
    rcases Sec.tg (Sec.dirL s.1) (Sec.dirL x.1) with g|g|g
    ·exact absurd g b
    ·exact absurd g (hn s (List.mem_cons_self ..))
    ·exact g
   refine List.pairwise_cons.2 ⟨fun y a=>?_,h⟩
   rcases List.mem_cons.1 a with rfl|a
   ·exact c
   ·exact yC c (h1 y a)
theorem A8 {c:List Sd}{l:L3}{y:Sd}:y∈kI c l↔∃s∈c,c_ s.1 s.2 l=true/\y=(s.1,cH s.1 s.2 l):=by
 unfold kI
 rw [List.mem_filterMap]
 constructor
 ·rintro ⟨s,a,e⟩
  split at e
  ·rename_i b;cases e;exact ⟨s,a,b,rfl⟩
  ·cases e
 ·rintro ⟨s,a,b,rfl⟩
  exact ⟨s,a,by rw [if_pos b]⟩
theorem A7 {c:List Sd}{l:L3}(h:c.Pairwise fun s u=>Sec.ang (Sec.dirL s.1) (Sec.dirL u.1)<0):(kI c l).Pairwise fun s u=>Sec.ang (Sec.dirL s.1) (Sec.dirL u.1)<0:=by
 unfold kI
 refine List.Pairwise.filterMap _ ?_ h
 intro a b d x e y f
 split at e
 ·split at f
  ·cases e;cases f;exact d
  ·cases f
 ·cases e
theorem B3 {l s:L3}(hl:Sec.nz (Sec.dirL s))(h:Sec.ang (Sec.dirL s) (Sec.dirL l)=0){p r:Sec.V2}(p0:aj l p.1 p.2=0)(p1:0<aj s p.1 p.2)(r0:aj s r.1 r.2=0)(r1:0<aj l r.1 r.2):False:=by
 obtain ⟨c,b,e⟩:=Sec.AF hl h
 have d:(s.2.1:Rat)=c*(l.2.1:Rat):=congrArg Prod.fst e
 have a:-(s.1:Rat)=c*-(l.1:Rat):=congrArg Prod.snd e
 have a:(s.1:Rat)=c*(l.1:Rat):=by grind
 have key:∀x:Sec.V2,aj s x.1 x.2=c*(aj l x.1 x.2-(l.2.2:Rat))+(s.2.2:Rat):=fun x=>by unfold aj;rw [d,a];grind
 have k:=Sec.mp b r1
 rw [key] at p1 r0
 rw [p0] at p1
 generalize aj l r.1 r.2=z at *
 grind
section
variable {M:List L3} {c:List Sd} (h:CanC M c) (hk:∀m ∈ M,okL m=true)
include h hk
theorem CanC.int {p:Sec.V2}(hp:∀s∈c,0<aj s.1 p.1 p.2):Sec.pos M p:=by
 obtain ⟨q,a⟩:=h.pos
 refine Sec.Ut (Hj hk a) (fun m hm=>zk (hk m hm)) a fun m hm he=>?_
 obtain ⟨v,b⟩:=h.all m hm he
 exact hp _ b
theorem FC {l:L3}(hl:okL l=true){v:Sp}(e:bu c l fullSp=some v):CanC (l::M) (kZ (l,v) (kI c l)):=by
 have K:Nz l:=jM hl
 obtain ⟨B,C⟩:=qj gR e
 have D:∀t,v.nd t↔Sec.pos M (fu l t,iF l t):=fun t=>⟨fun g=>h.int hk ((C t).1 g).2,fun g=>(C t).2 ⟨oh t,fun s f=>g s.1 (h.mem s f).1⟩⟩
 obtain ⟨t0,y⟩:=ma.1 B.2
 have z:=(D t0).1 y
 have E:=(kN K t0).1
 have F:l∉M:=fun hm=>by have:=z l hm;dsimp only at this;grind
 have ne:∀m∈M,m≠l:=fun m hm e=>F (e▸hm)
 obtain ⟨q,L,N,-⟩:=Sec.tV (M:=M) (x:=(fu l t0,iF l t0)) (zk hl) E (fun m hm _=>z m hm) [] (fun m hm=>by cases hm)
 have G:∀s∈kI c l,s.1∈M/\s.2.kY/\∀t,s.2.nd t↔∀m∈l::M,m≠s.1->0<aj m (fu s.1 t) (iF s.1 t):=fun s f=>by
  obtain ⟨O,P,k,rfl⟩:=A8.1 f
  obtain ⟨i,n,o⟩:=h.mem O P
  refine ⟨i,kU n k,fun t=>?_⟩
  dsimp only
  rw [iP.1 k t,o t,List.forall_mem_cons]
  exact ⟨fun g=>⟨fun _=>g.2,g.1⟩,fun g=>⟨g.2,g.1 (fun e=>ne _ i e.symm)⟩⟩
 refine ⟨⟨q,List.forall_mem_cons.2 ⟨N,L⟩⟩,fun s f=>?_,fun u d he=>?_,Bw (A7 h.asc) fun s f Q=>?_⟩
 ·rcases k_.1 f with rfl|f
  ·refine ⟨List.mem_cons_self ..,B,fun t=>?_⟩
   rw [D t,List.forall_mem_cons]
   exact ⟨fun g=>⟨fun h=>absurd rfl h,fun m hm _=>g m hm⟩,fun g m hm=>g.2 m hm (ne m hm)⟩
  ·obtain ⟨a,b⟩:=G s f
   exact ⟨List.mem_cons_of_mem _ a,b⟩
 ·rcases List.mem_cons.1 d with rfl|d
  ·exact ⟨v,k_.2 (.inl rfl)⟩
  ·obtain ⟨p,H,A⟩:=he
   obtain ⟨w,hw⟩:=h.all u d ⟨p,H,fun m hm j=>A m (List.mem_cons_of_mem _ hm) j⟩
   obtain ⟨i,n,o⟩:=h.mem _ hw
   obtain ⟨t,I,J⟩:=oD (jM (hk u d)) H
   have k:c_ u w l=true:=by
    cases k:c_ u w l
    ·exfalso
     refine iP.2 n.2 k t ((o t).2 fun m hm j=>?_) ?_
     ·dsimp only;rw [←I,←J];exact A m (List.mem_cons_of_mem _ hm) j
     ·rw [←I,←J];exact A l (List.mem_cons_self ..) (fun e=>F (e▸d))
    ·rfl
   exact ⟨cH u w l,k_.2 (.inr (A8.2 ⟨_,hw,k,rfl⟩))⟩
 ·obtain ⟨i,n,o⟩:=G s f
  obtain ⟨t,R⟩:=ma.1 n.2
  have S:=(o t).1 R l (List.mem_cons_self ..) (fun e=>ne _ i e.symm)
  exact B3 (zk (hk _ i)) Q (p:=(fu l t0,iF l t0)) (r:=(fu s.1 t,iF s.1 t)) E (z _ i) (kN (jM (hk _ i)) t).1 S
omit h in
theorem pS {l:L3}(hl:okL l=true)(hno:∀x:Sec.V2,aj l x.1 x.2=0->¬Sec.pos M x){q:Sec.V2}(hq:Sec.pos M q){s:L3}(hs:s∈M){x:Sec.V2}(xz:aj s x.1 x.2=0)(hx:∀m∈M,m≠s->0<aj m x.1 x.2) :
  (0<aj l q.1 q.2->0<aj l x.1 x.2\/s=l)/\(aj l q.1 q.2<0->aj l x.1 x.2<0\/aj l x.1 x.2=0/\s≠l):=by
 have side:∀g:L3,(∀x:Sec.V2,aj g x.1 x.2=0->¬Sec.pos M x)->0<aj g q.1 q.2->∀y:Sec.V2,aj s y.1 y.2=0->(∀m∈M,m≠s->0<aj m y.1 y.2)->¬aj g y.1 y.2<0:=fun g hno k y n b i=>by
  obtain ⟨C,o,-,c⟩:=Sec.tV (zk (hk s hs)) n b [revL g] (fun m hm=>by rcases List.mem_singleton.1 hm with rfl;rw [val_rev];grind)
  have c:=c _ (List.mem_singleton.2 rfl)
  rw [val_rev] at c
  have:=Sec.oE hno hq o k
  grind
 constructor
 ·intro a
  by_cases f:0<aj l x.1 x.2
  ·exact .inl f
  right
  have z:aj l x.1 x.2=0:=by have:=side l hno a x xz hx;grind
  by_cases e:s=l
  ·exact e
  exfalso
  have p:Sec.cr (Sec.dirL l) (Sec.dirL s)≠0:=fun t=>by
   rcases Lw hl (hk s hs) z xz t with g|g
   ·exact e g.symm
   ·rw [g,val_rev] at a
    have:=hq s hs
    grind
  have step:∀d:Sec.V2,Sec.nv s d=0->Sec.nv l d<0->False:=fun d d0 d1=>by
   obtain ⟨r,u,v⟩:=Sec.zN ((M.filter fun m=>decide (m≠s)).map fun m=>(aj m x.1 x.2,Sec.nv m d)) (fun y b=>by
    obtain ⟨m,hm,rfl⟩:=List.mem_map.1 b
    have:=List.mem_filter.1 hm
    exact hx m this.1 (by simpa using this.2))
   refine side l hno a (x.1+r*d.1,x.2+r*d.2) ?_ (fun m hm h=>?_) ?_
   ·rw [Sec.gJ,xz,d0];grind
   ·rw [Sec.gJ]
    exact v (aj m x.1 x.2,Sec.nv m d) (List.mem_map.2 ⟨m,List.mem_filter.2 ⟨hm,by simpa using h⟩,rfl⟩)
   ·rw [Sec.gJ,z]
    have:=Sec.mp u (show -Sec.nv l d>0 by grind)
    grind
  have j:Sec.nv s (Sec.dirL s)=0:=by rw [Sec.EY];exact Sec.EJ _
  have ls:Sec.nv l (Sec.dirL s)≠0:=by rw [Sec.EY];exact p
  by_cases w:Sec.nv l (Sec.dirL s)<0
  ·exact step _ j w
  ·have A:Sec.nv s (-(Sec.dirL s).1,-(Sec.dirL s).2)=-Sec.nv s (Sec.dirL s):=by unfold Sec.nv;dsimp only;grind
   have B:Sec.nv l (-(Sec.dirL s).1,-(Sec.dirL s).2)=-Sec.nv l (Sec.dirL s):=by unfold Sec.nv;dsimp only;grind
   exact step (-(Sec.dirL s).1,-(Sec.dirL s).2) (by rw [A,j];grind) (by rw [B];grind)
 ·intro a
  have:=side (revL l) (fun x hx=>hno x (by rw [val_rev] at hx;grind)) (by rw [val_rev];grind) x xz hx
  rw [val_rev] at this
  by_cases f:aj l x.1 x.2<0
  ·exact .inl f
  ·refine .inr ⟨by grind,fun e=>?_⟩
   have:=hq s hs
   rw [e] at this
   grind
theorem lF {s:Sd}(hs:s∈c):aj s.1 (fu s.1 s.2.cW) (iF s.1 s.2.cW)=0/\∀m∈M,m≠s.1->0<aj m (fu s.1 s.2.cW) (iF s.1 s.2.cW):=by
 obtain ⟨d,e,f⟩:=h.mem s hs
 refine ⟨(kN (jM (hk _ d)) _).1,(f _).1 ?_⟩
 obtain ⟨g,i⟩:=Sp.E4 e.2
 constructor
 ·cases ha:s.2.a
  ·exact .inr (g ha)
  ·exact .inl rfl
 ·cases hb:s.2.b
  ·exact .inr (i hb)
  ·exact .inl rfl
theorem yf {l:L3}(hl:okL l=true)(hno:∀x:Sec.V2,aj l x.1 x.2=0->¬Sec.pos M x){q:Sec.V2}(hq:Sec.pos M q)(hp:0<aj l q.1 q.2)(h0:c≠[]):cF c l=1:=by
 cases hc:c with
 | nil=>exact absurd hc h0
 | cons s r=>
  have b:s∈c:=by rw [hc];exact List.mem_cons_self ..
  obtain ⟨d,f⟩:=lF h hk b
  have:=(pS hk hl hno hq (h.mem s b).1 (x:=(fu s.1 s.2.cW,iF s.1 s.2.cW)) d f).1 hp
  unfold cF
  dsimp only at this
  by_cases e:0<aj l (fu s.1 s.2.cW) (iF s.1 s.2.cW)
  ·rw [Sec.zM.2 e];rfl
  ·have a:s.1=l:=this.resolve_left e
   have z:aj l (fu s.1 s.2.cW) (iF s.1 s.2.cW)=0:=by
    have h:=d;rw [a] at h ⊢;exact h
   rw [Sec.iY.2 z,if_neg (by simp),if_pos a]
theorem ye {l:L3}(hl:okL l=true)(hno:∀x:Sec.V2,aj l x.1 x.2=0->¬Sec.pos M x){q:Sec.V2}(hq:Sec.pos M q)(hp:aj l q.1 q.2<0):cF c l=-1:=by
 have:∀r:List Sd,(∀s∈r,s∈c)->cF r l=-1:=by
  intro r
  induction r with
  | nil=>intro _;rfl
  | cons s r ih=>
   intro a
   have b:=a s (List.mem_cons_self ..)
   obtain ⟨d,e⟩:=lF h hk b
   have:=(pS hk hl hno hq (h.mem s b).1 (x:=(fu s.1 s.2.cW,iF s.1 s.2.cW)) d e).2 hp
   dsimp only at this
   unfold cF
   rcases this with g|⟨g,f⟩
   ·rw [Sec.uS.2 g];rfl
   ·rw [Sec.iY.2 g,if_neg (by simp),if_neg f]
    exact ih fun u hu=>a u (List.mem_cons_of_mem _ hu)
 exact this c fun _ h=>h
theorem clip_ok {l:L3}(hl:okL l=true):(∀c',clipC c l=some c'->CanC (l::M) c')/\(clipC c l=none->¬∃q,Sec.pos (l::M) q):=by
 unfold clipC
 cases e:bu c l fullSp with
 | some v=>exact ⟨fun c' f=>by cases f;exact FC h hk hl e,fun f=>by cases f⟩
 | none=>
  dsimp only
  have d:∀x:Sec.V2,aj l x.1 x.2=0->¬Sec.pos M x:=fun x E n=>by
   obtain ⟨t,o,r⟩:=oD (jM hl) E
   refine qi gR e t (oh t) fun s u=>?_
   rw [←o,←r];exact n s.1 (h.mem s u).1
  have F:c≠[]:=fun G=>by rw [G] at e;cases e
  obtain ⟨q,j⟩:=h.pos
  by_cases w:0<aj l q.1 q.2
  ·rw [yf h hk hl d j w F]
   refine ⟨fun c' f=>?_,fun f=>by cases f⟩
   cases f
   refine ⟨⟨q,List.forall_mem_cons.2 ⟨w,j⟩⟩,fun s u=>?_,fun y A he=>?_,h.asc⟩
   ·obtain ⟨B,H,I⟩:=h.mem s u
    refine ⟨List.mem_cons_of_mem _ B,H,fun t=>?_⟩
    rw [I t,List.forall_mem_cons]
    refine ⟨fun g=>⟨fun i=>?_,g⟩,fun g=>g.2⟩
    exact ((pS hk hl d j B (x:=(fu s.1 t,iF s.1 t)) (kN (jM (hk _ B)) t).1 g).1 w).resolve_right fun e=>i e.symm
   ·obtain ⟨p,D,n⟩:=he
    by_cases hm:y∈M
    ·exact h.all y hm ⟨p,D,fun m hm i=>n m (List.mem_cons_of_mem _ hm) i⟩
    ·exfalso
     have o:y=l:=(List.mem_cons.1 A).resolve_right hm
     refine d p (o▸D) fun m k=>n m (List.mem_cons_of_mem _ k) fun r=>hm (r▸k)
  ·have J:aj l q.1 q.2<0:=by
    by_cases z:aj l q.1 q.2=0
    ·exact absurd j (d q z)
    ·grind
   rw [ye h hk hl d j J]
   refine ⟨fun c' f=>(by cases f),fun _=>?_⟩
   rintro ⟨K,C⟩
   obtain ⟨a,b⟩:=List.forall_mem_cons.1 C
   have:=Sec.oE d (fun m hm=>b m hm) j a
   grind
end
theorem CanC.nil:CanC [] []:=⟨⟨(0,0),fun m hm=>by cases hm⟩,(fun s a=>by cases a),(fun l b=>by cases b),List.Pairwise.nil⟩
def bj:List L3->List L3->List Sd->Option (List Sd)
 | [],_,c=>some c
 | l::r,M,c=>match clipC c l with
  | some c'=>bj r (l::M) c'
  | none=>none
theorem A4:∀{ls M:List L3} {c:List Sd},CanC M c->(∀m∈M,okL m=true)->(∀m∈ls,okL m=true)->(∀c',bj ls M c=some c'->CanC (ls.reverse++M) c')/\(bj ls M c=none->¬∃q,Sec.pos (ls.reverse++M) q)
 | [],M,c,h,hk,hl=>⟨fun c' e=>by cases e;exact h,fun e=>by cases e⟩
 | l::r,M,c,h,hk,hl=>by
  obtain ⟨h1,h2⟩:=clip_ok h hk (hl l (List.mem_cons_self ..))
  rw [List.reverse_cons,List.append_assoc]
  unfold bj
  cases e:clipC c l with
  | some c'=>exact A4 (h1 c' e) (List.forall_mem_cons.2 ⟨hl l (List.mem_cons_self ..),hk⟩) fun m hm=>hl m (List.mem_cons_of_mem _ hm)
  | none=>
   refine ⟨fun c' a=>(by cases a),fun _=>?_⟩
   rintro ⟨q,b⟩
   exact h2 e ⟨q,fun m hm=>b m (List.mem_append_right _ hm)⟩
theorem tw:∀{a b:List L3},(a.Pairwise fun l m=>Sec.ang (Sec.dirL l) (Sec.dirL m)<0)->(b.Pairwise fun l m=>Sec.ang (Sec.dirL l) (Sec.dirL m)<0)->(∀x,x∈a↔x∈b)->a=b
 | [],b,_,_,h=>by
  cases b with
  | nil=>rfl
  | cons y b=>have:=(h y).2 (List.mem_cons_self ..);cases this
 | x::a,[],_,_,h=>by have:=(h x).1 (List.mem_cons_self ..);cases this
 | x::a,y::b,ha,hb,h=>by
  obtain ⟨d,i⟩:=List.pairwise_cons.1 ha
  obtain ⟨b1,b2⟩:=List.pairwise_cons.1 hb
  have e:x=y:=by
   rcases List.mem_cons.1 ((h x).1 (List.mem_cons_self ..)) with e|j
   ·exact e
   ·rcases List.mem_cons.1 ((h y).2 (List.mem_cons_self ..)) with e|k
    ·exact e.symm
    ·exact absurd (d y k) (Sec.sI _ _ (b1 x j))
  subst e
  have f:∀z:L3,¬Sec.ang (Sec.dirL z) (Sec.dirL z)<0:=fun z c=>Sec.sI _ _ c c
  congr 1
  refine tw i b2 fun z=>⟨fun c=>?_,fun c=>?_⟩
  ·rcases List.mem_cons.1 ((h z).1 (List.mem_cons_of_mem _ c)) with e|g
   ·exact absurd (d z c) (e▸f z)
   ·exact g
  ·rcases List.mem_cons.1 ((h z).2 (List.mem_cons_of_mem _ c)) with e|g
   ·exact absurd (b1 z c) (e▸f z)
   ·exact g
end Go.Proofs.Tryz
namespace Go.Proofs.Tryz
open Go.Eng Go.Big
theorem pQ (l m:L3):bw l m=-fw m l:=by unfold bw fw;grind
def DQ (l m:L3):Rat:=F5 l (Ka l m) (MJ l m)
theorem Iq {l m:L3}(hl:Nz l)(h:bw l m≠0):DQ l m=dm m l:=by
 obtain ⟨v1,v2⟩:=Ng h
 obtain ⟨t,a,b⟩:=oD hl v1
 have c:DQ l m=t:=by unfold DQ;rw [a,b];exact (kN hl t).2
 rw [a,b,vf] at v2
 rw [c]
 have d:fw m l≠0:=fun e=>h (by rw [pQ,e];grind)
 have f:=Rat.mul_inv_cancel _ d
 unfold dm
 grind
def Hk (l m:L3)(s:Sp):Option Sp:=
 if bw l m=0 then (if (aj m (fu l 0) (iF l 0)).num.sign<=0 then none else some s)
 else
  let s':Sp:=if 0<(fw m l).num.sign then (if s.a=true\/s.lo<DQ l m then ⟨DQ l m,s.hi,false,s.b⟩ else s) else (if s.b=true\/DQ l m<s.hi then ⟨s.lo,DQ l m,s.a,false⟩ else s)
  if s'.a=false/\s'.b=false/\s'.hi<=s'.lo then none else some s'
theorem Hl {s:Sp}:s.emp=true↔s.a=false/\s.b=false/\s.hi<=s.lo:=by
 cases h:s.emp
 ·have:=Sp.kh.1 h
  constructor
  ·intro h;cases h
  ·rintro ⟨f,i,j⟩
   rw [f,i] at this
   rcases this with h|h|h
   ·cases h
   ·cases h
   ·exfalso;grind
 ·refine ⟨fun _=>?_,fun _=>rfl⟩
  have d:¬(s.a=true\/s.b=true\/s.lo<s.hi):=fun g=>by rw [←Sp.kh] at g;rw [h] at g;cases g
  refine ⟨?_,?_,?_⟩
  ·cases e:s.a
   ·rfl
   ·exact absurd (.inl e) d
  ·cases e:s.b
   ·rfl
   ·exact absurd (.inr (.inl e)) d
  ·by_cases c:s.lo<s.hi
   ·exact absurd (.inr (.inr c)) d
   ·grind
theorem Bg {l m:L3}{s:Sp}(hl:Nz l)(hs:s.kY):Hk l m s=if c_ l s m=true then some (cH l s m) else none:=by
 unfold Hk
 by_cases c:bw l m=0
 ·have d:fw m l=0:=by rw [pQ] at c;grind
  have k:cH l s m=s:=by unfold cH;rw [d];rfl
  have f:c_ l s m=decide ((jw m l).num.sign>0):=by unfold c_;rw [d];rfl
  rw [if_pos c,k,f]
  show (if (jw m l).num.sign<=0 then none else some s)=_
  by_cases g:(jw m l).num.sign<=0
  ·rw [if_pos g,if_neg (by rw [decide_eq_true_iff];omega)]
  ·rw [if_neg g,if_pos (by rw [decide_eq_true_iff];omega)]
 ·have d:fw m l≠0:=fun e=>c (by rw [pQ,e];grind)
  rw [if_neg c,Iq hl c]
  have es:(if 0<(fw m l).num.sign then (if s.a=true\/s.lo<dm m l then (⟨dm m l,s.hi,false,s.b⟩:Sp) else s) else (if s.b=true\/dm m l<s.hi then ⟨s.lo,dm m l,s.a,false⟩ else s))=cH l s m:=by
   obtain ⟨i,j⟩:=hs.1
   obtain ⟨lo,hi,a,b⟩:=s
   dsimp only at i j ⊢
   unfold cH
   rcases iZ (fw m l) with ⟨h,e⟩|⟨h,e⟩|⟨h,e⟩
   ·exact absurd h d
   ·rw [e,if_pos (by decide)]
    show _=Sp.meet ⟨lo,hi,a,b⟩ ⟨dm m l,0,false,true⟩
    unfold Sp.meet BM
    rcases l_ (dm m l) lo with ⟨g,e⟩|⟨g,e⟩|⟨g,e⟩<;>rw [e]<;>cases a<;>cases b<;>simp at i j⊢<;> grind
   ·rw [e,if_neg (by decide)]
    show _=Sp.meet ⟨lo,hi,a,b⟩ ⟨0,dm m l,true,false⟩
    unfold Sp.meet BR
    rcases l_ (dm m l) hi with ⟨g,e⟩|⟨g,e⟩|⟨g,e⟩<;>rw [e]<;>cases a<;>cases b<;>simp at i j⊢<;> grind
  have f:c_ l s m=!(cH l s m).emp:=by
   unfold c_
   rcases iZ (fw m l) with ⟨h,e⟩|⟨h,e⟩|⟨h,e⟩
   ·exact absurd h d
   ·rw [e];rfl
   ·rw [e];rfl
  dsimp only
  rw [es,f]
  by_cases g:(cH l s m).a=false/\(cH l s m).b=false/\(cH l s m).hi<=(cH l s m).lo
  ·rw [if_pos g,Hl.2 g,if_neg (by decide)]
  ·rw [if_neg g]
   cases h:(cH l s m).emp
   ·rw [if_pos (by decide)]
   ·exact absurd (Hl.1 h) g
def edgeG (l:L3):List L3->Sp->Option Sp
 | [],s=>some s
 | m::r,s=>if m=l then edgeG l r s else match Hk l m s with
  | some s'=>edgeG l r s'
  | none=>none
theorem pT {l:L3}(hl:Nz l):∀{c:List L3} {s w:Sp},s.kY->edgeG l c s=some w->w.kY/\∀t,w.nd t↔s.nd t/\∀m∈c,m≠l->0<aj m (fu l t) (iF l t)
 | [],s,w,h,e=>by cases e;exact ⟨h,fun t=>⟨fun g=>⟨g,fun m hm=>by cases hm⟩,fun g=>g.1⟩⟩
 | m::c,s,w,h,e=>by
  unfold edgeG at e
  by_cases hm:m=l
  ·rw [if_pos hm] at e
   obtain ⟨g1,g2⟩:=pT hl h e
   refine ⟨g1,fun t=>(g2 t).trans (and_congr_right fun _=>?_)⟩
   rw [List.forall_mem_cons]
   exact ⟨fun g=>⟨fun b=>absurd hm b,g⟩,fun g=>g.2⟩
  ·rw [if_neg hm,Bg hl h] at e
   by_cases a:c_ l s m=true
   ·rw [if_pos a] at e
    obtain ⟨g1,g2⟩:=pT hl (kU h a) e
    refine ⟨g1,fun t=>?_⟩
    rw [g2,iP.1 a t,List.forall_mem_cons,and_assoc]
    exact and_congr_right fun _=>and_congr_left fun _=>⟨fun g _=>g,fun g=>g hm⟩
   ·rw [if_neg a] at e;cases e
theorem pR {l:L3}(hl:Nz l):∀{c:List L3} {s:Sp},s.kY->edgeG l c s=none->∀t,s.nd t->¬∀m∈c,m≠l->0<aj m (fu l t) (iF l t)
 | [],s,h,e=>by cases e
 | m::c,s,h,e=>by
  intro t ht hall
  obtain ⟨ha,hr⟩:=List.forall_mem_cons.1 hall
  unfold edgeG at e
  by_cases hm:m=l
  ·rw [if_pos hm] at e
   exact pR hl h e t ht hr
  ·rw [if_neg hm,Bg hl h] at e
   by_cases a:c_ l s m=true
   ·rw [if_pos a] at e
    exact pR hl (kU h a) e t ((iP.1 a t).2 ⟨ht,ha hm⟩) hr
   ·exact iP.2 h.2 (by simpa using a) t ht (ha hm)
theorem EL {l:L3}(hl:Nz l){c:List L3}:(edgeG l c fullSp).isSome=true↔Sec.Es c l:=by
 constructor
 ·intro h
  obtain ⟨w,hw⟩:=Option.isSome_iff_exists.1 h
  obtain ⟨b,d⟩:=pT hl gR hw
  obtain ⟨t,e⟩:=ma.1 b.2
  exact ⟨(fu l t,iF l t),(kN hl t).1,((d t).1 e).2⟩
 ·rintro ⟨p,f,a⟩
  obtain ⟨t,g,i⟩:=oD hl f
  cases h:edgeG l c fullSp with
  | some w=>rfl
  | none=>
   rw [g,i] at a
   exact absurd a (pR hl gR h t (oh t))
def insD (l:L3):List L3->List L3
 | []=>[l]
 | u::r=>if Sec.ang (Sec.dirL u) (Sec.dirL l)<0 then u::insD l r else if u=l then u::r else l::u::r
def refC (c:List L3):List L3->List L3->List L3
 | [],out=>out
 | l::r,out=>refC c r (if (edgeG l c fullSp).isSome=true then insD l out else out)
theorem insD_mem {l x:L3}:∀{r:List L3},x∈insD l r↔x=l\/x∈r
 | []=>by simp [insD]
 | u::r=>by
  unfold insD
  split
  ·rw [List.mem_cons,insD_mem,List.mem_cons];exact or_left_comm
  split
  ·rename_i e
   subst e
   rw [List.mem_cons]
   exact ⟨.inr,fun h=>h.elim .inl id⟩
  ·rw [List.mem_cons]
theorem Bz {l:L3}:∀{r:List L3},(r.Pairwise fun s u=>Sec.ang (Sec.dirL s) (Sec.dirL u)<0)->(∀s∈r,Sec.ang (Sec.dirL s) (Sec.dirL l)=0->s=l)->(insD l r).Pairwise fun s u=>Sec.ang (Sec.dirL s) (Sec.dirL u)<0
 | [],_,_=>List.pairwise_singleton _ _
 | u::r,h,hz=>by
  obtain ⟨h1,h2⟩:=List.pairwise_cons.1 h
  unfold insD
  split
  ·rename_i a
   refine List.pairwise_cons.2 ⟨fun y b=>?_,Bz h2 (fun s f=>hz s (List.mem_cons_of_mem _ f))⟩
   rcases insD_mem.1 b with rfl|b
   ·exact a
   ·exact h1 y b
  split
  ·exact h
  ·rename_i a d
   have c:Sec.ang (Sec.dirL l) (Sec.dirL u)<0:=by
    have i:Sec.ang (Sec.dirL u) (Sec.dirL l)≠0:=fun e=>d (hz u (List.mem_cons_self ..) e)
    rcases Sec.tg (Sec.dirL u) (Sec.dirL l) with g|g|g
    ·exact absurd g a
    ·exact absurd g i
    ·exact g
   refine List.pairwise_cons.2 ⟨fun y b=>?_,h⟩
   rcases List.mem_cons.1 b with rfl|b
   ·exact c
   ·exact yC c (h1 y b)
theorem Ma {c:List L3}(hk:∀m∈c,okL m=true){l m:L3}(hl:l∈c)(hm:m∈c)(el:Sec.Es c l)(em:Sec.Es c m)(h:Sec.ang (Sec.dirL l) (Sec.dirL m)=0):l=m:=by
 by_cases e:l=m
 ·exact e
 exfalso
 obtain ⟨p,a,b⟩:=em
 obtain ⟨r,d,f⟩:=el
 exact B3 (zk (hk l hl)) h a (b l hl e) d (f m hm fun g=>e g.symm)
theorem zH {c:List L3}(hk:∀m∈c,okL m=true):∀{r out:List L3},(∀m∈r,m∈c)->(∀m∈out,m∈c/\Sec.Es c m)->(out.Pairwise fun s u=>Sec.ang (Sec.dirL s) (Sec.dirL u)<0) ->
  ((refC c r out).Pairwise fun s u=>Sec.ang (Sec.dirL s) (Sec.dirL u)<0)/\∀x,x∈refC c r out↔x∈out\/x∈r/\Sec.Es c x
 | [],out,_,_,h=>⟨h,fun x=>by simp [refC]⟩
 | l::r,out,hr,ho,h=>by
  obtain ⟨hl,hr⟩:=List.forall_mem_cons.1 hr
  unfold refC
  by_cases he:Sec.Es c l
  ·rw [if_pos ((EL (jM (hk l hl))).2 he)]
   obtain ⟨a,b⟩:=zH hk (r:=r) (out:=insD l out) hr (fun m hm=>by
    rcases insD_mem.1 hm with rfl|hm
    ·exact ⟨hl,he⟩
    ·exact ho m hm) (Bz h fun s d e=>Ma hk (ho s d).1 hl (ho s d).2 he e)
   refine ⟨a,fun x=>?_⟩
   rw [b,insD_mem,List.mem_cons]
   constructor
   ·rintro ((rfl|h)|h)
    ·exact .inr ⟨.inl rfl,he⟩
    ·exact .inl h
    ·exact .inr ⟨.inr h.1,h.2⟩
   ·rintro (h|⟨rfl|h,e⟩)
    ·exact .inl (.inr h)
    ·exact .inl (.inl rfl)
    ·exact .inr ⟨h,e⟩
  ·rw [if_neg fun g=>he ((EL (jM (hk l hl))).1 g)]
   obtain ⟨a,b⟩:=zH hk (r:=r) (out:=out) hr ho h
   refine ⟨a,fun x=>?_⟩
   rw [b,List.mem_cons]
   constructor
   ·rintro (h|h)
    ·exact .inl h
    ·exact .inr ⟨.inr h.1,h.2⟩
   ·rintro (h|⟨rfl|h,e⟩)
    ·exact .inl h
    ·exact absurd e he
    ·exact .inr ⟨h,e⟩
theorem Es.of {M N:List L3}(h:∀x,x∈M->x∈N){l:L3}(e:Sec.Es N l):Sec.Es M l:=by
 obtain ⟨p,a,b⟩:=e
 exact ⟨p,a,fun m hm=>b m (h m hm)⟩
theorem G9 {ls:List L3}(hk:∀m∈ls,okL m=true):(∀c,bj ls [] []=some c->refC ls ls []=c.map Prod.fst/\CanC ls.reverse c/\(ls=[]\/refC ls ls []≠[]))/\(bj ls [] []=none->refC ls ls []=[]/\ls≠[]/\¬∃q,Sec.pos ls q):=by
 obtain ⟨u,w⟩:=A4 (ls:=ls) CanC.nil (fun m hm=>by cases hm) hk
 rw [List.append_nil] at u w
 obtain ⟨z,i⟩:=zH hk (r:=ls) (out:=[]) (fun m hm=>hm) (fun m hm=>by cases hm) List.Pairwise.nil
 have i:∀x,x∈refC ls ls []↔x∈ls/\Sec.Es ls x:=fun x=>(i x).trans ⟨fun h=>h.elim (fun h=>by cases h) id,.inr⟩
 have d:∀q,Sec.pos ls q↔Sec.pos ls.reverse q:=fun q=>⟨fun h m hm=>h m (List.mem_reverse.1 hm),fun h m hm=>h m (List.mem_reverse.2 hm)⟩
 constructor
 ·intro c e
  have j:=u c e
  obtain ⟨q,f⟩:=j.pos
  have f:=(d q).2 f
  refine ⟨?_,j,?_⟩
  ·refine tw z (List.pairwise_map.2 j.asc) fun x=>?_
   rw [i,List.mem_map]
   constructor
   ·rintro ⟨a,b⟩
    obtain ⟨v,A⟩:=j.all x (List.mem_reverse.2 a) (Es.of (fun y B=>List.mem_reverse.1 B) b)
    exact ⟨_,A,rfl⟩
   ·rintro ⟨s,C,rfl⟩
    obtain ⟨k,D,E⟩:=j.mem s C
    obtain ⟨t,F⟩:=ma.1 D.2
    have k:=List.mem_reverse.1 k
    exact ⟨k,⟨(fu s.1 t,iF s.1 t),(kN (jM (hk _ k)) t).1,fun m hm o=>(E t).1 F m (List.mem_reverse.2 hm) o⟩⟩
  ·by_cases n:ls=[]
   ·exact .inl n
   right
   obtain ⟨l,G,he⟩:=Sec.JB (Hj hk f) (fun m hm=>zk (hk m hm)) f n
   exact List.ne_nil_of_mem ((i l).2 ⟨G,he⟩)
 ·intro e
  have g:¬∃q,Sec.pos ls q:=fun ⟨q,f⟩=>w e ⟨q,(d q).1 f⟩
  refine ⟨?_,fun n=>g ⟨(0,0),fun m hm=>by rw [n] at hm;cases hm⟩,g⟩
  refine List.eq_nil_iff_forall_not_mem.2 fun x H=>?_
  obtain ⟨a,p,I,J⟩:=(i x).1 H
  obtain ⟨q,f,-⟩:=Sec.tV (zk (hk x a)) I J [] (fun m hm=>by cases hm)
  exact g ⟨q,f⟩
def my (x:Rat):List Rat->List Rat
 | []=>[x]
 | a::r=>if a<x then a::my x r else if a=x then a::r else x::a::r
theorem ow {x y:Rat}:∀{r:List Rat},y∈my x r↔y=x\/y∈r
 | []=>by simp [my]
 | a::r=>by
  unfold my
  split
  ·rw [List.mem_cons,ow,List.mem_cons];exact or_left_comm
  split
  ·rename_i e
   subst e
   rw [List.mem_cons]
   exact ⟨.inr,fun h=>h.elim .inl id⟩
  ·rw [List.mem_cons]
theorem BC {x:Rat}:∀{r:List Rat},r.Pairwise (·< ·)->(my x r).Pairwise (·< ·)
 | [],_=>List.pairwise_singleton _ _
 | a::r,h=>by
  obtain ⟨h1,h2⟩:=List.pairwise_cons.1 h
  unfold my
  split
  ·rename_i c
   refine List.pairwise_cons.2 ⟨fun y b=>?_,BC h2⟩
   rcases ow.1 b with rfl|b
   ·exact c
   ·exact h1 y b
  split
  ·exact h
  ·rename_i e f
   have d:x<a:=by grind
   refine List.pairwise_cons.2 ⟨fun y b=>?_,h⟩
   rcases List.mem_cons.1 b with rfl|b
   ·exact d
   ·have:=h1 y b;grind
def iu (l:List Rat):List Rat:=l.foldl (fun o x=>my x o) []
theorem zj:∀{l o:List Rat},o.Pairwise (·< ·)->(l.foldl (fun o x=>my x o) o).Pairwise (·< ·)/\∀y,y∈l.foldl (fun o x=>my x o) o↔y∈o\/y∈l
 | [],o,h=>⟨h,fun y=>by simp⟩
 | x::l,o,h=>by
  obtain ⟨g1,g2⟩:=zj (l:=l) (BC (x:=x) h)
  refine ⟨g1,fun y=>?_⟩
  rw [List.foldl_cons,g2,ow,List.mem_cons]
  constructor
  ·rintro ((h|h)|h)
   ·exact .inr (.inl h)
   ·exact .inl h
   ·exact .inr (.inr h)
  ·rintro (h|h|h)
   ·exact .inl (.inr h)
   ·exact .inl (.inl h)
   ·exact .inr h
theorem BX (l:List Rat):(iu l).Pairwise (·< ·):=(zj List.Pairwise.nil).1
theorem lg {l:List Rat}{y:Rat}:y∈iu l↔y∈l:=((zj (l:=l) List.Pairwise.nil).2 y).trans ⟨fun h=>h.elim (fun h=>by cases h) id,.inr⟩
def qZ:Rat->List Rat->List Rat
 | a,[]=>[a+1]
 | a,b::r=>(a+b)*((2:Int):Rat)⁻¹::qZ b r
def mF:List Rat->List Rat
 | []=>[0]
 | a::r=>(a-1)::qZ a r
theorem FN:((2:Int):Rat)⁻¹*2=1:=by
 have:=Rat.inv_mul_cancel ((2:Int):Rat) (by decide)
 exact this
theorem BP:∀{r:List Rat} {a:Rat},(a::r).Pairwise (·< ·)->∀t∈qZ a r,a<t/\t∉r
 | [],a,_,t,ht=>by
  unfold qZ at ht
  rw [List.mem_singleton.1 ht]
  exact ⟨by grind,fun h=>by cases h⟩
 | b::r,a,h,t,ht=>by
  obtain ⟨h1,h2⟩:=List.pairwise_cons.1 h
  have c:=h1 b (List.mem_cons_self ..)
  unfold qZ at ht
  rcases List.mem_cons.1 ht with e|ht
  ·have d:=FN
   generalize ((2:Int):Rat)⁻¹=z at e d
   have t1:t+t=a+b:=by rw [e];grind
   refine ⟨by grind,fun g=>?_⟩
   rcases List.mem_cons.1 g with g|g
   ·grind
   ·have:=(List.pairwise_cons.1 h2).1 t g
    grind
  ·obtain ⟨i,f⟩:=BP h2 t ht
   refine ⟨by grind,fun g=>?_⟩
   rcases List.mem_cons.1 g with g|g
   ·grind
   ·exact f g
theorem Bj {l:List Rat}(h:l.Pairwise (·< ·)):∀t∈mF l,t∉l:=fun t b=>by
 cases l with
 | nil=>exact fun h=>by cases h
 | cons a r=>
  unfold mF at b
  rcases List.mem_cons.1 b with e|b
  ·intro g
   rcases List.mem_cons.1 g with g|g
   ·grind
   ·have:=(List.pairwise_cons.1 h).1 t g
    grind
  ·obtain ⟨d,c⟩:=BP h t b
   intro g
   rcases List.mem_cons.1 g with g|g
   ·grind
   ·exact c g
theorem Hr {l:L3}(hl:Nz l){xs ys:List Rat}{x y:Rat}(hx:x∉xs)(hy:y∉ys)(h0:l.2.1=0->fu l 0∈xs)(h1:l.2.1≠0->-(((l.1:Rat)*x+(l.2.2:Rat))*((l.2.1:Rat))⁻¹)∈ys):aj l x y≠0:=fun b=>by
 by_cases c:l.2.1=0
 ·have m:(l.1:Rat)≠0:=fun e=>hl ⟨Rat.intCast_eq_zero_iff.1 e,c⟩
  have i:eN l≠0:=Nz.norm hl
  refine hx ?_
  have e:x=fu l 0:=by
   have a:=Rat.mul_inv_cancel _ i
   unfold aj at b
   have h:((l.2.1:Int):Rat)=0:=by rw [c];rfl
   have j:eN l=(l.1:Rat)*(l.1:Rat):=by unfold eN;rw [h];grind
   unfold fu
   rw [h] at b ⊢
   rw [j] at a ⊢
   generalize ((l.1:Rat)*(l.1:Rat))⁻¹=z at *
   have d:(l.1:Rat)*x=-(l.2.2:Rat):=by grind
   have f:x=((l.1:Rat)*(l.1:Rat)*z)*x:=by rw [a];grind
   rw [f]
   have g:(l.1:Rat)*(l.1:Rat)*z*x=(l.1:Rat)*z*((l.1:Rat)*x):=by grind
   rw [g,d]
   grind
  rw [e];exact h0 c
 ·have k:(l.2.1:Rat)≠0:=fun e=>c (Rat.intCast_eq_zero_iff.1 e)
  refine hy ?_
  have a:=Rat.mul_inv_cancel _ k
  have e:y=-(((l.1:Rat)*x+(l.2.2:Rat))*((l.2.1:Rat))⁻¹):=by
   unfold aj at b
   generalize ((l.2.1:Rat))⁻¹=z at *
   have d:(l.2.1:Rat)*y=-((l.1:Rat)*x+(l.2.2:Rat)):=by grind
   have f:y=((l.2.1:Rat)*z)*y:=by rw [a];grind
   rw [f]
   have g:(l.2.1:Rat)*z*y=z*((l.2.1:Rat)*y):=by grind
   rw [g,d]
   grind
  rw [e];exact h1 c
theorem za (x:Rat):∀r:List Rat,my x r=wu x r
 | []=>rfl
 | a::r=>by unfold my wu;rw [za x r]
theorem HH {x:Rat}{o:List Rat}:∀q∈wu x o,q=x\/q∈o:=fun q a=>by rw [←za] at a;exact ow.1 a
theorem kD {V:View}{p:OA}{n c:Nat}{ls:List Rat}(h:Lst 3 RQ V p n ls)(hl:ls.length<=2000000){k:Nat}(hs:∀q∈ls,Sz k q)(hk:2*k<274877906944) :
  Acts prog 82 #[.slice p n c] V fun r V'=>∃q m e,r=.slice q m e/\Lst 3 RQ V' q m (iu ls):=by
 obtain rfl:=h.len
 refine qC p _ c V _ ⟨fun z V'=>∃(i:Nat)(O:List Rat),z.2.2.2=(i:Int)/\i<=ls.length/\O.length<=i/\(∀q∈O,Sz k q)/\iu ls=(ls.drop i).foldl (fun o x=>my x o) O/\GR 3 RQ V' z.1 z.2.1 z.2.2.1 O,fun z=>ls.length-z.2.2.2.toNat,
  ⟨(0,0,[],0),by and_intros<;>rfl,0,[],rfl,Nat.zero_le _,Nat.zero_le _,(fun q d=>by cases d),by rw [List.drop_zero];rfl,GR.nil⟩,?_⟩
 rintro ⟨B,w2,us,z4⟩ V1 l1 ⟨i,O,e4,a1,Zs,E,l,s⟩
 dsimp only at e4 s
 subst e4
 have g1:=s.len
 have F:=s.le
 refine ⟨rfl,fun a=>?_,fun a a2 G bk H=>?_⟩
 rotate_left
 ·have a:¬(i:Int)<ls.length:=of_decide_eq_false a
  obtain rfl:i=ls.length:=by omega
  rw [List.drop_length] at l
  have l:iu ls=O:=l
  rw [l]
  subst g1
  exact ⟨_,_,w2,rfl,Lst.of_mrow H (s.row.le fun _ _ g=>g.le G) (by decide) F⟩
 have a:(i:Int)<ls.length:=of_decide_eq_true a
 have C:i<ls.length:=by omega
 have w:i64.wrap ((i:Int)+1)=((i+1:Nat):Int):=by rw [i64w (by omega)];rfl
 dsimp only
 rw [Int.toNat_natCast,w]
 obtain ⟨ad,ha,xs,-,d,u⟩:=(h.le l1 fun _ _ g=>g.le l1).at_ i C
 have v:=d
 obtain ⟨ep,en,ec,eq,em,ee,ex⟩:=d.shape
 have ex:=congrArg Array.toList (Value.agg.inj ex)
 dsimp only at ex
 subst ex
 have ed:ls.drop i=ls[i]::ls.drop (i+1):=List.drop_eq_getElem_cons C
 rw [ed,List.foldl_cons,za] at l
 have I:Sz k ls[i]:=hs _ (List.getElem_mem C)
 clear d
 generalize ls[i]=x at *
 refine ⟨cI ha,⟨by omega,by omega⟩,_,ep,en,ec,eq,em,ee,ad,ha,u 0 _ rfl,u 1 _ rfl,u 2 _ rfl,fun z _=>∃j:Nat,z=(j:Int)/\j<=O.length/\∀(t:Nat)(h:t<O.length),t<j->O[t]<x,fun z=>O.length-z.toNat,⟨0,by and_intros<;>rfl,0,rfl,Nat.zero_le _,fun t _ h=>absurd h (Nat.not_lt_zero t)⟩,?_⟩
 rintro z V2 K ⟨j,rfl,L,jl⟩
 have wj:i64.wrap ((j:Int)+1)=((j+1:Nat):Int):=by rw [i64w (by omega)];rfl
 rw [Int.toNat_natCast,wj]
 refine ⟨rfl,fun z _=>z=true↔∃h:j<O.length,O[j]<x,⟨fun a=>?_,fun a=>⟨false,by and_intros<;>rfl,?_⟩⟩,?_⟩
 ·have a:(j:Int)<(B:Int):=of_decide_eq_true a
  have f:j<O.length:=by omega
  obtain ⟨M,N,P,rc,Q,R,S,T,U,W⟩:=II s.row f
  refine ⟨⟨by omega,by omega⟩,F,M,N,P,rc,Q,R,S,⟨T,U⟩,fun V3 l3=>(sJ (W.le (K.trans l3)) (v.le (K.trans l3)) (E _ (List.getElem_mem f)) I (by omega)).mono ?_⟩
  rintro r V4 l4 rfl
  exact ⟨_,rfl,_,by and_intros<;>rfl,by dsimp only;rw [decide_eq_true_eq,Hb];exact ⟨fun h=>⟨f,h⟩,fun ⟨_,h⟩=>h⟩⟩
 ·have a:¬(j:Int)<(B:Int):=of_decide_eq_false a
  exact ⟨(fun h=>nomatch h),fun ⟨h,_⟩=>absurd h (by omega)⟩
 rintro z V5 l5 O0
 refine ⟨rfl,fun y=>?_,fun y=>?_⟩
 ·obtain ⟨f,X⟩:=O0.1 y
  refine ⟨((j+1:Nat):Int),by (try dsimp only);omega,by and_intros<;>rfl,j+1,rfl,f,fun t h a3=>?_⟩
  by_cases e:t=j
  ·subst e;exact X
  ·exact jl t h (by omega)
 have Y:∀h:j<O.length,¬O[j]<x:=fun h h'=>by
  have:=O0.2 ⟨h,h'⟩
  rw [y] at this;cases this
 have b:=JS O j L jl Y
 have A:=K.trans l5
 refine ⟨fun z _=>z=true↔¬∃h:j<O.length,O[j]=x,⟨fun he=>⟨true,by and_intros<;>rfl,?_⟩,fun he=>?_⟩,?_⟩
 ·have he:(j:Int)=(B:Int):=by simpa using he
  exact ⟨fun _ ⟨h,_⟩=>absurd h (by omega),fun _=>rfl⟩
 ·have he:¬(j:Int)=(B:Int):=by simpa using he
  have f:j<O.length:=by omega
  obtain ⟨M,N,P,rc,Q,R,S,T,U,W⟩:=II s.row f
  refine ⟨⟨by omega,by omega⟩,F,M,N,P,rc,Q,R,S,⟨T,U⟩,fun V6 l6=>(sJ (W.le (A.trans l6)) (v.le (A.trans l6)) (E _ (List.getElem_mem f)) I (by omega)).mono ?_⟩
  rintro r V7 l7 rfl
  exact ⟨_,rfl,_,by and_intros<;>rfl,by dsimp only;rw [bne_iff_ne,ne_eq,←iO];exact ⟨fun h ⟨_,h'⟩=>h h',fun h h'=>h ⟨f,h'⟩⟩⟩
 rintro z V8 l8 HF
 have Aw:=A.trans l8
 refine ⟨rfl,fun y V9 l9 bk H J=>?_,fun y=>?_⟩
 ·have Z:=HF.1 y
  rw [if_neg Z] at b
  have C0:=Aw.trans l9
  obtain ⟨xs,ys,x1,x2,x3,y1,y2,y3,r1,r2,r3,r4,r5⟩:=ER (V:=V9) (s.mono fun _ _ g=>g.le C0) (by decide) (fun _ _=>M8) H (es:=[_,_,_]) rfl (v.le C0) (j:=j) (by omega)
  refine ⟨⟨by omega,by omega⟩,⟨by omega,by omega⟩,⟨by omega,by omega⟩,xs,x1,x2,by omega,Nat.le_refl _,Nat.le_refl 3,x2,x3,fun a4 J2 sp c' h1 h2=>?_⟩
  rw [r1,r2]
  refine ⟨ys,y1,y2,Nat.le_refl _,y3,by omega,by omega,r3,r4,fun a0 D h3 h4=>⟨(j+(1+(B-j)),D,_,((i+1:Nat):Int)),by dsimp only;omega,by and_intros<;>first|rfl|omega,i+1,wu x O,rfl,C,?_,?_,l,?_⟩⟩
  ·rw [b,List.length_append,List.length_take,List.length_cons,List.length_drop];omega
  ·intro q d
   rcases HH q d with rfl|d
   ·exact I
   ·exact E q d
  ·show GR 3 RQ _ _ _ _ (wu x O)
   rw [b]
   exact r5 a0 D h3 h4
 ·have hex:∃h:j<O.length,O[j]=x:=Classical.byContradiction fun h=>by have:=HF.2 h;rw [y] at this;cases this
  rw [if_pos hex] at b
  rw [b] at l
  exact ⟨(B,w2,us,((i+1:Nat):Int)),by dsimp only;omega,by and_intros<;>rfl,i+1,O,rfl,C,by omega,E,l,s.mono fun _ _ g=>g.le Aw⟩
theorem BD (x:Rat):∀r:List Rat,(my x r).length<=r.length+1
 | []=>Nat.le_refl _
 | a::r=>by
  have:=BD x r
  unfold my
  split
  ·simp only [List.length_cons];omega
  ·split<;>simp only [List.length_cons]<;>omega
theorem uC (l:List Rat):(iu l).length<=l.length:=by
 have go:∀(l o:List Rat),(l.foldl (fun o x=>my x o) o).length<=o.length+l.length:=by
  intro l
  induction l with
  | nil=>exact fun o=>Nat.le_refl _
  | cons x r ih=>
   intro o
   have a:=ih (my x o)
   have b:=BD x o
   rw [List.foldl_cons,List.length_cons];omega
 have:=go l []
 simp only [List.length_nil,Nat.zero_add] at this
 exact this
theorem BQ:∀(r:List Rat)(a:Rat),qZ a r=((List.range r.length).map fun k=>((a::r).getD k 0+(a::r).getD (k+1) 0)*((2:Int):Rat)⁻¹)++[(a::r).getD r.length 0+((1:Int):Rat)]
 | [],a=>rfl
 | b::r,a=>by
  unfold qZ
  rw [BQ r b,List.length_cons,List.range_succ_eq_map,List.map_cons,List.map_map,List.cons_append]
  rfl
theorem sL (l:List Rat):mF l=fN l:=by
 cases l with
 | nil=>rfl
 | cons a r=>
  have e:fN (a::r)=uF (a::r) (r.length+1)++[(a::r).getD r.length 0+((1:Int):Rat)]:=by
   unfold fN
   rw [if_neg (by simp)];rfl
  have b:uF (a::r) (r.length+1)=(a-((1:Int):Rat))::(List.range r.length).map fun k=>((a::r).getD k 0+(a::r).getD (k+1) 0)*((2:Int):Rat)⁻¹:=rfl
  have c:mF (a::r)=(a-1)::qZ a r:=rfl
  rw [e,b,c,BQ,List.cons_append]
  rfl
theorem nZ {V:View}{p:OA}{n c:Nat}{cs:List Rat}(h:Lst 3 RQ V p n cs)(hn:cs.length<1000000000){k:Nat}(hs:∀q∈cs,Sz k q)(hk:4*k+8<274877906944) :
  Acts prog 81 #[.slice p n c] V fun r V'=>∃q m e,r=.slice q m e/\Lst 3 RQ V' q m (fN cs):=by
 obtain rfl:=h.len
 refine wX p _ c V _ ⟨fun l V1 l1 bk D=>?_,fun l=>?_⟩
 ·have l:cs.length=0:=by simpa using l
  have e:fN cs=[0]:=if_pos l
  rw [e]
  refine ⟨_,_,_,rfl,Lst.DN D (row_one rfl ?_)⟩
  have:=RQ.zero (V:=V1)
  simpa using this
 ·have l:¬cs.length=0:=by simpa using l
  have e:fN cs=uF cs cs.length++[cs.getD (cs.length-1) 0+((1:Int):Rat)]:=if_neg l
  rw [e]
  have i0:0<cs.length:=by omega
  obtain ⟨ad,b,p1,n1,c1,p2,n2,c2,W,hq,a0,a1,a2⟩:=yq h i0
  refine ⟨cI W,⟨by omega,by omega⟩,_,_,_,_,_,_,_,ad,W,a0,a1,a2,fun V2 X=>(h_ 1 (by decide) (by decide)).mono ?_⟩
  rintro r V3 Y g
  have g0:=g
  obtain ⟨_,_,_,_,_,_,rfl⟩:=g.shape
  refine ⟨_,_,_,_,_,_,_,rfl,fun V4 E=>(jB (hq.le (X.trans (Y.trans E))) (g0.le E) (hs _ (List.getElem_mem i0)) i_ (by omega)).mono ?_⟩
  rintro r V5 l5 Z
  have Kj:=Z
  obtain ⟨_,_,_,_,_,_,rfl⟩:=Z.shape
  have w:V.Le V5:=X.trans (Y.trans (E.trans l5))
  refine ⟨_,_,_,_,_,_,_,rfl,fun z V'=>∃i:Nat,z.2.2.2=(i:Int)/\1<=i/\i<=cs.length/\z.1=i/\i<=z.2.1/\z.2.1*3<=z.2.2.1.length/\Row 3 RQ V' z.2.2.1 (uF cs i),fun z=>cs.length-z.2.2.2.toNat,
   ⟨(1,1,_,1),by and_intros<;>first|rfl|decide,1,rfl,Nat.le_refl _,i0,rfl,Nat.le_refl _,Nat.le_refl _,row_one rfl (by rw [iS i0];exact Kj)⟩,?_⟩
  rintro ⟨a,z2,vs,z4⟩ V6 x ⟨i,e4,i1,a3,e1,F,G,H⟩
  dsimp only at e4 e1 F G H
  subst e4 e1
  have hlen:=B2 cs i1
  refine ⟨rfl,fun d=>?_,fun d=>?_⟩
  ·have d:(a:Int)<cs.length:=of_decide_eq_true d
   have j:a<cs.length:=by omega
   have o:a-1<cs.length:=by omega
   have I:i64.wrap ((a:Int)-1)=((a-1:Nat):Int):=by rw [i64w (by omega)];omega
   have w2:i64.wrap ((a:Int)+1)=(a:Int)+1:=i64w (by omega)
   dsimp only
   rw [I,w2,Int.toNat_natCast,Int.toNat_natCast]
   obtain ⟨J,b1,p3,n3,c3,p4,n4,c4,f,s,K,t,b2⟩:=yq (h.le (w.trans x) fun _ _ g=>g.le (w.trans x)) o
   obtain ⟨LN,d1,p5,n5,c5,p6,n6,c6,y,M,d0,N,d2⟩:=yq (h.le (w.trans x) fun _ _ g=>g.le (w.trans x)) j
   refine ⟨cI f,⟨by omega,by omega⟩,_,_,_,_,_,_,_,J,f,K,t,b2,cI y,⟨by omega,by omega⟩,_,_,_,_,_,_,_,LN,y,d0,N,d2,fun V7 O=>(Fy (s.le O) (M.le O) (hs _ (List.getElem_mem o)) (hs _ (List.getElem_mem j)) (by omega)).mono ?_⟩
   rintro r V8 l8 A
   have P:=A
   obtain ⟨_,_,_,_,_,_,rfl⟩:=A.shape
   refine ⟨_,_,_,_,_,_,_,rfl,by omega,F,G,rfl,?_,fun sp Q R h2=>⟨(a+1,Q,_,(a:Int)+1),by dsimp only;omega,by and_intros<;>rfl,a+1,rfl,by omega,j,rfl,R,?_,?_⟩⟩
   ·intro v hm
    simp only [List.mem_cons,List.not_mem_nil,or_false] at hm
    rcases hm with rfl|rfl|rfl<;>rfl
   ·dsimp only
    have ht:(vs.take (a*3)).length=a*3:=by rw [List.length_take];omega
    rw [List.length_append,List.length_append,ht]
    simp only [List.length_cons,List.length_nil]
    omega
   ·dsimp only
    rw [F4 cs i1,iS o,iS j]
    have:=(H.le (V':=V8) fun _ _ g=>g.le (O.trans l8)).snoc (sp:=sp) rfl P (by decide)
    rw [hlen] at this
    exact this
  ·have d:¬(a:Int)<cs.length:=of_decide_eq_false d
   obtain rfl:a=cs.length:=by omega
   have j:cs.length-1<cs.length:=by omega
   have I:i64.wrap ((cs.length:Int)-1)=((cs.length-1:Nat):Int):=by rw [i64w (by omega)];omega
   dsimp only
   rw [I,Int.toNat_natCast]
   obtain ⟨J,b1,p3,n3,c3,p4,n4,c4,f,s,K,t,b2⟩:=yq (h.le (w.trans x) fun _ _ g=>g.le (w.trans x)) j
   refine ⟨cI f,⟨by omega,by omega⟩,_,_,_,_,_,_,_,J,f,K,t,b2,fun V9 l9=>(h_ 1 (by decide) (by decide)).mono ?_⟩
   rintro r a4 B g2
   have S:=g2
   obtain ⟨_,_,_,_,_,_,rfl⟩:=g2.shape
   refine ⟨_,_,_,_,_,_,_,rfl,fun a5 u=>(dj (s.le (l9.trans (B.trans u))) (S.le u) (hs _ (List.getElem_mem j)) i_ (by omega)).mono ?_⟩
   rintro r a6 T A
   have P:=A
   obtain ⟨_,_,_,_,_,_,rfl⟩:=A.shape
   refine ⟨_,_,_,_,_,_,_,rfl,by omega,F,G,rfl,?_,fun sp Q R h2 U C bk D=>?_⟩
   ·intro v hm
    simp only [List.mem_cons,List.not_mem_nil,or_false] at hm
    rcases hm with rfl|rfl|rfl<;>rfl
   ·have L:=l9.trans (B.trans (u.trans (T.trans C)))
    have:=(H.le (V':=U) fun _ _ g=>g.le L).snoc (sp:=sp) rfl (P.le C) (by decide)
    rw [hlen] at this
    have k:=Lst.of_mrow (c:=Q) D this (by decide) (by rw [List.length_append,hlen];exact R)
    rw [List.length_append,hlen] at k
    rw [iS j]
    exact ⟨_,_,_,rfl,k⟩
end Go.Proofs.Tryz
