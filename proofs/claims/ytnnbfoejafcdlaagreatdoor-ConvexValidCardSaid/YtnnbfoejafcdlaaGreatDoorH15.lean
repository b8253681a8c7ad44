import Derived.Test.YtnnbfoejafcdlaaGreatDoorH14
import Derived.Test.YtnnbfoejafcdlaaGreatDoorH13
import Derived.Test.YtnnbfoejafcdlaaGreatDoorH11
import Derived.Test.YtnnbfoejafcdlaaGreatDoorH8
import Derived.Test.YtnnbfoejafcdlaaGreatDoorH5
import Derived.Test.YtnnbfoejafcdlaaGreatDoorH9
import Derived.Test.YtnnbfoejafcdlaaGreatDoorH12
import Derived.Test.YtnnbfoejafcdlaaGreatDoorH7
set_option linter.unusedVariables false
open Go.IntKind (i64 u64 u32)
namespace Go.Proofs.Tryz.aq
open Go.bE Go.dP
def half (u:V2):Int:=if u.2.num.sign>0\/u.2.num.sign=0/\u.1.num.sign>0 then 1 else if u.2.num.sign<0\/u.1.num.sign<0 then 2 else 0
def dp (u v:V2):Int:=if half u<half v then -1 else if half u>half v then 1 else -(cr u v).num.sign
theorem mz {q:Rat}:q.num.sign>0↔q>0:=by
 have:=Rat.num_nonneg (q:=-q)
 rw [Rat.neg_num] at this
 rw [gt_iff_lt,Int.sign_pos_iff]
 have h2:(0<=-q)↔¬q>0:=by constructor<;>intro h<;>grind
 rw [h2] at this
 by_cases h:q>0
 ·exact ⟨fun _=>h,fun _=>by
   have:¬0<=-q.num:=fun g=>this.1 g h
   omega⟩
 ·exact ⟨fun g=>by have:=this.2 h;omega,fun g=>absurd g h⟩
theorem DL {q:Rat}:q.num.sign<0↔q<0:=by
 have:=@mz (-q)
 rw [Rat.neg_num,Int.sign_neg] at this
 constructor
 ·intro h;have:=this.1 (by omega);grind
 ·intro h;have:=this.2 (by grind);omega
theorem bZ (u:V2):half u=1/\up u\/half u=2/\dn u\/half u=0/\u.1=0/\u.2=0:=by
 unfold half up dn
 split
 ·rename_i h;rw [mz,mz,fh] at h;exact .inl ⟨rfl,h⟩
 ·rename_i h
  rw [mz,mz,fh] at h
  split
  ·rename_i h';rw [DL,DL] at h';exact .inr (.inl ⟨rfl,by grind⟩)
  ·rename_i h';rw [DL,DL] at h';exact .inr (.inr ⟨rfl,by grind,by grind⟩)
theorem nV {u v:V2}:dp u v<0↔half u<half v\/half u=half v/\cr u v>0:=by
 have:=@mz (cr u v)
 unfold dp
 by_cases h1:half u<half v
 ·simp [h1]
 ·by_cases h2:half u>half v
  ·rw [if_neg h1,if_pos h2];omega
  ·rw [if_neg h1,if_neg h2];constructor
   ·intro h;exact .inr ⟨by omega,this.1 (by omega)⟩
   ·rintro (h|⟨h,h'⟩)
    ·omega
    ·have:=this.2 h';omega
theorem j9 {u v:V2}:dp u v=0↔half u=half v/\cr u v=0:=by
 have:=@fh (cr u v)
 unfold dp
 by_cases h1:half u<half v
 ·rw [if_pos h1];constructor
  ·intro h;omega
  ·rintro ⟨h,_⟩;omega
 ·by_cases h2:half u>half v
  ·rw [if_neg h1,if_pos h2];constructor
   ·intro h;omega
   ·rintro ⟨h,_⟩;omega
  ·rw [if_neg h1,if_neg h2];constructor
   ·intro h;exact ⟨by omega,this.1 (by omega)⟩
   ·rintro ⟨_,h⟩;have:=this.2 h;omega
theorem uq (u v:V2):dp u v<0\/dp u v=0\/dp v u<0:=by
 rw [nV,j9,nV]
 have:=gO u v
 rcases Int.lt_trichotomy (half u) (half v) with h|h|h
 ·exact .inl (.inl h)
 ·by_cases p:cr u v>0
  ·exact .inl (.inr ⟨h,p⟩)
  ·by_cases q:cr u v=0
   ·exact .inr (.inl ⟨h,q⟩)
   ·exact .inr (.inr (.inr ⟨h.symm,by grind⟩))
 ·exact .inr (.inr (.inl h))
theorem tP (u v:V2)(h:dp u v<0):¬dp v u<0:=by
 rw [nV] at *
 have:=gO u v
 rintro (h'|⟨h',g'⟩)<;>rcases h with h|⟨h,g⟩
 ·omega
 ·omega
 ·omega
 ·grind
theorem LJ {a b d:V2}(xR:half a=half b)(hbd:half b=half d)(h1:cr a b<=0)(h2:cr b d<=0):cr a d<=0:=by
 by_cases h:cr a d<=0
 ·exact h
 exfalso
 have c:cr a d>0:=by grind
 have j1:=OP a d b
 have j2:=Fj a d b
 rcases bZ b with ⟨e,hb⟩|⟨e,hb⟩|⟨e,hb⟩
 ·have ha:up a:=by rcases bZ a with ⟨e',h⟩|⟨e',h⟩|⟨e',h⟩<;>first|exact h|omega
  have hd:up d:=by rcases bZ d with ⟨e',h⟩|⟨e',h⟩|⟨e',h⟩<;>first|exact h|omega
  unfold up at ha hb hd
  have m1:=mn (show -(cr a b)≥0 by grind) (show d.2≥0 by grind)
  have m2:=mn (show -(cr b d)≥0 by grind) (show a.2≥0 by grind)
  have m3:=mn (show cr a d≥0 by grind) (show b.2≥0 by grind)
  have z3:cr a d*b.2=0:=by grind
  have b2:b.2=0:=by rcases Rat.mul_eq_zero.1 z3 with h|h<;>grind
  have b1:b.1>0:=by grind
  have d2:d.2=0:=by
   by_cases q:d.2>0
   ·have:=mp b1 q;unfold cr at h2;rw [b2] at h2;grind
   ·grind
  have d1:d.1>0:=by grind
  have:=mn (show a.2≥0 by grind) (show d.1≥0 by grind)
  unfold cr at c
  rw [d2] at c
  grind
 ·have ha:dn a:=by rcases bZ a with ⟨e',h⟩|⟨e',h⟩|⟨e',h⟩<;>first|exact h|omega
  have hd:dn d:=by rcases bZ d with ⟨e',h⟩|⟨e',h⟩|⟨e',h⟩<;>first|exact h|omega
  unfold dn at ha hb hd
  have m1:=mn (show -(cr a b)≥0 by grind) (show -d.2≥0 by grind)
  have m2:=mn (show -(cr b d)≥0 by grind) (show -a.2≥0 by grind)
  have m3:=mn (show cr a d≥0 by grind) (show -b.2≥0 by grind)
  have z3:cr a d*b.2=0:=by grind
  have b2:b.2=0:=by rcases Rat.mul_eq_zero.1 z3 with h|h<;>grind
  have b1:-b.1>0:=by grind
  have d2:d.2=0:=by
   by_cases q:-d.2>0
   ·have:=mp b1 q;unfold cr at h2;rw [b2] at h2;grind
   ·grind
  have d1:d.1<0:=by grind
  have:=mn (show -a.2≥0 by grind) (show -d.1≥0 by grind)
  unfold cr at c
  rw [d2] at c
  grind
 ·have ha:a.1=0/\a.2=0:=by rcases bZ a with ⟨e',h⟩|⟨e',h⟩|⟨e',h⟩<;>first|exact h|omega
  unfold cr at c
  rw [ha.1,ha.2] at c
  grind
theorem N9 {u v:V2}:¬dp u v<0↔half v<half u\/half u=half v/\cr u v<=0:=by
 rw [nV]
 constructor
 ·intro h
  rcases Int.lt_trichotomy (half u) (half v) with g|g|g
  ·exact absurd (.inl g) h
  ·exact .inr ⟨g,by by_cases p:cr u v>0;exact absurd (.inr ⟨g,p⟩) h;grind⟩
  ·exact .inl g
 ·rintro (h|⟨h,g⟩) (h'|⟨h',g'⟩)
  ·omega
  ·omega
  ·omega
  ·grind
theorem uu (a b d:V2)(h:¬dp a b<0)(h':¬dp b d<0):¬dp a d<0:=by
 rw [N9] at *
 rcases h with h|⟨h,g⟩<;>rcases h' with h'|⟨h',g'⟩
 ·exact .inl (by omega)
 ·exact .inl (by omega)
 ·exact .inl (by omega)
 ·exact .inr ⟨by omega,LJ h h' g g'⟩
theorem N_ {u v:V2}(hu:nz u)(hv:nz v):dp u v<0↔sM u v:=by
 have h0:∀{w:V2},nz w->¬(w.1=0/\w.2=0):=fun h g=>by unfold nz at h;rcases h with h|h;exact h g.1;exact h g.2
 rw [nV]
 unfold sM
 rcases bZ u with ⟨e,h⟩|⟨e,h⟩|⟨e,h⟩
 ·rcases bZ v with ⟨e',h'⟩|⟨e',h'⟩|⟨e',h'⟩
  ·rw [e,e'];constructor
   ·rintro (g|⟨_,g⟩)
    ·omega
    ·exact .inr ⟨.inl ⟨h,h'⟩,g⟩
   ·rintro (⟨_,g⟩|⟨_,g⟩)
    ·exact (eV h' g).elim
    ·exact .inr ⟨rfl,g⟩
  ·rw [e,e'];exact ⟨fun _=>.inl ⟨h,h'⟩,fun _=>.inl (by decide)⟩
  ·exact absurd h' (h0 hv)
 ·rcases bZ v with ⟨e',h'⟩|⟨e',h'⟩|⟨e',h'⟩
  ·rw [e,e'];constructor
   ·rintro (g|⟨g,_⟩)<;>omega
   ·rintro (⟨g,_⟩|⟨⟨g,_⟩|⟨_,g⟩,_⟩)
    ·exact (eV g h).elim
    ·exact (eV g h).elim
    ·exact (eV h' g).elim
  ·rw [e,e'];constructor
   ·rintro (g|⟨_,g⟩)
    ·omega
    ·exact .inr ⟨.inr ⟨h,h'⟩,g⟩
   ·rintro (⟨g,_⟩|⟨_,g⟩)
    ·exact (eV g h).elim
    ·exact .inr ⟨rfl,g⟩
  ·exact absurd h' (h0 hv)
 ·exact absurd h (h0 hu)
theorem Cd {u v:V2}(hu:nz u)(h:dp u v=0):∃c:Rat,c>0/\u=(c*v.1,c*v.2):=by
 rw [j9] at h
 obtain ⟨e,c⟩:=h
 have fin:∀k:Rat,k>0->u.1=k*v.1->u.2=k*v.2->∃c:Rat,c>0/\u=(c*v.1,c*v.2):=fun k h0 h1 h2=>⟨k,h0,Prod.ext h1 h2⟩
 have pos:∀x y:Rat,y≠0->x*y>0->x*y⁻¹>0:=fun x y hy h=>by
  have e:=inv_mul hy x
  generalize x*y⁻¹=t at *
  have e2:t*(y*y)=x*y:=by grind
  have:=sq_pos (u:=(y,0)) (.inl hy)
  unfold dt at this
  by_cases q:t>0
  ·exact q
  ·have:=mn (show -t≥0 by grind) (show y*y≥0 by grind);grind
 unfold cr at c
 have two:v.2≠0->u.2*v.2>0->∃c:Rat,c>0/\u=(c*v.1,c*v.2):=fun h0 h1=>by
  refine fin (u.2*v.2⁻¹) (pos _ _ h0 h1) ?_ (inv_mul h0 _).symm
  have:=inv_mul h0 u.1
  have:u.1*v.2*v.2⁻¹=u.2*v.1*v.2⁻¹:=by rw [show u.1*v.2=u.2*v.1 by grind]
  grind
 have one:v.1≠0->u.1*v.1>0->v.2=0->u.2=0->∃c:Rat,c>0/\u=(c*v.1,c*v.2):=fun h0 h1 h2 h3=>
  fin (u.1*v.1⁻¹) (pos _ _ h0 h1) (inv_mul h0 _).symm (by rw [h2,h3];grind)
 rcases bZ u with ⟨e1,h⟩|⟨e1,h⟩|⟨e1,h⟩
 ·have h':up v:=by rcases bZ v with ⟨e',h⟩|⟨e',h⟩|⟨e',h⟩<;>first|exact h|omega
  unfold up at h h'
  by_cases q:v.2>0
  ·refine two (by grind) ?_
   by_cases q':u.2>0
   ·exact mp q' q
   ·have u2:u.2=0:=by grind
    have:=mp (show u.1>0 by grind) q
    rw [u2] at c;grind
  ·have v2:v.2=0:=by grind
   have v1:v.1>0:=by grind
   by_cases q':u.2>0
   ·have:=mp q' v1;rw [v2] at c;grind
   ·exact one (by grind) (mp (by grind) v1) v2 (by grind)
 ·have h':dn v:=by rcases bZ v with ⟨e',h⟩|⟨e',h⟩|⟨e',h⟩<;>first|exact h|omega
  unfold dn at h h'
  by_cases q:v.2<0
  ·refine two (by grind) ?_
   by_cases q':u.2<0
   ·have:=mp (show -u.2>0 by grind) (show -v.2>0 by grind);grind
   ·have u2:u.2=0:=by grind
    have:=mp (show -u.1>0 by grind) (show -v.2>0 by grind)
    rw [u2] at c;grind
  ·have v2:v.2=0:=by grind
   have v1:-v.1>0:=by grind
   by_cases q':u.2<0
   ·have:=mp (show -u.2>0 by grind) v1;rw [v2] at c;grind
   ·refine one (by grind) ?_ v2 (by grind)
    have:=mp (show -u.1>0 by grind) v1;grind
 ·unfold nz at hu;grind
theorem Lv {a b d:V2}(h:dp a b=0)(h':dp b d=0):dp a d=0:=by
 have z:∀{u v:V2},dp u v=0↔¬dp u v<0/\¬dp v u<0:=by
  intro u v
  constructor
  ·intro e
   refine ⟨by omega,?_⟩
   rw [j9] at e
   have:=gO u v
   rw [nV]
   rintro (g|⟨_,g⟩)
   ·omega
   ·grind
  ·rintro ⟨g,g'⟩
   rcases uq u v with e|e|e
   ·exact absurd e g
   ·exact e
   ·exact absurd e g'
 rw [z] at *
 exact ⟨uu _ _ _ h.1 h'.1,uu _ _ _ h'.2 h.2⟩
theorem ur (a:V2):dp a a=0:=j9.2 ⟨rfl,by unfold cr;grind⟩
theorem Gs {a b d:V2}(h:¬dp b a<0)(h':dp b d<0):dp a d<0:=by
 by_cases q:dp a d<0
 ·exact q
 ·exact absurd h' (uu _ _ _ h q)
def eP (u v:V2):Bool:=decide (dp u v=0)
theorem CD:∀{r:List V2} {p:V2},(p::r).Pairwise (fun x y=>¬dp y x<0) ->
  (AR eP p r).Pairwise (fun x y=>dp x y<0)/\(∀x∈AR eP p r,dp p x<0)/\∀x∈p::r,∃y∈p::AR eP p r,dp y x=0
 | [],p,_=>⟨List.Pairwise.nil,(fun x h=>by cases h),fun x h=>⟨x,h,ur x⟩⟩
 | a::r,p,h=>by
  obtain ⟨h1,h2⟩:=List.pairwise_cons.1 h
  obtain ⟨i1,i2,i3⟩:=CD h2
  have pa:¬dp a p<0:=h1 a (List.mem_cons_self ..)
  unfold AR
  by_cases e:dp a p=0
  ·have:eP a p=true:=decide_eq_true e
   rw [if_pos this]
   have pa':¬dp p a<0:=fun g=>by
    rcases j9.1 e with ⟨e1,e2⟩
    rw [nV] at g
    have:=gO a p
    rcases g with g|⟨_,g⟩
    ·omega
    ·grind
   refine ⟨i1,fun x hx=>Gs pa (i2 x hx),fun x hx=>?_⟩
   rcases List.mem_cons.1 hx with rfl|hx
   ·exact ⟨x,List.mem_cons_self ..,ur x⟩
   ·obtain ⟨y,hy,g⟩:=i3 x hx
    rcases List.mem_cons.1 hy with rfl|hy
    ·refine ⟨p,List.mem_cons_self ..,Lv (b:=y) ?_ g⟩
     rcases uq p y with q|q|q
     ·exact absurd q pa'
     ·exact q
     ·exact absurd q pa
    ·exact ⟨y,List.mem_cons_of_mem _ hy,g⟩
  ·have:eP a p=false:=decide_eq_false e
   rw [this]
   have lt:dp p a<0:=by
    rcases uq p a with q|q|q
    ·exact q
    ·exfalso;apply e
     rw [j9] at *
     have:=gO a p
     exact ⟨q.1.symm,by grind⟩
    ·exact absurd q pa
   refine ⟨List.pairwise_cons.2 ⟨i2,i1⟩,fun x hx=>?_,fun x hx=>?_⟩
   ·rcases List.mem_cons.1 hx with rfl|hx
    ·exact lt
    ·exact Gs (b:=a) pa (i2 x hx)
   ·rcases List.mem_cons.1 hx with rfl|hx
    ·exact ⟨x,List.mem_cons_self ..,ur x⟩
    ·obtain ⟨y,hy,g⟩:=i3 x hx
     exact ⟨y,List.mem_cons_of_mem _ hy,g⟩
theorem Jl {m:List V2}(h:m.Pairwise (fun x y=>¬dp y x<0)):(xN eP m).Pairwise (fun x y=>dp x y<0)/\∀x∈m,∃y∈xN eP m,dp y x=0:=by
 cases m with
 | nil=>exact ⟨List.Pairwise.nil,fun x h=>by cases h⟩
 | cons p r=>
  obtain ⟨h1,h2,h3⟩:=CD h
  exact ⟨List.pairwise_cons.2 ⟨h2,h1⟩,h3⟩
theorem O4 {m:List V2}(h:m.Pairwise (fun x y=>¬dp y x<0))(hn:∀r∈m,nz r)(ho:∀r∈m,∃s∈m,U_ s r):Nb (xN eP m)/\∀x∈m,∃y∈xN eP m,∃c:Rat,c>0/\y=(c*x.1,c*x.2):=by
 obtain ⟨h1,h2⟩:=Jl h
 have sub:∀x∈xN eP m,x∈m:=Jm
 have mem:∀x∈m,∃y∈xN eP m,∃c:Rat,c>0/\y=(c*x.1,c*x.2):=fun x hx=>by
  obtain ⟨y,hy,e⟩:=h2 x hx
  exact ⟨y,hy,Cd (hn y (sub y hy)) e⟩
 refine ⟨⟨fun r hr=>hn r (sub r hr),fun r hr=>?_,?_⟩,mem⟩
 ·obtain ⟨s,hs,k,k0,e1,e2⟩:=ho r (sub r hr)
  obtain ⟨y,hy,c,c0,e⟩:=mem s hs
  refine ⟨y,hy,c*k,mp c0 k0,?_,?_⟩
  ·rw [e];show c*s.1=_;rw [e1];grind
  ·rw [e];show c*s.2=_;rw [e2];grind
 ·refine List.Pairwise.imp_of_mem ?_ h1
  intro a b ha hb g
  exact (N_ (hn a (sub a ha)) (hn b (sub b hb))).1 g
section
variable {D:List V2} (h:Nb D)
include h
theorem OY {i:Nat}{u w:V2}(hi:D[i]?=some u)(hw:D[(i+1)%D.length]?=some w):cr u w≥0:=by
 by_cases q:cr u w≥0
 ·exact q
 exfalso
 have QQ:w∈D:=List.mem_of_getElem? hw
 have hu:u∈D:=List.mem_of_getElem? hi
 obtain ⟨s,hs,ho⟩:=h.cl w QQ
 obtain ⟨k,k0,_,e2⟩:=Bn ho u
 have p:cr u s>0:=by rw [e2];have:=mp k0 (show -(cr u w)>0 by grind);grind
 obtain ⟨j,hj⟩:=List.getElem?_of_mem hs
 refine Nj (h.nz u hu) (h.nz w QQ) (h.nz s hs) (TB h hi hw hj (fun e=>?_) (fun e=>?_)) p (by grind)
 ·rw [e,hi] at hj;cases hj;unfold cr at p;grind
 ·rw [e,hw] at hj;cases hj;grind
omit h in
def R6 (f:V2->V2->V2)(D:List V2):List V2:=(List.range D.length).map fun i=>f (D.getD i (0,0)) (D.getD ((i+1)%D.length) (0,0))
theorem MQ {f:V2->V2->V2}(hf:∀u∈D,∀w∈D,cr u w≥0->Hn u w (f u w))(hD:D≠[]):SC D (R6 f D):=by
 have hl:0<D.length:=List.length_pos_iff.2 hD
 have key:∀i u w,D[i]?=some u->D[(i+1)%D.length]?=some w->D.getD i (0,0)=u/\D.getD ((i+1)%D.length) (0,0)=w/\Hn u w (f u w):=fun i u w hi hw=>
  ⟨by rw [List.getD_eq_getElem?_getD,hi];rfl,by rw [List.getD_eq_getElem?_getD,hw];rfl,hf u (List.mem_of_getElem? hi) w (List.mem_of_getElem? hw) (OY h hi hw)⟩
 refine .inr ⟨hD,fun x hx=>?_,fun i u w hi hw=>?_⟩
 ·obtain ⟨i,hi,rfl⟩:=List.mem_map.1 hx
  have hi:=List.mem_range.1 hi
  have e1:D[i]?=some D[i]:=List.getElem?_eq_getElem hi
  have e2:D[(i+1)%D.length]?=some (D[(i+1)%D.length]'(Nat.mod_lt _ hl)):=List.getElem?_eq_getElem _
  obtain ⟨k1,k2,k3⟩:=key i _ _ e1 e2
  exact ⟨i,_,_,e1,e2,by rw [k1,k2];exact k3⟩
 ·obtain ⟨k1,k2,k3⟩:=key i u w hi hw
  refine ⟨_,List.mem_map.2 ⟨i,List.mem_range.2 (List.getElem?_eq_some_iff.1 hi).1,rfl⟩,?_⟩
  rw [k1,k2];exact k3
end
theorem tS {a b c x y z:Int}(h1:a*y=b*x)(h2:a*z=c*x)(g:Nat.gcd (Nat.gcd x.natAbs y.natAbs) z.natAbs=1):x.natAbs∣a.natAbs:=by
 have e1:a.natAbs*y.natAbs=b.natAbs*x.natAbs:=by rw [←Int.natAbs_mul,←Int.natAbs_mul,h1]
 have e2:a.natAbs*z.natAbs=c.natAbs*x.natAbs:=by rw [←Int.natAbs_mul,←Int.natAbs_mul,h2]
 have d1:x.natAbs∣a.natAbs*Nat.gcd (Nat.gcd x.natAbs y.natAbs) z.natAbs:=by
  rw [←Nat.gcd_mul_left,←Nat.gcd_mul_left]
  exact Nat.dvd_gcd (Nat.dvd_gcd ⟨a.natAbs,by rw [Nat.mul_comm]⟩ ⟨b.natAbs,by rw [e1,Nat.mul_comm]⟩) ⟨c.natAbs,by rw [e2,Nat.mul_comm]⟩
 rwa [g,Nat.mul_one] at d1
theorem It {l m:L3}(ol:dO l=true)(om:dO m=true)(cl:lK l=l)(cm:lK m=m){x y:Rat}(hl:ar l x y=0)(hm:ar m x y=0)
  (hc:cr (ax l) (ax m)=0):l=m:=by
 unfold dO at ol om
 rw [Bool.and_eq_true,decide_eq_true_iff,decide_eq_true_iff] at ol om
 have c12:l.1*m.2.1=l.2.1*m.1:=by
  unfold cr ax at hc
  have:(l.1:Rat)*(m.2.1:Rat)=(l.2.1:Rat)*(m.1:Rat):=by grind
  exact_mod_cast this
 unfold ar at hl hm
 have r12:(l.1:Rat)*(m.2.1:Rat)=(l.2.1:Rat)*(m.1:Rat):=by exact_mod_cast c12
 have c13:l.1*m.2.2=l.2.2*m.1:=by
  have:(l.1:Rat)*(m.2.2:Rat)=(l.2.2:Rat)*(m.1:Rat):=by grind
  exact_mod_cast this
 have c23:l.2.1*m.2.2=l.2.2*m.2.1:=by
  have:(l.2.1:Rat)*(m.2.2:Rat)=(l.2.2:Rat)*(m.2.1:Rat):=by grind
  exact_mod_cast this
 obtain ⟨ol1,U8⟩:=ol
 obtain ⟨om1,U9⟩:=om
 unfold gW at U8 U9
 have Zn:Nat.gcd (Nat.gcd l.2.1.natAbs l.1.natAbs) l.2.2.natAbs=1:=by rw [Nat.gcd_comm l.2.1.natAbs];exact U8
 have Zp:Nat.gcd (Nat.gcd m.2.1.natAbs m.1.natAbs) m.2.2.natAbs=1:=by rw [Nat.gcd_comm m.2.1.natAbs];exact U9
 have a1:l.1.natAbs=m.1.natAbs:=Nat.dvd_antisymm (tS (a:=m.1) (b:=m.2.1) (c:=m.2.2) (by rw [Int.mul_comm,←c12,Int.mul_comm]) (by rw [Int.mul_comm,←c13,Int.mul_comm]) U8) (tS c12 c13 U9)
 have a2:l.2.1.natAbs=m.2.1.natAbs:=Nat.dvd_antisymm (tS (a:=m.2.1) (b:=m.1) (c:=m.2.2) (by rw [Int.mul_comm,c12,Int.mul_comm]) (by rw [Int.mul_comm,←c23,Int.mul_comm]) Zn) (tS (b:=l.1) (c:=l.2.2) c12.symm c23 Zp)
 have sl:¬(l.1<0\/l.1=0/\l.2.1<0):=fun h=>by
  unfold lK at cl
  rw [if_pos h] at cl
  have e1:-l.1=l.1:=congrArg (fun x:L3=>x.1) cl
  have e2:-l.2.1=l.2.1:=congrArg (fun x:L3=>x.2.1) cl
  omega
 have sm:¬(m.1<0\/m.1=0/\m.2.1<0):=fun h=>by
  unfold lK at cm
  rw [if_pos h] at cm
  have e1:-m.1=m.1:=congrArg (fun x:L3=>x.1) cm
  have e2:-m.2.1=m.2.1:=congrArg (fun x:L3=>x.2.1) cm
  omega
 have e1:l.1=m.1:=by omega
 by_cases z:l.1=0
 ·have e2:l.2.1=m.2.1:=by omega
  have n2:l.2.1≠0:=fun h=>ol1 ⟨z,h⟩
  have e3:m.2.2=l.2.2:=Int.eq_of_mul_eq_mul_left n2 (by rw [c23,e2,Int.mul_comm])
  exact Prod.ext e1 (Prod.ext e2 e3.symm)
 ·have e2:m.2.1=l.2.1:=Int.eq_of_mul_eq_mul_left z (by rw [c12,e1,Int.mul_comm])
  have e3:m.2.2=l.2.2:=Int.eq_of_mul_eq_mul_left z (by rw [c13,e1,Int.mul_comm])
  exact Prod.ext e1 (Prod.ext e2.symm e3.symm)
end Go.Proofs.Tryz.aq
namespace Go.Proofs.Tryz
open Go.bE Go.dP
theorem zu {V:View}{v:Value}{p:Rat×Rat}(h:nG V v p.1 p.2){k:Nat}(s1:Sz k p.1)(s2:Sz k p.2)(hk:k<=1099511627776) :
  ab prog 196 #[v] V fun r V'=>r=.int .i64 (aq.half p):=by
 obtain ⟨x1,x2,q,y1,y2,q',rfl,hx,hy⟩:=h
 refine wH x1 x2 q y1 y2 q' V _ fun V1 l1=>(eO (hy.le l1) s2 hk).mono ?_
 rintro r V2 l2 rfl
 have bV:=l1.trans l2
 refine ⟨_,rfl,fun h1 V3 l3=>?_,fun h1=>⟨fun h2 V4 l4=>(eO (hx.le (bV.trans l4)) s1 hk).mono ?_,fun h2=>⟨fun h3 mQ l12'=>?_,fun h3 qv cC=>(eO (hx.le (bV.trans cC)) s1 hk).mono ?_⟩⟩⟩
 ·have h1:p.2.num.sign>0:=of_decide_eq_true h1
  unfold aq.half;rw [if_pos (.inl h1)]
 ·have h1:¬p.2.num.sign>0:=of_decide_eq_false h1
  have h2:p.2.num.sign=0:=by simpa using h2
  rintro r V5 l5 rfl
  refine ⟨_,rfl,fun h3 V6 l6=>?_,fun h3=>⟨fun h4 V7 l7=>?_,fun h4 V8 l8=>(eO (hx.le (bV.trans (l4.trans (l5.trans l8)))) s1 hk).mono ?_⟩⟩
  ·have h3:p.1.num.sign>0:=of_decide_eq_true h3
   unfold aq.half;rw [if_pos (.inr ⟨h2,h3⟩)]
  ·have h4:p.2.num.sign<0:=of_decide_eq_true h4
   omega
  ·have h3:¬p.1.num.sign>0:=of_decide_eq_false h3
   have hn:¬(p.2.num.sign>0\/p.2.num.sign=0/\p.1.num.sign>0):=by omega
   rintro r V9 l9 rfl
   refine ⟨_,rfl,fun h5 jG l10=>?_,fun h5 jZ bI=>?_⟩
   ·have h5:p.1.num.sign<0:=of_decide_eq_true h5
    unfold aq.half;rw [if_neg hn,if_pos (.inr h5)]
   ·have h5:¬p.1.num.sign<0:=of_decide_eq_false h5
    unfold aq.half;rw [if_neg hn,if_neg (by omega)]
 ·have h1:¬p.2.num.sign>0:=of_decide_eq_false h1
  have h2:¬p.2.num.sign=0:=by simpa using h2
  have h3:p.2.num.sign<0:=of_decide_eq_true h3
  unfold aq.half;rw [if_neg (by omega),if_pos (.inl h3)]
 ·have h1:¬p.2.num.sign>0:=of_decide_eq_false h1
  have h2:¬p.2.num.sign=0:=by simpa using h2
  have h3:¬p.2.num.sign<0:=of_decide_eq_false h3
  omega
theorem MR (q:Rat):-1<=q.num.sign/\q.num.sign<=1:=by
 rcases Int.lt_trichotomy q.num 0 with h|h|h
 ·rw [Int.sign_eq_neg_one_of_neg h];omega
 ·rw [h];decide
 ·rw [Int.sign_eq_one_of_pos h];omega
theorem Cq {V:View}{v w:Value}{a b:Rat×Rat}(h:nG V v a.1 a.2)(h':nG V w b.1 b.2){k:Nat}(s1:Sz k a.1)(s2:Sz k a.2)(s3:Sz k b.1)(s4:Sz k b.2)(hk:4*k+3<274877906944) :
  ab prog 163 #[v,w] V fun r V'=>r=.int .i64 (aq.dp a b):=by
 have h0:=h
 have h0':=h'
 obtain ⟨x1,x2,q,y1,y2,q',rfl,-⟩:=h
 obtain ⟨u1,u2,t,w1,w2,t',rfl,-⟩:=h'
 refine BK x1 x2 q y1 y2 q' u1 u2 t w1 w2 t' V _ fun V1 l1=>(zu (h0.le l1) s1 s2 (by omega)).mono ?_
 rintro r V2 l2 rfl
 refine ⟨_,rfl,fun V3 l3=>(zu (h0'.le (l1.trans (l2.trans l3))) s3 s4 (by omega)).mono ?_⟩
 rintro r V4 l4 rfl
 have du:=l1.trans (l2.trans (l3.trans l4))
 refine ⟨_,rfl,fun g V5 l5=>?_,fun g=>⟨fun g' V6 l6=>?_,fun g' V7 l7=>(fL (h0.le (du.trans l7)) (h0'.le (du.trans l7)) s1 s2 s3 s4 hk).mono ?_⟩⟩
 ·unfold aq.dp;rw [if_pos (of_decide_eq_true g)]
 ·unfold aq.dp;rw [if_neg (of_decide_eq_false g),if_pos (of_decide_eq_true g')]
 ·rintro r V8 l8 gc
  have PB:=gc
  obtain ⟨c0,c1,c2,rfl⟩:=gc.shape
  refine ⟨_,_,_,rfl,fun V9 l9=>(eO (PB.le l9) (kC s1 s2 s3 s4) (by omega)).mono ?_⟩
  rintro r jG l10 rfl
  refine ⟨_,rfl,fun jZ bI=>?_⟩
  have bd:=MR (a.1*b.2-a.2*b.1)
  rw [aB (by omega)]
  unfold aq.dp;rw [if_neg (of_decide_eq_false g),if_neg (of_decide_eq_false g')]
  show _=Value.int .i64 (-(a.1*b.2-a.2*b.1).num.sign)
  congr 1;omega
def Oh:Rat×Rat:=(0,0)
def Qj (a b:Rat×Rat):Int:=aq.dp a b
def Ld (V:View)(v:Value)(c:Rat×Rat):Prop:=nG V v c.1 c.2/\Sz 100000 c.1/\Sz 100000 c.2
theorem Ld.le {V V':View}{v:Value}{c:Rat×Rat}(h:Ld V v c)(l:V.Le V'):Ld V' v c:=⟨h.1.le l,h.2⟩
theorem Ld.shape {V:View}{v:Value}{c:Rat×Rat}(h:Ld V v c):∃(x y:Int)(p:OA)(xb yb:Int)(pb:OA),v=.agg #[.int .i64 x,.int .i64 y,.pointer p,.int .i64 xb,.int .i64 yb,.pointer pb]:=by
 obtain ⟨⟨x1,x2,p,y1,y2,q,e,-⟩,-⟩:=h;exact ⟨_,_,_,_,_,_,e⟩
def eP (a b:Rat×Rat):Bool:=aq.eP a b
def pQ (p:Rat×Rat):Rat×Rat:=(p.1*(ia p.1 p.2)⁻¹,p.2*(ia p.1 p.2)⁻¹)
def Fu (p:Rat×Rat):Rat×Rat:=(-p.1,-p.2)
def RZ (l:L3):List (Rat×Rat):=[pQ (aq.ax l),Fu (pQ (aq.ax l))]
def KB (M:List L3):List (Rat×Rat):=M.flatMap RZ
structure Nf (V:View) (n:Nat) (vs:List Value) (l:List (Rat×Rat)):Prop where
 row:Row 6 Ld V vs l
 len:n=l.length
 Qm:l.length<50
theorem Nf.le {V V':View}{n:Nat}{vs:List Value}{l:List (Rat×Rat)}(h:Nf V n vs l)(e:V.Le V'):Nf V' n vs l:=⟨h.row.le fun _ _ g=>Ld.le g e,h.len,h.Qm⟩
theorem Nf.get {V:View}{n:Nat}{vs:List Value}{l:List (Rat×Rat)}(h:Nf V n vs l){k:Nat}(hk:k<l.length):∃(x y:Int)(p:OA)(xb yb:Int)(pb:OA),
  ((0+k*6)+6<=vs.length/\(vs.drop (0+k*6)).take 6=[.int .i64 x,.int .i64 y,.pointer p,.int .i64 xb,.int .i64 yb,.pointer pb])/\Ld V (.agg #[.int .i64 x,.int .i64 y,.pointer p,.int .i64 xb,.int .i64 yb,.pointer pb]) (l.getD k Oh):=by
 obtain ⟨xs,-,h2,h3,h4⟩:=h.row.get (d:=Oh) hk (by decide)
 have h20:=h2
 obtain ⟨x,y,p,xb,yb,pb,e⟩:=h2.shape
 have e:=congrArg Array.toList (Value.agg.inj e)
 dsimp only at e
 subst e
 rw [Nat.zero_add]
 exact ⟨x,y,p,xb,yb,pb,⟨h3,h4⟩,h20⟩
theorem Nf.swap {V:View}{n:Nat}{vs:List Value}{l:List (Rat×Rat)}(h:Nf V n vs l){i j:Nat}(hi:i<l.length)(hj:j<l.length){x y:Int}{p:OA}{xb yb:Int}{pb:OA}{x' y':Int}{p':OA}{Pp Pq:Int}{pb':OA}
  (h1:Ld V (.agg #[.int .i64 x,.int .i64 y,.pointer p,.int .i64 xb,.int .i64 yb,.pointer pb]) (l.getD i Oh))(h2:Ld V (.agg #[.int .i64 x',.int .i64 y',.pointer p',.int .i64 Pp,.int .i64 Pq,.pointer pb']) (l.getD j Oh)) :
  (0+i*6)+6<=vs.length/\(0+j*6)+6<=(dg vs (0+i*6) [.int .i64 x',.int .i64 y',.pointer p',.int .i64 Pp,.int .i64 Pq,.pointer pb']).length /\
  Nf V n (dg (dg vs (0+i*6) [.int .i64 x',.int .i64 y',.pointer p',.int .i64 Pp,.int .i64 Pq,.pointer pb']) (0+j*6) [.int .i64 x,.int .i64 y,.pointer p,.int .i64 xb,.int .i64 yb,.pointer pb]) (sE Oh l i j):=by
 obtain ⟨-,-,-,g1,-⟩:=h.row.get (d:=Oh) hi (by decide)
 obtain ⟨-,-,-,g2,-⟩:=h.row.get (d:=Oh) hj (by decide)
 rw [Nat.zero_add,Nat.zero_add]
 refine ⟨g1,by rw [sC (by exact g1)];exact g2,h.row.swap hi hj (by decide) rfl rfl h1 h2,by rw [p_];exact h.len,by rw [p_];exact h.Qm⟩
def EA (k:Nat)(V:View)(v:Value)(c:Rat×Rat):Prop:=nG V v c.1 c.2/\Sz k c.1/\Sz k c.2
theorem EA.le {k:Nat}{V V':View}{v:Value}{c:Rat×Rat}(h:EA k V v c)(l:V.Le V'):EA k V' v c:=⟨h.1.le l,h.2⟩
theorem Rx {a b:Int}{p:OA}{c d:Int}{q:OA}:∀v∈([.int .i64 a,.int .i64 b,.pointer p,.int .i64 c,.int .i64 d,.pointer q]:List Value),v.oneCell'=true:=by
 intro v hm
 simp only [List.mem_cons,List.not_mem_nil,or_false] at hm
 rcases hm with rfl|rfl|rfl|rfl|rfl|rfl<;>rfl
theorem pM {k:Nat}{V:View}{p:OA}{n:Nat}{al:List (Rat×Rat)}(h:cB 6 (EA k) V p n al){i:Nat}(hi:i<al.length) :
  p.isSome=true/\∃(x y:Int)(q:OA)(x' y':Int)(q':OA)(a:Addr),ah p (i*6)=some a/\V.at (a.add 0) (.int .i64 x)/\V.at (a.add 1) (.int .i64 y)/\V.at (a.add 2) (.pointer q)/\V.at (a.add 3) (.int .i64 x')/\V.at (a.add 4) (.int .i64 y')/\V.at (a.add 5) (.pointer q') /\
   EA k V (.agg #[.int .i64 x,.int .i64 y,.pointer q,.int .i64 x',.int .i64 y',.pointer q']) al[i]:=by
 obtain ⟨ad,h0,xs,h1,h2,h3⟩:=h.at_ i hi
 have h20:=h2
 obtain ⟨⟨x,y,q,x',y',q',e,-⟩,-⟩:=h2
 have e:=congrArg Array.toList (Value.agg.inj e)
 dsimp only at e
 subst e
 refine ⟨?_,x,y,q,x',y',q',ad,h0,h3 0 _ rfl,h3 1 _ rfl,h3 2 _ rfl,h3 3 _ rfl,h3 4 _ rfl,h3 5 _ rfl,h20⟩
 cases p with
 | none=>cases h0
 | some a=>rfl
def O_ (u w:Rat×Rat):Rat×Rat:=if aq.cr u w>0 then (u.1+w.1,u.2+w.2) else (-u.2,u.1)
def KJ (D:List (Rat×Rat)):List (Rat×Rat):=if D=[] then [(1,0)] else aq.R6 O_ D
theorem Fs (n:Int){d:Nat}(h:d≠0):mkRat n d*((d:Nat):Rat)=(n:Rat):=by
 have hd:((d:Nat):Rat)≠0:=by exact_mod_cast h
 rw [Rat.mkRat_eq_div,Rat.div_def]
 exact aq.inv_mul hd _
theorem JD {p:Rat×Rat}(h:aq.nz p):ia p.1 p.2>0:=by
 have hd:p.1.den*p.2.den≠0:=Nat.mul_ne_zero p.1.den_nz p.2.den_nz
 have e:=Fs (Nat.gcd (p.1.num.natAbs*p.2.den) (p.2.num.natAbs*p.1.den):Nat) hd
 have hg:0<Nat.gcd (p.1.num.natAbs*p.2.den) (p.2.num.natAbs*p.1.den):=by
  apply Nat.pos_of_ne_zero
  intro z
  rw [Nat.gcd_eq_zero_iff] at z
  have z1:p.1=0:=by
   rcases Nat.mul_eq_zero.1 z.1 with e|e
   ·exact Rat.num_eq_zero.1 (by omega)
   ·exact absurd e p.2.den_nz
  have z2:p.2=0:=by
   rcases Nat.mul_eq_zero.1 z.2 with e|e
   ·exact Rat.num_eq_zero.1 (by omega)
   ·exact absurd e p.1.den_nz
  unfold aq.nz at h
  rcases h with h|h
  ·exact h z1
  ·exact h z2
 have d0:((p.1.den*p.2.den:Nat):Rat)>0:=by exact_mod_cast Nat.pos_of_ne_zero hd
 have g0:(((Nat.gcd (p.1.num.natAbs*p.2.den) (p.2.num.natAbs*p.1.den):Nat):Int):Rat)>0:=by exact_mod_cast hg
 show mkRat _ _>0
 generalize mkRat ((Nat.gcd (p.1.num.natAbs*p.2.den) (p.2.num.natAbs*p.1.den):Nat):Int) (p.1.den*p.2.den)=q at *
 by_cases hq:q>0
 ·exact hq
 ·have:=aq.mn (show -q≥0 by grind) (show ((p.1.den*p.2.den:Nat):Rat)≥0 by grind)
  grind
theorem Dv {p:Rat×Rat}(h:aq.nz p):∃c:Rat,c>0/\pQ p=(c*p.1,c*p.2):=
 ⟨(ia p.1 p.2)⁻¹,Rat.inv_pos.2 (JD h),Prod.ext (Rat.mul_comm ..) (Rat.mul_comm ..)⟩
theorem G3 {l:L3}(h:¬(l.1=0/\l.2.1=0)):aq.nz (aq.ax l):=by
 unfold aq.nz aq.ax
 by_cases e:l.2.1=0
 ·right
  intro e'
  have:(l.1:Rat)=0:=by grind
  exact h ⟨by exact_mod_cast this,e⟩
 ·left
  show (l.2.1:Rat)≠0
  exact_mod_cast e
def TA (s a:Bool):Int:=if a then 2 else if s then 1 else 0
def Gl (t:Tr)(p:Rat×Rat)(c:Int):Prop:=∀D S,aq.Nb D->aq.SC D S->aq.Pu D (aq.ko t p)->c=TA (aq.anyS t p S) (aq.Lu t p S)
theorem Ms {q:L3->Prop}{t:Tr}(h:t.Lb q){p:Rat×Rat}:∀l∈aq.ko t p,q l:=fun l hl=>Be h l (aq.vK hl).2
theorem MS {u w:Rat×Rat}(h:aq.cr u w≥0):aq.Hn u w (O_ u w):=by
 unfold O_
 by_cases g:aq.cr u w>0
 ·rw [if_pos g]
  exact .inl ⟨g,1,1,by decide,by decide,Prod.ext (by unfold aq.Lm;grind) (by unfold aq.Lm;grind)⟩
 ·rw [if_neg g]
  exact .inr ⟨by grind,1,by decide,Prod.ext (by unfold aq.Lm aq.Sc;grind) (by unfold aq.Lm aq.Sc;grind)⟩
theorem Iu {D:List (Rat×Rat)}(h:aq.Nb D):aq.SC D (KJ D):=by
 unfold KJ
 by_cases e:D=[]
 ·rw [if_pos e];exact .inl ⟨e,rfl⟩
 ·rw [if_neg e];exact aq.MQ h (fun u _ w _ hc=>MS hc) e
theorem MH {M:List L3}(ho:∀l∈M,¬(l.1=0/\l.2.1=0)){m:List (Rat×Rat)}(pm:m.Perm (KB M))(pw:m.Pairwise fun x y=>¬Qj y x<0):aq.Nb (xN eP m)/\aq.Pu (xN eP m) M:=by
 have mem:∀r,r∈m↔∃l∈M,r=pQ (aq.ax l)\/r=Fu (pQ (aq.ax l)):=fun r=>by
  rw [pm.mem_iff]
  unfold KB RZ
  simp only [List.mem_flatMap,List.mem_cons,List.not_mem_nil,or_false]
 have key:=aq.O4 (m:=m) pw ?_ ?_
 ·obtain ⟨k1,k2⟩:=key
  refine ⟨k1,fun l hl=>?_⟩
  obtain ⟨y,hy,c,c0,e⟩:=k2 (pQ (aq.ax l)) ((mem _).2 ⟨l,hl,.inl rfl⟩)
  obtain ⟨d,d0,e'⟩:=Dv (G3 (ho l hl))
  refine ⟨y,hy,c*d,aq.mp c0 d0,?_⟩
  rw [e,e']
  exact Prod.ext (by show c*(d*_)=_;grind) (by show c*(d*_)=_;grind)
 ·intro r hr
  obtain ⟨l,hl,h⟩:=(mem r).1 hr
  have n0:=G3 (ho l hl)
  obtain ⟨d,d0,e'⟩:=Dv n0
  have np:aq.nz (pQ (aq.ax l)):=by
   rw [e']
   unfold aq.nz at n0 ⊢
   rcases n0 with n0|n0
   ·exact .inl fun h=>by rcases Rat.mul_eq_zero.1 h with h|h;grind;exact n0 h
   ·exact .inr fun h=>by rcases Rat.mul_eq_zero.1 h with h|h;grind;exact n0 h
  rcases h with rfl|rfl
  ·exact np
  ·unfold aq.nz Fu at *
   rcases np with np|np
   ·exact .inl (by show -(pQ (aq.ax l)).1≠0;grind)
   ·exact .inr (by show -(pQ (aq.ax l)).2≠0;grind)
 ·intro r hr
  obtain ⟨l,hl,h⟩:=(mem r).1 hr
  rcases h with rfl|rfl
  ·exact ⟨_,(mem _).2 ⟨l,hl,.inr rfl⟩,1,by decide,by unfold Fu;grind,by unfold Fu;grind⟩
  ·exact ⟨_,(mem _).2 ⟨l,hl,.inl rfl⟩,1,by decide,by unfold Fu;grind,by unfold Fu;grind⟩
def Hm (V:View)(w:Value)(p:Rat×Rat):Prop:=(∃b q n c q' n' c' d r m e r' m' e',w=.agg #[.bool b,.slice q n c,.slice q' n' c',.bool d,.slice r m e,.slice r' m' e']) /\
 ∀V1,V.Le V1->ab prog 115 #[w] V1 fun r V'=>nG V' r p.1 p.2
theorem Hm.le {V V':View}{w:Value}{p:Rat×Rat}(h:Hm V w p)(l:V.Le V'):Hm V' w p:=⟨h.1,fun V1 l1=>h.2 V1 (l.trans l1)⟩
theorem Hm.of {V:View}{w:Value}{p:Rat×Rat}(h:IY V w p.1 p.2){k:Nat}(s1:Sz k p.1)(s2:Sz k p.2)(hk:k<=1099511627776):Hm V w p:=by
 refine ⟨?_,fun V1 l1=>EO (h.le l1) s1 s2 hk⟩
 obtain ⟨b,q,n,c,q',n',c',d,r,m,e,r',m',e',rfl,-⟩:=h
 exact ⟨_,_,_,_,_,_,_,_,_,_,_,_,_,_,rfl⟩
theorem Hm.raw {V:View}{b d:Bool}{q q' r r':OA}{n c n' c' m e m' e':Nat}{xs ys us vs:List Nat}(h1:RD V q n c xs)(h2:RD V q' n' c' ys)(h3:RD V r m e us)(h4:RD V r' m' e' vs)(k1:xs.length<=1000000)(k2:ys.length<=1000000)(k3:us.length<=1000000)(k4:vs.length<=1000000) :
  Hm V (.agg #[.bool b,.slice q n c,.slice q' n' c',.bool d,.slice r m e,.slice r' m' e']) (mkRat (ay b xs) (val ys),mkRat (ay d us) (val vs)):=by
 refine ⟨⟨_,_,_,_,_,_,_,_,_,_,_,_,_,_,rfl⟩,fun V0 l0=>?_⟩
 refine sL b q n c q' n' c' d r m e r' m' e' V0 _ fun V1 l1=>(nY b (h1.le (l0.trans l1)) (h2.le (l0.trans l1)) (by omega) (by omega)).mono ?_
 rintro r V2 l2 g
 have g0:=g
 obtain ⟨x1,x2,x3,rfl⟩:=g.shape
 refine ⟨_,_,_,rfl,fun V3 l3=>(nY d (h3.le (l0.trans (l1.trans (l2.trans l3)))) (h4.le (l0.trans (l1.trans (l2.trans l3)))) (by omega) (by omega)).mono ?_⟩
 rintro r V4 l4 g'
 have g0':=g'
 obtain ⟨y1,y2,y3,rfl⟩:=g'.shape
 exact ⟨_,_,_,rfl,fun V5 l5=>⟨_,_,_,_,_,_,rfl,g0.le (l3.trans (l4.trans l5)),g0'.le l5⟩⟩
theorem Hm.zero {V:View}:Hm V (.agg #[.bool false,.slice none 0 0,.slice none 0 0,.bool false,.slice none 0 0,.slice none 0 0]) (0,0):=by
 have e:mkRat (ay false []) (val [])=0:=by decide
 have:=@Hm.raw V false false none none none none 0 0 0 0 0 0 0 0 [] [] [] [] RD.nil RD.nil RD.nil RD.nil (by decide) (by decide) (by decide) (by decide)
 rw [e] at this
 exact this
structure PW where
 b1:Bool
 xs:List Nat
 ys:List Nat
 b2:Bool
 us:List Nat
 vs:List Nat
structure PW.short (f:PW):Prop where
 x:f.xs.length<=3
 y:f.ys.length<=3
 u:f.us.length<=3
 v:f.vs.length<=3
def PW.pt (f:PW):Rat×Rat:=(sS f.b1 f.xs f.ys,sS f.b2 f.us f.vs)
def Hr (V:View)(v:Value)(f:PW):Prop:=∃p n c p' n' c' q m e q' m' e',v=.agg #[.bool f.b1,.slice p n c,.slice p' n' c',.bool f.b2,.slice q m e,.slice q' m' e'] /\
 EB V (.agg #[.bool f.b1,.slice p n c,.slice p' n' c']) f.b1 f.xs f.ys/\EB V (.agg #[.bool f.b2,.slice q m e,.slice q' m' e']) f.b2 f.us f.vs
theorem Hr.le {V V':View}{v:Value}{f:PW}(h:Hr V v f)(l:V.Le V'):Hr V' v f:=by
 obtain ⟨p,n,c,p',n',c',q,m,e,q',m',e',rfl,h1,h2⟩:=h
 exact ⟨_,_,_,_,_,_,_,_,_,_,_,_,rfl,h1.le l,h2.le l⟩
theorem PW.sz {V:View}{v:Value}{f:PW}(h:Hr V v f)(hs:f.short):Sz 97 f.pt.1/\Sz 97 f.pt.2:=by
 obtain ⟨_,_,_,_,_,_,_,_,_,_,_,_,-,⟨_,_,_,_,_,_,-,h1,h2⟩,⟨_,_,_,_,_,_,-,h3,h4⟩⟩:=h
 exact ⟨Am (k:=3) h1.cZ h2.cZ hs.x hs.y,Am (k:=3) h3.cZ h4.cZ hs.u hs.v⟩
theorem Hr.WX {V:View}{v:Value}{f:PW}(h:Hr V v f)(hs:f.short):Hm V v f.pt:=by
 obtain ⟨p,n,c,p',n',c',q,m,e,q',m',e',rfl,⟨_,_,_,_,_,_,e1,h1,h2⟩,⟨_,_,_,_,_,_,e2,h3,h4⟩⟩:=h
 cases e1
 cases e2
 exact Hm.raw h1 h2 h3 h4 (by have:=hs.x;omega) (by have:=hs.y;omega) (by have:=hs.u;omega) (by have:=hs.v;omega)
theorem Hr.pt {V:View}{v:Value}{f:PW}(h:Hr V v f)(hs:f.short):ab prog 34 #[v] V fun r V'=>RP V' r f.pt.1 f.pt.2:=by
 obtain ⟨p,n,c,p',n',c',q,m,e,q',m',e',rfl,h1,h2⟩:=h
 exact EW rfl h1 h2 (by have:=hs.x;omega) (by have:=hs.y;omega) (by have:=hs.u;omega) (by have:=hs.v;omega)
theorem Hr.lens {V:View}{f:PW}{b1:Bool}{p1:OA}{n1 c1:Nat}{p2:OA}{n2 c2:Nat}{b2:Bool}{p3:OA}{n3 c3:Nat}{p4:OA}{n4 c4:Nat}(h:Hr V (.agg #[.bool b1,.slice p1 n1 c1,.slice p2 n2 c2,.bool b2,.slice p3 n3 c3,.slice p4 n4 c4]) f) :
  n1=f.xs.length/\n2=f.ys.length/\n3=f.us.length/\n4=f.vs.length:=by
 obtain ⟨p,n,c,p',n',c',q,m,e,q',m',e',e0,⟨_,_,_,_,_,_,e1,h1,h2⟩,⟨_,_,_,_,_,_,e2,h3,h4⟩⟩:=h
 cases e0
 cases e1
 cases e2
 exact ⟨h1.len,h2.len,h3.len,h4.len⟩
end Go.Proofs.Tryz
namespace Go.Proofs.YtnnbfoejafcdlaaGreatDoor
open Go.ChangeShapes Go.WideShapes Go.ChangeAt Go.RowKit Go.bE Go.dP Go.Proofs.Tryz
section
variable {H:Type} {enc:TypeId × Value->H} {W:World} {fuel:Nat}
set_option maxRecDepth 100000 in
theorem Kq {c0 c1 c2 c3 c4 c5:Value}{y:DataW H×List MemPlace}(h:DataW.trod enc Tryz.prog W 0 (fun _=>true) true fuel 71 [c0,c1,c2,c3,c4,c5]=some y):∃f:PW,Hr (View.all W) (.agg #[c0,c1,c2,c3,c4,c5]) f:=by
 obtain ⟨xs,m,-,-,-,hl,hf⟩:=DataW.trod_struct Tryz.underlying71 h
 obtain ⟨y0,h0⟩:=eT hf hl 0 rfl (show Tryz.prog.cellsOf 67=3 by kernel_rfl)
 obtain ⟨y1,h1⟩:=eT hf hl 1 rfl (show Tryz.prog.cellsOf 67=3 by kernel_rfl)
 obtain ⟨b1,d1,e1,g1,_,_,_,_,_,_,rfl,rfl,rfl⟩:=KA h0
 obtain ⟨b2,d2,e2,g2,_,_,_,_,_,_,rfl,rfl,rfl⟩:=KA h1
 exact ⟨⟨b1,d1,e1,b2,d2,e2⟩,_,_,_,_,_,_,_,_,_,_,_,_,rfl,g1,g2⟩
end
set_option maxRecDepth 100000 in
theorem Ih {H:Type}{enc:TypeId×Value->H}{W:World}{r:Reach}{b0:Nat}{v:Value}{d:DataW H}{p:List MemPlace}(hv:Value.okWide Tryz.prog W r b0 71 v)(h:DataW.Trod enc Tryz.prog W 0 (fun _=>true) true 71 v d p):∃f:PW,Hr (View.all W) v f:=by
 obtain ⟨⟨cs⟩,rfl,hsz⟩:=okWide_struct Tryz.underlying71 hv
 have hsz:cs.length=6:=hsz.trans (by kernel_rfl)
 obtain ⟨c0,r0,rfl,z0⟩:=ew hsz
 obtain ⟨c1,r1,rfl,z1⟩:=ew z0
 obtain ⟨c2,r2,rfl,z2⟩:=ew z1
 obtain ⟨c3,r3,rfl,z3⟩:=ew z2
 obtain ⟨c4,r4,rfl,z4⟩:=ew z3
 obtain ⟨c5,r5,rfl,z5⟩:=ew z4
 obtain rfl:=List.length_eq_zero_iff.1 z5
 obtain ⟨fuel,hf⟩:=h
 exact Kq hf
end Go.Proofs.YtnnbfoejafcdlaaGreatDoor
namespace Go.Proofs.Tryz.aq
def mx (x:Rat×Rat)(t:Rat):Rat:=x.1+t*(x.2-x.1)
theorem Ft {x:Rat×Rat}{t:Rat}(h1:x.1>0)(h2:x.2>0)(t0:t>0)(t1:t<=1):mx x t>0:=by
 have a:=mn (show 1-t≥0 by grind) (show x.1≥0 by grind)
 have b:=mp t0 h2
 unfold mx;grind
theorem OU {x:Rat×Rat}{t s:Rat}(h1:x.1>0)(hs:mx x s≥0)(s0:s>0)(t0:t>0)(ts:t<=s):mx x t≥0:=by
 unfold mx at *
 have e:s*(x.1+t*(x.2-x.1))=(s-t)*x.1+t*(x.1+s*(x.2-x.1)):=by grind
 have a:=mn (show s-t≥0 by grind) (show x.1≥0 by grind)
 have b:=mn (show t≥0 by grind) hs
 by_cases h:x.1+t*(x.2-x.1)≥0
 ·exact h
 ·have:=mp s0 (show -(x.1+t*(x.2-x.1))>0 by grind)
  grind
theorem ug {y:Rat×Rat}(h1:y.1>0){s:Rat}(s0:s>0)(hs:mx y s<=0):∃t,t>0/\t<=s/\mx y t=0:=by
 have hd:y.1-y.2>0:=by
  by_cases c:y.1-y.2>0
  ·exact c
  ·have:=mn (show s≥0 by grind) (show y.2-y.1≥0 by grind)
   unfold mx at hs;grind
 have e:=inv_mul (show y.1-y.2≠0 by grind) y.1
 have p:=mp h1 (Rat.inv_pos.2 hd)
 refine ⟨y.1*(y.1-y.2)⁻¹,p,?_,?_⟩
 ·generalize y.1*(y.1-y.2)⁻¹=t at *
  by_cases c:t<=s
  ·exact c
  ·have:=mp (show t-s>0 by grind) hd
   unfold mx at hs;grind
 ·generalize y.1*(y.1-y.2)⁻¹=t at *
  unfold mx;grind
theorem E5:∀(L:List (Rat×Rat)),(∀x∈L,x.1>0)->(∃x∈L,x.2<=0)->∃t,t>0/\t<=1/\(∀x∈L,mx x t≥0)/\∃x∈L,mx x t=0
 | [],_,h=>by obtain ⟨x,hx,_⟩:=h;cases hx
 | y::L,h0,h=>by
  have hy:=h0 y (List.mem_cons_self ..)
  have hL:=fun x hx=>h0 x (List.mem_cons_of_mem y hx)
  by_cases c:∃x∈L,x.2<=0
  ·obtain ⟨t,t0,t1,a,x,hx,e⟩:=E5 L hL c
   by_cases g:mx y t≥0
   ·exact ⟨t,t0,t1,fun z hz=>by rcases List.mem_cons.1 hz with rfl|hz;exact g;exact a z hz,x,List.mem_cons_of_mem _ hx,e⟩
   ·obtain ⟨s,s0,st,es⟩:=ug hy t0 (by grind)
    exact ⟨s,s0,by grind,fun z hz=>by rcases List.mem_cons.1 hz with rfl|hz;grind;exact OU (hL z hz) (a z hz) t0 s0 st,y,List.mem_cons_self ..,es⟩
  ·obtain ⟨x,hx,hx2⟩:=h
   have:x=y:=by
    rcases List.mem_cons.1 hx with rfl|hx
    ·rfl
    ·exact absurd ⟨x,hx,hx2⟩ c
   subst this
   obtain ⟨s,s0,st,es⟩:=ug hy (s:=1) (by decide) (by unfold mx;grind)
   refine ⟨s,s0,st,fun z hz=>?_,x,List.mem_cons_self ..,es⟩
   rcases List.mem_cons.1 hz with rfl|hz
   ·grind
   ·have:z.2>0:=by
     by_cases q:z.2>0
     ·exact q
     ·exact absurd ⟨z,hz,by grind⟩ c
    have:=Ft (hL z hz) this s0 st
    grind
theorem BE:∀(L:List (Rat×Rat)),(∀x∈L,x.1>0)->∃s,s>0/\∀x∈L,x.1+s*x.2>0
 | [],_=>⟨1,by decide,fun x h=>by cases h⟩
 | y::L,h0=>by
  have hy:=h0 y (List.mem_cons_self ..)
  obtain ⟨s,s0,h⟩:=BE L fun x hx=>h0 x (List.mem_cons_of_mem y hx)
  by_cases c:y.1+s*y.2>0
  ·exact ⟨s,s0,fun z hz=>by rcases List.mem_cons.1 hz with rfl|hz;exact c;exact h z hz⟩
  ·have hn:-y.2>0:=by
    by_cases q:y.2<0
    ·grind
    ·have:=mn (show s≥0 by grind) (show y.2≥0 by grind);grind
   have e:=inv_mul (show -y.2≠0 by grind) y.1
   have p:=mp hy (Rat.inv_pos.2 hn)
   generalize y.1*(-y.2)⁻¹=r at *
   have hr:r<=s:=by
    by_cases q:r<=s
    ·exact q
    ·have:=mp (show r-s>0 by grind) hn;grind
   refine ⟨r*(1 / 2),by grind,fun z hz=>?_⟩
   rcases List.mem_cons.1 hz with rfl|hz
   ·grind
   ·have hz1:=h0 z (List.mem_cons_of_mem _ hz)
    have hz2:=h z hz
    by_cases q:z.2≥0
    ·have:=mn (show r*(1 / 2)≥0 by grind) q;grind
    ·have:=mn (show s-r*(1 / 2)≥0 by grind) (show -z.2≥0 by grind)
     grind
def pos (M:List L3)(p:V2):Prop:=∀m∈M,ar m p.1 p.2>0
def Es (M:List L3)(l:L3):Prop:=∃p:V2,ar l p.1 p.2=0/\∀m∈M,m≠l->ar m p.1 p.2>0
def Tb (M:List L3):Prop:=∀l∈M,∀m∈M,l≠m->∀p:V2,ar l p.1 p.2=0->ar m p.1 p.2=0->cr (ax l) (ax m)≠0
theorem Mz {l m:L3}{w:V2}(hw:w.1≠0\/w.2≠0)(h1:nv l w=0)(h2:nv m w=0):cr (ax l) (ax m)=0:=by
 have e1:cr (ax l) (ax m)*w.1=0:=by unfold nv at *;unfold cr ax;grind
 have e2:cr (ax l) (ax m)*w.2=0:=by unfold nv at *;unfold cr ax;grind
 rcases hw with h|h
 ·rcases Rat.mul_eq_zero.1 e1 with g|g;exact g;exact absurd g h
 ·rcases Rat.mul_eq_zero.1 e2 with g|g;exact g;exact absurd g h
theorem GC (u:V2):cr u u=0:=by unfold cr;grind
theorem qh (m:L3)(q p:V2)(t:Rat):ar m (q.1+t*(p.1-q.1)) (q.2+t*(p.2-q.2))=ar m q.1 q.2+t*(ar m p.1 p.2-ar m q.1 q.2):=by unfold ar;grind
theorem OW (m:L3)(q p:V2)(t:Rat):nv m (q.1+t*(p.1-q.1),q.2+t*(p.2-q.2))=nv m q+t*(nv m p-nv m q):=by unfold nv;grind
theorem OX (m:L3)(q x:V2):nv m (q.1-x.1,q.2-x.2)=ar m q.1 q.2-ar m x.1 x.2:=by unfold nv ar;grind
theorem W5 {M:List L3}(hd:Tb M)(hn:∀m∈M,(ax m).1≠0\/(ax m).2≠0){q p:V2}(hq:pos M q)(hp:∀m∈M,Es M m->ar m p.1 p.2>0):pos M p:=by
 intro m0 hm0
 by_cases c:ar m0 p.1 p.2>0
 ·exact c
 exfalso
 let f:L3->Rat×Rat:=fun m=>(ar m q.1 q.2,ar m p.1 p.2)
 obtain ⟨t,t0,t1,ge,x,hx,ex⟩:=E5 (M.map f) (fun x hx=>by obtain ⟨m,hm,rfl⟩:=List.mem_map.1 hx;exact hq m hm) ⟨f m0,List.mem_map_of_mem hm0,by show ar m0 p.1 p.2<=0;grind⟩
 obtain ⟨m1,hm1,rfl⟩:=List.mem_map.1 hx
 let X:V2:=(q.1+t*(p.1-q.1),q.2+t*(p.2-q.2))
 have vX:∀m,ar m X.1 X.2=mx (f m) t:=fun m=>qh m q p t
 have Zi:∀m∈M,ar m X.1 X.2≥0:=fun m hm=>by rw [vX];exact ge _ (List.mem_map_of_mem hm)
 have zX:ar m1 X.1 X.2=0:=by rw [vX];exact ex
 let u:V2:=(q.1-X.1,q.2-X.2)
 have vu:∀m,nv m u=ar m q.1 q.2-ar m X.1 X.2:=fun m=>OX m q X
 let Z:=M.filter fun m=>decide (ar m X.1 X.2=0)
 have Mr:∀m,m∈Z↔m∈M/\ar m X.1 X.2=0:=fun m=>by simp [Z,List.mem_filter]
 have m1Z:m1∈Z:=(Mr m1).2 ⟨hm1,zX⟩
 let d:=ax m1
 have d0:nv m1 d=0:=by rw [G2];exact GC _
 let g:L3->Rat×Rat:=fun m=>(nv m u,nv m d)
 obtain ⟨k,k0,k1,Zj,y,hy,ey⟩:=E5 (Z.map g) (fun x hx=>by
  obtain ⟨m,hm,rfl⟩:=List.mem_map.1 hx
  obtain ⟨ZK,hz⟩:=(Mr m).1 hm
  show nv m u>0
  rw [vu,hz];have:=hq m ZK;grind) ⟨g m1,List.mem_map_of_mem m1Z,by show nv m1 d<=0;rw [d0];grind⟩
 obtain ⟨m2,hm2,rfl⟩:=List.mem_map.1 hy
 obtain ⟨U2,U3⟩:=(Mr m2).1 hm2
 let w:V2:=(u.1+k*(d.1-u.1),u.2+k*(d.2-u.2))
 have vw:∀m,nv m w=mx (g m) k:=fun m=>OW m u d k
 have wz:nv m2 w=0:=by rw [vw];exact ey
 have w0:w.1≠0\/w.2≠0:=by
  by_cases e:k=1
  ·have:=hn m1 hm1
   have e1:w.1=d.1:=by dsimp only [w];rw [e];grind
   have e2:w.2=d.2:=by dsimp only [w];rw [e];grind
   rw [e1,e2];exact this
  ·have a:nv m1 w>0:=by
    rw [vw]
    show nv m1 u+k*(nv m1 d-nv m1 u)>0
    rw [d0]
    have:nv m1 u>0:=by rw [vu,zX];have:=hq m1 hm1;grind
    have:=mp (show 1-k>0 by grind) this
    grind
   by_cases e1:w.1=0
   ·by_cases e2:w.2=0
    ·unfold nv at a;rw [e1,e2] at a;grind
    ·exact .inr e2
   ·exact .inl e1
 obtain ⟨s,s0,hs⟩:=BE ((M.filter fun m=>decide (ar m X.1 X.2>0)).map fun m=>(ar m X.1 X.2,nv m w)) (fun x hx=>by
  obtain ⟨m,hm,rfl⟩:=List.mem_map.1 hx
  simpa using (List.mem_filter.1 hm).2)
 have es:Es M m2:=by
  refine ⟨(X.1+s*w.1,X.2+s*w.2),?_,fun m hm hne=>?_⟩
  ·rw [gR,U3,wz];grind
  ·rw [gR]
   by_cases z:ar m X.1 X.2=0
   ·have ZL:=(Mr m).2 ⟨hm,z⟩
    have g0:nv m w≥0:=by rw [vw];exact Zj _ (List.mem_map_of_mem ZL)
    have ne:nv m w≠0:=fun e=>hd m2 U2 m hm (fun h=>hne h.symm) X U3 z (Mz w0 wz e)
    have:=mp s0 (show nv m w>0 by grind)
    rw [z];grind
   ·have gz:=Zi m hm
    have hmem:(ar m X.1 X.2,nv m w)∈((M.filter fun m=>decide (ar m X.1 X.2>0)).map fun m=>(ar m X.1 X.2,nv m w)):=List.mem_map.2 ⟨m,List.mem_filter.2 ⟨hm,by simp;grind⟩,rfl⟩
    exact hs _ hmem
 have a:=hp m2 U2 es
 have b:=hq m2 U2
 have:=Ft (x:=f m2) b a t0 t1
 rw [←vX,U3] at this
 grind
def G0 (l:L3):V2:=((l.1:Rat),(l.2.1:Rat))
theorem VG {x y:Rat}(h:x≠0\/y≠0):x*x+y*y>0:=by
 have p:∀z:Rat,z≠0->z*z>0:=fun z hz=>by
  by_cases c:z>0
  ·exact mp c c
  ·have:=mp (show -z>0 by grind) (show -z>0 by grind);grind
 have q:∀z:Rat,z*z≥0:=fun z=>by
  by_cases c:z≥0
  ·exact mn c c
  ·have:=mn (show -z≥0 by grind) (show -z≥0 by grind);grind
 rcases h with h|h
 ·have:=p x h;have:=q y;grind
 ·have:=p y h;have:=q x;grind
theorem Ke {l:L3}(h:(ax l).1≠0\/(ax l).2≠0):nv l (G0 l)>0:=by
 have:nv l (G0 l)=(l.1:Rat)*(l.1:Rat)+(l.2.1:Rat)*(l.2.1:Rat):=rfl
 rw [this]
 refine VG ?_
 rcases h with h|h
 ·exact .inr h
 ·left;intro e;apply h;show -(l.1:Rat)=0;rw [e];grind
theorem GH {M:List L3}(hd:Tb M)(hn:∀m∈M,(ax m).1≠0\/(ax m).2≠0){q:V2}(hq:pos M q)(h0:M≠[]):∃l∈M,Es M l:=by
 obtain ⟨l,hl⟩:=List.exists_mem_of_ne_nil M h0
 by_cases c:∃l∈M,Es M l
 ·exact c
 exfalso
 have h1:=Ke (hn l hl)
 have e:=inv_mul (show nv l (G0 l)≠0 by grind) (ar l q.1 q.2)
 have hp:=W5 hd hn hq (p:=(q.1+-(ar l q.1 q.2*(nv l (G0 l))⁻¹)*(G0 l).1,q.2+-(ar l q.1 q.2*(nv l (G0 l))⁻¹)*(G0 l).2)) (fun m hm he=>absurd ⟨m,hm,he⟩ c) l hl
 rw [gR] at hp
 grind
theorem AX {M:List L3}{l:L3}(hn:(ax l).1≠0\/(ax l).2≠0){x:V2}(hx:ar l x.1 x.2=0)(h:∀m∈M,m≠l->ar m x.1 x.2>0)(L:List L3)(hL:∀m∈L,ar m x.1 x.2>0):∃q:V2,pos M q/\ar l q.1 q.2>0/\pos L q:=by
 have h1:=Ke hn
 obtain ⟨s,s0,hs⟩:=BE (((M.filter fun m=>decide (m≠l))++L).map fun m=>(ar m x.1 x.2,nv m (G0 l))) (fun y hy=>by
  obtain ⟨m,hm,rfl⟩:=List.mem_map.1 hy
  rcases List.mem_append.1 hm with hm|hm
  ·have:=List.mem_filter.1 hm
   exact h m this.1 (by simpa using this.2)
  ·exact hL m hm)
 have hl:ar l (x.1+s*(G0 l).1) (x.2+s*(G0 l).2)>0:=by rw [gR,hx];have:=mp s0 h1;grind
 refine ⟨(x.1+s*(G0 l).1,x.2+s*(G0 l).2),fun m hm=>?_,hl,fun m hm=>?_⟩
 ·by_cases e:m=l
  ·rw [e];exact hl
  ·rw [gR]
   exact hs (ar m x.1 x.2,nv m (G0 l)) (List.mem_map.2 ⟨m,List.mem_append_left _ (List.mem_filter.2 ⟨hm,by simpa using e⟩),rfl⟩)
 ·rw [gR]
  exact hs (ar m x.1 x.2,nv m (G0 l)) (List.mem_map.2 ⟨m,List.mem_append_right _ hm,rfl⟩)
theorem Dp {M:List L3}{l:L3}(hno:∀x:V2,ar l x.1 x.2=0->¬pos M x){q p:V2}(hq:pos M q)(hp:pos M p):ar l q.1 q.2>0->ar l p.1 p.2>0:=by
 intro h
 by_cases c:ar l p.1 p.2>0
 ·exact c
 exfalso
 obtain ⟨t,t0,t1,e⟩:=ug (y:=(ar l q.1 q.2,ar l p.1 p.2)) h (s:=1) (by decide) (by unfold mx;grind)
 refine hno (q.1+t*(p.1-q.1),q.2+t*(p.2-q.2)) ?_ fun m hm=>?_
 ·rw [qh];exact e
 ·rw [qh];exact Ft (x:=(ar m q.1 q.2,ar m p.1 p.2)) (hq m hm) (hp m hm) t0 t1
end Go.Proofs.Tryz.aq
namespace Go.Proofs.Tryz
open Go.bE Go.dP
def Sp.oh (s:Sp)(t:Rat):Prop:=(s.a=true\/s.lo<t)/\(s.b=true\/t<s.hi)
def H_ (ss:List Sp)(t:Rat):Prop:=∃s∈ss,s.oh t
def Sp.jk (s:Sp):Prop:=s.can/\s.emp=false
def Sp.Pz (s t:Sp):Prop:=s.b=false/\t.a=false/\s.hi<t.lo
def IV (ss:List Sp):Prop:=(∀s∈ss,s.jk)/\ss.Pairwise Sp.Pz
theorem pick (E:List Rat):∀l u:Rat,l<u->∃t,l<t/\t<u/\t∉E:=by
 induction E with
 | nil=>exact fun l u h=>⟨(l+u) / 2,by grind,by grind,by simp⟩
 | cons e r ih=>
  intro l u h
  by_cases c:l<e/\e<u
  ·obtain ⟨t,h1,h2,h3⟩:=ih l e c.1
   refine ⟨t,h1,by grind,fun hm=>?_⟩
   rcases List.mem_cons.1 hm with rfl|hm
   ·grind
   ·exact h3 hm
  ·obtain ⟨t,h1,h2,h3⟩:=ih l u h
   refine ⟨t,h1,h2,fun hm=>?_⟩
   rcases List.mem_cons.1 hm with rfl|hm
   ·exact c ⟨h1,h2⟩
   ·exact h3 hm
theorem Dd {s:Sp}(h:s.emp=false)(ha:s.a=false)(hb:s.b=false):s.lo<s.hi:=by
 rcases Sp.kS.1 h with h|h|h
 ·rw [ha] at h;cases h
 ·rw [hb] at h;cases h
 ·exact h
theorem IV.tail {s:Sp}{r:List Sp}(h:IV (s::r)):IV r:=⟨fun x hx=>h.1 x (by simp [hx]),(List.pairwise_cons.1 h.2).2⟩
theorem IV.Pz {s:Sp}{r:List Sp}(h:IV (s::r)){x:Sp}(hx:x∈r):s.Pz x:=(List.pairwise_cons.1 h.2).1 x hx
set_option linter.unusedSectionVars false
section
variable {s s':Sp} {r r':List Sp} {E:List Rat} (h:IV (s :: r)) (h':IV (s' :: r')) (e:∀t,t ∉ E->H_ (s :: r) t->H_ (s' :: r') t)
include h h' e
end
theorem Sp.ext' {s t:Sp}(h1:s.a=t.a)(h2:s.b=t.b)(h3:s.lo=t.lo)(h4:s.hi=t.hi):s=t:=by
 cases s;cases t;simp at *;exact ⟨h3,h4,h1,h2⟩
end Go.Proofs.Tryz
namespace Go.Proofs.Tryz
open Go.bE Go.dP
theorem ue:Sz 2 (((2:Int):Rat)):=⟨by show (2:Int).natAbs<_;decide,by show (1:Nat)<_;decide⟩
theorem fT:Sz 2 (((1:Int):Rat)):=⟨by show (1:Int).natAbs<_;decide,by show (1:Nat)<_;decide⟩
theorem nZ {V:View}{v:Value}{x:Rat}(h:RQ V v x){k:Nat}(sx:Sz k x)(hk:k+2<274877906944) :
  ab prog 97 #[v] V fun r V'=>RQ V' r (x*((2:Int):Rat)⁻¹):=by
 have h0:=h
 obtain ⟨_,_,_,_,_,_,rfl⟩:=h.shape
 refine Ea _ _ _ _ _ _ _ V _ fun V1 l1=>(fN 2 (by decide) (by decide)).mono ?_
 rintro r V2 l2 g
 have g0:=g
 obtain ⟨_,_,_,_,_,_,rfl⟩:=g.shape
 refine ⟨_,_,_,_,_,_,_,rfl,fun V3 l3=>(gC (h0.le (l1.trans (l2.trans l3))) (g0.le l3) (by show (2:Int)≠0;decide) sx ue hk).mono ?_⟩
 rintro r V4 l4 q
 have q0:=q
 obtain ⟨_,_,_,_,_,_,rfl⟩:=q.shape
 exact ⟨_,_,_,_,_,_,_,rfl,fun V5 l5=>q0.le l5⟩
theorem HF {V:View}{v w:Value}{x y:Rat}(h:RQ V v x)(h':RQ V w y){k:Nat}(sx:Sz k x)(sy:Sz k y)(hk:4*k+4<274877906944) :
  ab prog 55 #[v,w] V fun r V'=>RQ V' r ((x+y)*((2:Int):Rat)⁻¹):=by
 have h0:=h
 have h0':=h'
 obtain ⟨_,_,_,_,_,_,rfl⟩:=h.shape
 obtain ⟨_,_,_,_,_,_,rfl⟩:=h'.shape
 refine Ga _ _ _ _ _ _ _ _ _ _ _ _ _ _ V _ fun V1 l1=>(dz (h0.le l1) (h0'.le l1) sx sy (by omega)).mono ?_
 rintro r V2 l2 g
 have g0:=g
 obtain ⟨_,_,_,_,_,_,rfl⟩:=g.shape
 refine ⟨_,_,_,_,_,_,_,rfl,fun V3 l3=>(nZ (g0.le l3) (sx.add sy) (by omega)).mono ?_⟩
 rintro r V4 l4 q
 have q0:=q
 obtain ⟨_,_,_,_,_,_,rfl⟩:=q.shape
 exact ⟨_,_,_,_,_,_,_,rfl,fun V5 l5=>q0.le l5⟩
theorem Hh {s:Sp}{k:Nat}(ss:s.sz k):Sz (2*k+10) s.cD:=by
 have z:Sz (2*k+10) (0:Rat):=⟨by show (0:Int).natAbs<_;exact Nat.lt_of_lt_of_le (by decide) (Nat.one_le_two_pow),Nat.one_lt_two_pow (by omega)⟩
 unfold Sp.cD
 split
 ·split
  ·exact z
  ·exact (ss.2.sub fT).mono (by omega)
 ·split
  ·exact (ss.1.add fT).mono (by omega)
  ·exact ((ss.1.add ss.2).mul (cY ue)).mono (by omega)
theorem uO {V:View}{v:Value}{s:Sp}(h:EC V v s){k:Nat}(ss:s.sz k)(hk:4*k+4<274877906944) :
  ab prog 120 #[v] V fun r V'=>RQ V' r s.cD:=by
 obtain ⟨b,p,n,c,p',n',c',d,q,m,e,q',m',e',rfl,h1,h2⟩:=h
 have a1:s.a=true->s.b=true->s.cD=0:=fun x y=>by simp [Sp.cD,x,y]
 have a2:s.a=true->s.b=false->s.cD=s.hi-((1:Int):Rat):=fun x y=>by simp [Sp.cD,x,y]
 have a3:s.a=false->s.b=true->s.cD=s.lo+((1:Int):Rat):=fun x y=>by simp [Sp.cD,x,y]
 have a4:s.a=false->s.b=false->s.cD=(s.lo+s.hi)*((2:Int):Rat)⁻¹:=fun x y=>by simp [Sp.cD,x,y]
 have no:∀{P:Prop},s.a=true->s.a=false->P:=fun x y=>by rw [x] at y;cases y
 refine tI b p n c p' n' c' d q m e q' m' e' s.a s.b V _ ⟨fun ha=>⟨fun hb V1 l1=>?_,fun hb=>⟨fun _ V2 l2=>(fN 1 (by decide) (by decide)).mono ?_,fun e=>no ha e⟩⟩,fun ha=>⟨fun e=>no e ha,fun _=>⟨fun hb V7 l7=>(fN 1 (by decide) (by decide)).mono ?_,fun hb mQ bV=>(HF (h1.le bV) (h2.le bV) ss.1 ss.2 hk).mono ?_⟩⟩⟩
 ·rw [a1 ha hb]
  have:=RQ.zero (V:=V1)
  simpa using this
 ·rw [a2 ha hb]
  rintro r V3 l3 g
  have g0:=g
  obtain ⟨_,_,_,_,_,_,rfl⟩:=g.shape
  refine ⟨_,_,_,_,_,_,_,rfl,fun V4 l4=>(gE (h2.le (l2.trans (l3.trans l4))) (g0.le l4) ss.2 fT (by omega)).mono ?_⟩
  rintro r V5 l5 q
  have q0:=q
  obtain ⟨_,_,_,_,_,_,rfl⟩:=q.shape
  exact ⟨_,_,_,_,_,_,_,rfl,fun V6 l6=>q0.le l6⟩
 ·rw [a3 ha hb]
  rintro r V3 l3 g
  have g0:=g
  obtain ⟨_,_,_,_,_,_,rfl⟩:=g.shape
  refine ⟨_,_,_,_,_,_,_,rfl,fun V4 l4=>(dz (h1.le (l7.trans (l3.trans l4))) (g0.le l4) ss.1 fT (by omega)).mono ?_⟩
  rintro r V5 l5 q
  have q0:=q
  obtain ⟨_,_,_,_,_,_,rfl⟩:=q.shape
  exact ⟨_,_,_,_,_,_,_,rfl,fun V6 l6=>q0.le l6⟩
 ·rw [a4 ha hb]
  rintro r V5 l5 q
  have q0:=q
  obtain ⟨_,_,_,_,_,_,rfl⟩:=q.shape
  exact ⟨_,_,_,_,_,_,_,rfl,fun V6 l6=>q0.le l6⟩
theorem xD {V:View}{v w:Value}{x y x' y':Rat}(h:RP V v x y)(h':RP V w x' y'){k:Nat}(s1:Sz k x)(s2:Sz k y)(s3:Sz k x')(s4:Sz k y')(hk:4*k+4<274877906944) :
  ab prog 90 #[v,w] V fun r V'=>RQ V' r (x*y'-y*x'):=by
 obtain ⟨_,_,_,_,_,_,_,_,_,_,_,_,rfl,h1,h2⟩:=h
 obtain ⟨_,_,_,_,_,_,_,_,_,_,_,_,rfl,h3,h4⟩:=h'
 refine wR _ _ _ _ _ _ _ _ _ _ _ _ _ _ _ _ _ _ _ _ _ _ _ _ _ _ _ _ V _ fun V1 l1=>(aM (h1.le l1) (h4.le l1) s1 s4 (by omega)).mono ?_
 rintro r V2 l2 g
 have g0:=g
 obtain ⟨_,_,_,_,_,_,rfl⟩:=g.shape
 refine ⟨_,_,_,_,_,_,_,rfl,fun V3 l3=>(aM (h2.le (l1.trans (l2.trans l3))) (h3.le (l1.trans (l2.trans l3))) s2 s3 (by omega)).mono ?_⟩
 rintro r V4 l4 g'
 have g0':=g'
 obtain ⟨_,_,_,_,_,_,rfl⟩:=g'.shape
 refine ⟨_,_,_,_,_,_,_,rfl,fun V5 l5=>(gE (g0.le (l3.trans (l4.trans l5))) (g0'.le l5) (s1.mul s4) (s2.mul s3) (by omega)).mono ?_⟩
 rintro r V6 l6 q
 have q0:=q
 obtain ⟨_,_,_,_,_,_,rfl⟩:=q.shape
 exact ⟨_,_,_,_,_,_,_,rfl,fun V7 l7=>q0.le l7⟩
theorem Pv.raw {V:View}{v:Value}{l:L3}{s:Sp}(h:Pv V v l s)(ho:Ys l s){k:Nat}(sl:jX k l)(ss:s.sz k)(hk:k<=1000000):∃f:FW,Sx V v f/\f.ok=true/\f.ln=l/\f.sp=s/\f.short:=by
 obtain ⟨b1,p1,n1,c1,b2,p2,n2,c2,b3,p3,n3,c3,b,p,n,c,p',n',c',d,q,m,e,q',m',e',rfl,h1,h2⟩:=h
 obtain ⟨_,_,_,_,_,_,_,_,_,el,x1,x2,x3⟩:=h1
 have el:=congrArg Array.toList (Value.agg.inj el)
 simp only [List.cons.injEq,Value.bool.injEq,Value.slice.injEq,and_true] at el
 obtain ⟨rfl,⟨rfl,rfl,rfl⟩,rfl,⟨rfl,rfl,rfl⟩,rfl,rfl,rfl,rfl⟩:=el
 obtain ⟨_,_,_,_,_,_,_,_,_,_,_,_,_,_,es,y1,y2⟩:=h2
 have es:=congrArg Array.toList (Value.agg.inj es)
 simp only [List.cons.injEq,Value.bool.injEq,Value.slice.injEq,and_true] at es
 obtain ⟨rfl,⟨rfl,rfl,rfl⟩,⟨rfl,rfl,rfl⟩,rfl,⟨rfl,rfl,rfl⟩,⟨rfl,rfl,rfl⟩⟩:=es
 obtain ⟨ok,can,emp⟩:=ho
 obtain ⟨w1,us,vs,r1,o1,e1,z1⟩:=y1.raw can.1
 obtain ⟨w2,ws,ts,r2,o2,e2,z2⟩:=y2.raw can.2
 have i1:=r1
 have i2:=r2
 obtain ⟨_,_,_,_,_,_,f1,-,-⟩:=i1
 obtain ⟨_,_,_,_,_,_,f2,-,-⟩:=i2
 have f1:=congrArg Array.toList (Value.agg.inj f1)
 have f2:=congrArg Array.toList (Value.agg.inj f2)
 simp only [List.cons.injEq,Value.bool.injEq,Value.slice.injEq,and_true] at f1 f2
 obtain ⟨rfl,-⟩:=f1
 obtain ⟨rfl,-⟩:=f2
 have len:∀{z:Int},Sz k (z:Rat)->(ag z.natAbs).length<=1000000:=fun h=>Nat.le_trans (af h.1) hk
 have d1:=z1 k ss.1
 have d2:=z2 k ss.2
 refine ⟨⟨decide (l.1<0),ag l.1.natAbs,decide (l.2.1<0),ag l.2.1.natAbs,decide (l.2.2<0),ag l.2.2.natAbs,b,us,vs,d,ws,ts,s.a,s.b⟩,⟨_,_,_,_,_,_,_,_,_,_,_,_,_,_,_,_,_,_,_,_,_,rfl,⟨_,_,_,_,_,_,_,_,_,rfl,x1,x2,x3⟩,⟨_,_,_,_,_,_,_,_,_,_,_,_,rfl,r1,r2⟩⟩,?_,?_,?_,⟨len sl.1,len sl.2.1,len sl.2.2,Nat.le_trans d1.1 hk,Nat.le_trans d1.2 hk,Nat.le_trans d2.1 hk,Nat.le_trans d2.2 hk⟩⟩
 ·have e3:R8 b us vs d ws ts s.a s.b=s:=by unfold R8;rw [e1,e2]
  unfold FW.ok okW
  dsimp only
  rw [pP,o1,o2,e3,emp]
  show dO l&&true=true
  rw [ok];rfl
 ·unfold FW.ln Dc
  dsimp only
  rw [az,az,az]
 ·unfold FW.sp R8
  dsimp only
  rw [e1,e2]
theorem A6 {c:List Rat}{i:Nat}(h:i<c.length):c.getD i 0=c[i]:=by rw [List.getD_eq_getElem?_getD,List.getElem?_eq_getElem h];rfl
def iu (cuts:List Rat)(i:Nat):Sp:=⟨if 0<i then cuts.getD (i-1) 0 else 0,if i<cuts.length then cuts.getD i 0 else 0,decide (i=0),decide (i=cuts.length)⟩
def JW (out:List Sp)(s:Sp):List Sp:=out.dropLast++[⟨(out.getLastD Sp.zero).lo,s.hi,(out.getLastD Sp.zero).a,s.b⟩]
def fQ (cuts:List Rat)(marks:List Bool):Nat->List Sp
 | 0=>[]
 | i+1=>if marks.getD i false=true then (if 0<i/\marks.getD (i-1) false=true/\0<(fQ cuts marks i).length then JW (fQ cuts marks i) (iu cuts i) else fQ cuts marks i++[iu cuts i]) else fQ cuts marks i
end Go.Proofs.Tryz
namespace Go.Proofs.Tryz
open Go.bE Go.dP
set_option linter.unusedSectionVars false
def rM (c:List Rat):Prop:=c.Pairwise (·< ·)
section
variable {c:List Rat} (h:rM c)
include h
theorem Au {i j:Nat}(L1:i<j)(hj:j<c.length):c.getD i 0<c.getD j 0:=by
 rw [A6 (by omega),A6 hj]
 exact List.pairwise_iff_getElem.1 h i j (by omega) hj L1
omit h
include h
theorem JB {i:Nat}(hi:i<=c.length):(iu c i).jk:=by
 refine ⟨⟨fun e=>?_,fun e=>?_⟩,Sp.kS.2 ?_⟩
 ·have e:i=0:=of_decide_eq_true e
  subst e;rfl
 ·have e:i=c.length:=of_decide_eq_true e
  subst e
  exact if_neg (Nat.lt_irrefl _)
 ·by_cases h0:i=0
  ·exact .inl (decide_eq_true h0)
  ·by_cases h1:i=c.length
   ·exact .inr (.inl (decide_eq_true h1))
   ·refine .inr (.inr ?_)
    show (if 0<i then c.getD (i-1) 0 else 0)<(if i<c.length then c.getD i 0 else 0)
    rw [if_pos (by omega),if_pos (by omega)]
    exact Au h (by omega) (by omega)
omit h
end
section
variable {c:List Rat} {ms:List Bool}
structure FI (c:List Rat) (ms:List Bool) (i:Nat):Prop where
 r:IV (fQ c ms i)
 mem:∀t,t∉c->(H_ (fQ c ms i) t↔∃j,j<i/\ms.getD j false=true/\(iu c j).oh t)
 top:0<i->i<=c.length->∀s∈fQ c ms i,s.b=false/\s.hi<=c.getD (i-1) 0
 str:0<i->i<=c.length->ms.getD (i-1) false=false->∀s∈fQ c ms i,s.hi<c.getD (i-1) 0
 last:0<i->i<=c.length->ms.getD (i-1) false=true->∃l0 l,fQ c ms i=l0++[l]/\l.hi=c.getD (i-1) 0
theorem qZ {ss:List Sp}{s:Sp}{t:Rat}:H_ (ss++[s]) t↔H_ ss t\/s.oh t:=by
 unfold H_
 constructor
 ·rintro ⟨x,hx,hi⟩
  rcases List.mem_append.1 hx with hx|hx
  ·exact .inl ⟨x,hx,hi⟩
  ·obtain rfl:x=s:=by simpa using hx
   exact .inr hi
 ·rintro (⟨x,hx,hi⟩|hi)
  ·exact ⟨x,by simp [hx],hi⟩
  ·exact ⟨s,by simp,hi⟩
theorem DD {ss:List Sp}{s:Sp}(h:IV ss)(hs:s.jk)(hb:∀x∈ss,x.Pz s):IV (ss++[s]):=by
 refine ⟨fun x hx=>?_,List.pairwise_append.2 ⟨h.2,by simp,fun x hx y hy=>?_⟩⟩
 ·rcases List.mem_append.1 hx with hx|hx
  ·exact h.1 x hx
  ·obtain rfl:x=s:=by simpa using hx
   exact hs
 ·obtain rfl:y=s:=by simpa using hy
  exact hb x hx
theorem KD {ss:List Sp}{s:Sp}(h:IV (ss++[s])):IV ss/\s.jk/\∀x∈ss,x.Pz s:=by
 obtain ⟨h1,-,h3⟩:=List.pairwise_append.1 h.2
 exact ⟨⟨fun x hx=>h.1 x (by simp [hx]),h1⟩,h.1 s (by simp),fun x hx=>h3 x hx s (by simp)⟩
theorem AY {P:Nat->Prop}{i:Nat}:(∃j,j<i+1/\P j)↔(∃j,j<i/\P j)\/P i:=by
 constructor
 ·rintro ⟨j,hj,hp⟩
  rcases Nat.lt_or_ge j i with h|h
  ·exact .inl ⟨j,h,hp⟩
  ·obtain rfl:j=i:=by omega
   exact .inr hp
 ·rintro (⟨j,hj,hp⟩|hp)
  ·exact ⟨j,by omega,hp⟩
  ·exact ⟨i,by omega,hp⟩
theorem LQ (h:rM c){i:Nat}(hi:i<=c.length)(F:FI c ms i):FI c ms (i+1):=by
 have hg:=JB h hi
 have Lj:i<c.length->(iu c i).hi=c.getD i 0:=fun h0=>if_pos h0
 have Lk:0<i->(iu c i).lo=c.getD (i-1) 0:=fun h0=>if_pos h0
 have ga:0<i->(iu c i).a=false:=fun h0=>decide_eq_false (by omega)
 have gb:i<c.length->(iu c i).b=false:=fun h0=>decide_eq_false (by omega)
 by_cases hm:ms.getD i false=true
 ·have hne:¬ms.getD i false=false:=by rw [hm];decide
  by_cases h0:0<i/\ms.getD (i-1) false=true
  ·obtain ⟨l0,l,el,hl⟩:=F.last h0.1 hi h0.2
   have e:fQ c ms (i+1)=l0++[⟨l.lo,(iu c i).hi,l.a,(iu c i).b⟩]:=by
    rw [fQ,if_pos hm,if_pos ⟨h0.1,h0.2,by rw [el];simp⟩,el]
    simp [JW]
   have F1:=F.r
   rw [el] at F1
   obtain ⟨f1,f2,f3⟩:=KD F1
   have hlb:l.b=false:=(F.top h0.1 hi l (by rw [el];simp)).1
   have hgood:(⟨l.lo,(iu c i).hi,l.a,(iu c i).b⟩:Sp).jk:=by
    refine ⟨⟨f2.1.1,hg.1.2⟩,Sp.kS.2 ?_⟩
    dsimp only
    cases ha:l.a with
    | true=>exact .inl rfl
    | false=>
     cases hb:(iu c i).b with
     | true=>exact .inr (.inl rfl)
     | false=>
      have h1:=Dd f2.2 ha hlb
      have h2:=Dd hg.2 (ga h0.1) hb
      rw [Lk h0.1] at h2
      exact .inr (.inr (by grind))
   refine ⟨?_,fun t ht=>?_,fun _ hi1 s hs=>?_,fun _ hi1 hx=>?_,fun _ hi1 _=>?_⟩
   ·rw [e]
    exact DD f1 hgood fun x hx=>⟨(f3 x hx).1,(f3 x hx).2.1,(f3 x hx).2.2⟩
   ·rw [e,AY,←F.mem t ht,qZ,el,qZ,or_assoc]
    refine or_congr Iff.rfl ?_
    have hk:(iu c i).oh t↔c.getD (i-1) 0<t/\((iu c i).b=true\/t<(iu c i).hi):=by
     unfold Sp.oh;rw [ga h0.1,Lk h0.1];simp
    have hne':t≠c.getD (i-1) 0:=by
     rintro rfl
     rw [A6 (by omega)] at ht
     exact ht (List.getElem_mem _)
    rw [hk]
    show (l.a=true\/l.lo<t)/\((iu c i).b=true\/t<(iu c i).hi)↔((l.a=true\/l.lo<t)/\(l.b=true\/t<l.hi))\/_
    rw [hl,hlb]
    have h1:l.a=true\/l.lo<c.getD (i-1) 0:=by
     cases ha:l.a with
     | true=>exact .inl rfl
     | false=>have:=Dd f2.2 ha hlb;rw [hl] at this;exact .inr this
    have h2:(iu c i).b=true\/c.getD (i-1) 0<(iu c i).hi:=by
     cases hb:(iu c i).b with
     | true=>exact .inl rfl
     | false=>have:=Dd hg.2 (ga h0.1) hb;rw [Lk h0.1] at this;exact .inr this
    constructor
    ·rintro ⟨g1,g2⟩
     by_cases g:t<c.getD (i-1) 0
     ·exact .inl ⟨g1,.inr g⟩
     ·exact .inr ⟨hm,by grind,g2⟩
    ·rintro (⟨g1,g2⟩|⟨-,g1,g2⟩)
     ·have g3:t<c.getD (i-1) 0:=by
       rcases g2 with g2|g2
       ·cases g2
       ·exact g2
      exact ⟨g1,h2.imp_right fun h2=>by grind⟩
     ·exact ⟨h1.imp_right fun h1=>by grind,g2⟩
   ·rw [e] at hs
    rw [Nat.add_sub_cancel]
    rcases List.mem_append.1 hs with hs|hs
    ·have b:=f3 s hs
     refine ⟨b.1,?_⟩
     have h1:l.lo<c.getD (i-1) 0:=by have:=Dd f2.2 b.2.1 hlb;rwa [hl] at this
     have h2:=Au h (show i-1<i by omega) hi1
     have:=b.2.2
     grind
    ·obtain rfl:s=_:=by simpa using hs
     refine ⟨gb hi1,?_⟩
     show (iu c i).hi<=_
     rw [Lj hi1];grind
   ·rw [Nat.add_sub_cancel] at hx;exact absurd hx hne
   ·rw [Nat.add_sub_cancel]
    exact ⟨l0,_,e,Lj hi1⟩
  ·have e:fQ c ms (i+1)=fQ c ms i++[iu c i]:=by
    rw [fQ,if_pos hm,if_neg (fun g=>h0 ⟨g.1,g.2.1⟩)]
   have hb:∀x∈fQ c ms i,x.Pz (iu c i):=fun x hx=>by
    by_cases hz:0<i
    ·have ZM:ms.getD (i-1) false=false:=by
      cases hq:ms.getD (i-1) false with
      | false=>rfl
      | true=>exact absurd ⟨hz,hq⟩ h0
     exact ⟨(F.top hz hi x hx).1,ga hz,by rw [Lk hz];exact F.str hz hi ZM x hx⟩
    ·obtain rfl:i=0:=by omega
     cases hx
   refine ⟨?_,fun t ht=>?_,fun _ hi1 s hs=>?_,fun _ hi1 hx=>?_,fun _ hi1 _=>?_⟩
   ·rw [e];exact DD F.r hg hb
   ·rw [e,AY,←F.mem t ht,qZ]
    exact or_congr Iff.rfl ⟨fun g=>⟨hm,g⟩,fun g=>g.2⟩
   ·rw [e] at hs
    rw [Nat.add_sub_cancel]
    rcases List.mem_append.1 hs with hs|hs
    ·refine ⟨(hb s hs).1,?_⟩
     by_cases hz:0<i
     ·have h1:=(F.top hz hi s hs).2
      have h2:=Au h (show i-1<i by omega) hi1
      grind
     ·obtain rfl:i=0:=by omega
      cases hs
    ·obtain rfl:s=_:=by simpa using hs
     refine ⟨gb hi1,?_⟩
     rw [Lj hi1];grind
   ·rw [Nat.add_sub_cancel] at hx;exact absurd hx hne
   ·rw [Nat.add_sub_cancel]
    exact ⟨_,_,e,Lj hi1⟩
 ·have e:fQ c ms (i+1)=fQ c ms i:=by rw [fQ,if_neg hm]
  have hlt:i<c.length->∀s∈fQ c ms i,s.b=false/\s.hi<c.getD i 0:=fun hi1 s hs=>by
   by_cases hz:0<i
   ·obtain ⟨h1,h2⟩:=F.top hz hi s hs
    have h3:=Au h (show i-1<i by omega) hi1
    exact ⟨h1,by grind⟩
   ·obtain rfl:i=0:=by omega
    cases hs
  refine ⟨by rw [e];exact F.r,fun t ht=>?_,fun _ hi1 s hs=>?_,fun _ hi1 hx s hs=>?_,fun _ hi1 hx=>?_⟩
  ·rw [e,AY,F.mem t ht]
   exact ⟨.inl,fun g=>g.elim id fun g=>absurd g.1 hm⟩
  ·rw [e] at hs
   rw [Nat.add_sub_cancel]
   obtain ⟨h1,h2⟩:=hlt hi1 s hs
   exact ⟨h1,by grind⟩
  ·rw [e] at hs
   rw [Nat.add_sub_cancel]
   exact (hlt hi1 s hs).2
  ·rw [Nat.add_sub_cancel] at hx;exact absurd hx hm
theorem fi (h:rM c):∀{i:Nat},i<=c.length+1->FI c ms i:=by
 intro i
 induction i with
 | zero=>exact fun _=>⟨⟨(fun _ h=>by cases h),List.Pairwise.nil⟩,(fun t _=>⟨(fun ⟨_,h,_⟩=>by cases h),(fun ⟨_,h,_⟩=>absurd h (Nat.not_lt_zero _))⟩),(fun h=>absurd h (Nat.lt_irrefl _)),(fun h=>absurd h (Nat.lt_irrefl _)),(fun h=>absurd h (Nat.lt_irrefl _))⟩
 | succ i ih=>exact fun hi=>LQ h (by omega) (ih (by omega))
end
end Go.Proofs.Tryz
namespace Go.Proofs.Tryz
open Go.bE Go.dP
theorem Di {s u:Sp}{t:Rat}:(s.meet u).oh t↔s.oh t/\u.oh t:=by
 have h1:Dg s.lo u.lo<t↔s.lo<t/\u.lo<t:=by
  unfold Dg
  rcases mY u.lo s.lo with ⟨h,e⟩|⟨h,e⟩|⟨h,e⟩<;>rw [e]<;>simp<;>grind
 have h2:t<Dj s.hi u.hi↔t<s.hi/\t<u.hi:=by
  unfold Dj
  rcases mY u.hi s.hi with ⟨h,e⟩|⟨h,e⟩|⟨h,e⟩<;>rw [e]<;>simp<;>grind
 unfold Sp.oh Sp.meet
 cases s.a<;>cases s.b<;>cases u.a<;>cases u.b<;>simp [h1,h2]<;>grind
theorem nW {l:L3}(h:Nz l)(t:Rat):ar l (ij l t) (il l t)=0/\Bq l (ij l t) (il l t)=t:=by
 have hn:=h.norm
 have hi:=Rat.mul_inv_cancel _ hn
 unfold ar Bq ij il
 unfold fx at *
 constructor<;>grind
theorem Pj {l m:L3}(h:aU l m≠0):ar l (GW l m) (GX l m)=0/\ar m (GW l m) (GX l m)=0:=by
 have hi:=Rat.mul_inv_cancel _ h
 unfold ar GW GX
 constructor
 ·have e:(l.1:Rat)*(((l.2.1:Rat)*(m.2.2:Rat)-(l.2.2:Rat)*(m.2.1:Rat))*(aU l m)⁻¹)+(l.2.1:Rat)*(((l.2.2:Rat)*(m.1:Rat)-(l.1:Rat)*(m.2.2:Rat))*(aU l m)⁻¹)+(l.2.2:Rat)=(l.2.2:Rat)*(1-aU l m*(aU l m)⁻¹):=by
   generalize hc:(aU l m)⁻¹=c
   unfold aU
   grind
  rw [e,hi];grind
 ·have e:(m.1:Rat)*(((l.2.1:Rat)*(m.2.2:Rat)-(l.2.2:Rat)*(m.2.1:Rat))*(aU l m)⁻¹)+(m.2.1:Rat)*(((l.2.2:Rat)*(m.1:Rat)-(l.1:Rat)*(m.2.2:Rat))*(aU l m)⁻¹)+(m.2.2:Rat)=(m.2.2:Rat)*(1-aU l m*(aU l m)⁻¹):=by
   generalize hc:(aU l m)⁻¹=c
   unfold aU
   grind
  rw [e,hi];grind
theorem Gx (l:L3):lK (lK l)=lK l:=by
 unfold lK
 by_cases h:l.1<0\/l.1=0/\l.2.1<0
 ·rw [if_pos h,if_neg]
  unfold ll
  dsimp only
  omega
 ·rw [if_neg h,if_neg h]
theorem Kg {l:L3}(h:dO l=true):dO (lK l)=true:=by
 unfold lK
 split
 ·unfold dO ll gW at *
  simp only [Int.natAbs_neg]
  rw [Bool.and_eq_true,decide_eq_true_iff,decide_eq_true_iff] at h ⊢
  exact ⟨fun e=>h.1 ⟨by omega,by omega⟩,h.2⟩
 ·exact h
theorem mo {l:L3}(h:dO l=true):¬(l.1=0/\l.2.1=0):=by
 unfold dO at h
 rw [Bool.and_eq_true,decide_eq_true_iff] at h
 exact h.1
theorem pr {s:Sp}:s.emp=false↔∃t,s.oh t:=by
 constructor
 ·intro h
  obtain ⟨h1,h2⟩:=Sp.Ha h
  refine ⟨s.cD,?_,?_⟩
  ·cases ha:s.a
   ·exact .inr (h1 ha)
   ·exact .inl rfl
  ·cases hb:s.b
   ·exact .inr (h2 hb)
   ·exact .inl rfl
 ·rintro ⟨t,h1,h2⟩
  rw [Sp.kS]
  rcases h1 with h1|h1
  ·exact .inl h1
  ·rcases h2 with h2|h2
   ·exact .inr (.inl h2)
   ·exact .inr (.inr (by grind))
theorem js {l:L3}{s:Sp}{m:L3} :
  (dN l s m=true->∀t,(dq l s m).oh t↔s.oh t/\0<ar m (ij l t) (il l t))/\(s.emp=false->dN l s m=false->∀t,s.oh t->¬0<ar m (ij l t) (il l t)):=by
 have key:dW m l≠0->∀t,(dq l s m).oh t↔s.oh t/\0<j_ m l+dW m l*t:=fun hd t=>by
  have hi:=Rat.mul_inv_cancel _ hd
  unfold dq
  rcases lu (dW m l) with ⟨h,e⟩|⟨h,e⟩|⟨h,e⟩
  ·exact absurd h hd
  ·rw [e]
   show (s.meet ⟨dV m l,0,false,true⟩).oh t↔_
   rw [Di]
   have e2:dW m l*(t-dV m l)=j_ m l+dW m l*t:=by unfold dV;grind
   have:(⟨dV m l,0,false,true⟩:Sp).oh t↔dV m l<t:=by unfold Sp.oh;simp
   rw [this,←e2]
   refine and_congr_right fun _=>⟨fun h'=>Rat.mul_pos h (by grind),fun h'=>?_⟩
   by_cases c:dV m l<t
   ·exact c
   ·have:=Rat.mul_nonneg (show 0<=dW m l by grind) (show 0<=dV m l-t by grind)
    grind
  ·rw [e]
   show (s.meet ⟨0,dV m l,true,false⟩).oh t↔_
   rw [Di]
   have e2:-dW m l*(dV m l-t)=j_ m l+dW m l*t:=by unfold dV;grind
   have:(⟨0,dV m l,true,false⟩:Sp).oh t↔t<dV m l:=by unfold Sp.oh;simp
   rw [this,←e2]
   refine and_congr_right fun _=>⟨fun h'=>Rat.mul_pos (by grind) (by grind),fun h'=>?_⟩
   by_cases c:t<dV m l
   ·exact c
   ·have:=Rat.mul_nonneg (show 0<=-dW m l by grind) (show 0<=t-dV m l by grind)
    grind
 by_cases hd:dW m l=0
 ·have ec:dq l s m=s:=by unfold dq;rw [hd];rfl
  have eb:dN l s m=decide ((j_ m l).num.sign>0):=by unfold dN;rw [hd];rfl
  constructor
  ·intro hb t
   rw [ec,wo,hd]
   rw [eb] at hb
   have hb:(j_ m l).num.sign>0:=by simpa using hb
   have:0<j_ m l:=by
    rcases lu (j_ m l) with ⟨h,e⟩|⟨h,e⟩|⟨h,e⟩
    ·omega
    ·exact h
    ·omega
   exact ⟨fun h=>⟨h,by grind⟩,fun h=>h.1⟩
  ·intro _ hb t _ hp
   rw [wo,hd] at hp
   rw [eb] at hb
   have hb:¬(j_ m l).num.sign>0:=by simpa using hb
   rcases lu (j_ m l) with ⟨h,e⟩|⟨h,e⟩|⟨h,e⟩
   ·grind
   ·omega
   ·grind
 ·have eb:dN l s m=!(dq l s m).emp:=by
   unfold dN
   rcases lu (dW m l) with ⟨h,e⟩|⟨h,e⟩|⟨h,e⟩
   ·exact absurd h hd
   ·rw [e];rfl
   ·rw [e];rfl
  constructor
  ·intro _ t
   rw [wo];exact key hd t
  ·intro _ hb t ht hp
   rw [wo] at hp
   rw [eb] at hb
   have:=pr.2 ⟨t,(key hd t).2 ⟨ht,hp⟩⟩
   rw [this] at hb;cases hb
theorem kh {l:L3}{s:Sp}{m:L3}(hs:s.jk)(hb:dN l s m=true):(dq l s m).jk:=⟨Jp hs.1,Jo hs.2 hb⟩
abbrev Sd:=L3×Sp
def dj:List Sd->L3->Sp->Option Sp
 | [],_,v=>some v
 | s::c,l,v=>if dN l v s.1 then dj c l (dq l v s.1) else none
theorem Ab:∀{c:List Sd} {l:L3} {v w:Sp},v.jk->dj c l v=some w->w.jk/\∀t,w.oh t↔v.oh t/\∀s∈c,0<ar s.1 (ij l t) (il l t)
 | [],_,v,w,h,e=>by cases e;exact ⟨h,fun t=>⟨fun g=>⟨g,fun s hs=>by cases hs⟩,fun g=>g.1⟩⟩
 | s::c,l,v,w,h,e=>by
  unfold dj at e
  split at e
  ·rename_i hb
   obtain ⟨g1,g2⟩:=Ab (kh h hb) e
   refine ⟨g1,fun t=>?_⟩
   rw [g2,(js.1 hb t)]
   simp only [List.forall_mem_cons,and_assoc]
  ·cases e
theorem Aa:∀{c:List Sd} {l:L3} {v:Sp},v.jk->dj c l v=none->∀t,v.oh t->¬∀s∈c,0<ar s.1 (ij l t) (il l t)
 | [],_,v,h,e=>by cases e
 | s::c,l,v,h,e=>by
  intro t ht hall
  unfold dj at e
  split at e
  ·rename_i hb
   exact Aa (kh h hb) e t ((js.1 hb t).2 ⟨ht,hall s (List.mem_cons_self ..)⟩) fun u hu=>hall u (List.mem_cons_of_mem _ hu)
  ·rename_i hb
   exact js.2 h.2 (by simpa using hb) t ht (hall s (List.mem_cons_self ..))
theorem uQ (l:L3):lK l=l\/lK l=ll l:=by unfold lK;split;exact .inr rfl;exact .inl rfl
theorem rev_rev (l:L3):ll (ll l)=l:=by unfold ll;simp
theorem GD (l:L3):aq.ax (ll l)=(-(aq.ax l).1,-(aq.ax l).2):=by unfold aq.ax ll;simp only [Rat.intCast_neg]
theorem Bk {l:L3}(h:dO l=true):(aq.ax l).1≠0\/(aq.ax l).2≠0:=by
 have:=mo h
 unfold aq.ax
 by_cases e:l.2.1=0
 ·right;intro e'
  have:(l.1:Rat)=0:=by grind
  exact mo h ⟨by exact_mod_cast this,e⟩
 ·left;show (l.2.1:Rat)≠0;exact_mod_cast e
theorem NI {l m:L3}(ol:dO l=true)(om:dO m=true){p:aq.V2}(h1:ar l p.1 p.2=0)(h2:ar m p.1 p.2=0)(hc:aq.cr (aq.ax l) (aq.ax m)=0):l=m\/l=ll m:=by
 have vz:∀{x:L3},ar x p.1 p.2=0->ar (lK x) p.1 p.2=0:=fun {x} h=>by
  rcases uQ x with e|e<;>rw [e]
  ·exact h
  ·rw [val_rev];grind
 have c0:aq.cr (aq.ax (lK l)) (aq.ax (lK m))=0:=by
  unfold aq.cr at *
  rcases uQ l with e|e<;>rcases uQ m with e'|e'<;>rw [e,e']<;>(try rw [GD l])<;>(try rw [GD m])<;>(try dsimp only)<;>grind
 have:=aq.It (Kg ol) (Kg om) (Gx l) (Gx m) (vz h1) (vz h2) c0
 rcases uQ l with e|e<;>rcases uQ m with e'|e'<;>rw [e,e'] at this
 ·exact .inl this
 ·exact .inr this
 ·right;rw [←this,rev_rev]
 ·left;have:=congrArg ll this;rwa [rev_rev,rev_rev] at this
theorem E2 {M:List L3}(hk:∀m∈M,dO m=true){q:aq.V2}(hq:aq.pos M q):aq.Tb M:=by
 intro l hl m hm hne p h1 h2 hc
 rcases NI (hk l hl) (hk m hm) h1 h2 hc with e|e
 ·exact hne e
 ·have a:=hq l hl
  have b:=hq m hm
  rw [e,val_rev] at a
  grind
theorem tZ {l:L3}(h:Nz l){x y:Rat}(hp:ar l x y=0):∃t,x=ij l t/\y=il l t:=by
 have hi:=Rat.mul_inv_cancel _ h.norm
 unfold ar at hp
 refine ⟨Bq l x y,?_,?_⟩
 ·unfold ij Bq fx at *;grind
 ·unfold il Bq fx at *;grind
def bD:Sp:=⟨0,0,true,true⟩
theorem ki:bD.jk:=⟨⟨fun _=>rfl,fun _=>rfl⟩,rfl⟩
theorem vk (t:Rat):bD.oh t:=⟨.inl rfl,.inl rfl⟩
structure ji (M:List L3) (c:List Sd):Prop where
 pos:∃q,aq.pos M q
 mem:∀s∈c,s.1∈M/\s.2.jk/\∀t,s.2.oh t↔∀m∈M,m≠s.1->0<ar m (ij s.1 t) (il s.1 t)
 all:∀l∈M,aq.Es M l->∃v,(l,v)∈c
 rM:c.Pairwise fun s u=>aq.dp (aq.ax s.1) (aq.ax u.1)<0
def mg (x:Sd):List Sd->List Sd
 | []=>[x]
 | s::r=>if aq.dp (aq.ax s.1) (aq.ax x.1)<0 then s::mg x r else x::s::r
def lL (c:List Sd)(l:L3):List Sd:=c.filterMap fun s=>if dN s.1 s.2 l then some (s.1,dq s.1 s.2 l) else none
def eJ:List Sd->L3->Int
 | [],_=>-1
 | s::c,l=>if (ar l (ij s.1 s.2.cD) (il s.1 s.2.cD)).num.sign≠0 then (ar l (ij s.1 s.2.cD) (il s.1 s.2.cD)).num.sign else if s.1=l then 1 else eJ c l
def fZ (c:List Sd)(l:L3):Option (List Sd):=
 match dj c l bD with
 | some v=>some (mg (l,v) (lL c l))
 | none=>if 0<eJ c l then some c else none
theorem mh {x y:Sd}:∀{r:List Sd},y∈mg x r↔y=x\/y∈r
 | []=>by simp [mg]
 | s::r=>by
  unfold mg
  split
  ·rw [List.mem_cons,mh,List.mem_cons];exact or_left_comm
  ·rw [List.mem_cons]
theorem Ar {a b d:aq.V2}(h:aq.dp a b<0)(h':aq.dp b d<0):aq.dp a d<0:=by
 by_cases q:aq.dp a d<0
 ·exact q
 ·exact absurd h (aq.uu _ _ _ q (aq.tP _ _ h'))
theorem C0 {x:Sd}:∀{r:List Sd},(r.Pairwise fun s u=>aq.dp (aq.ax s.1) (aq.ax u.1)<0)->(∀s∈r,aq.dp (aq.ax s.1) (aq.ax x.1)≠0)->(mg x r).Pairwise fun s u=>aq.dp (aq.ax s.1) (aq.ax u.1)<0
 | [],_,_=>List.pairwise_singleton ..
 | s::r,h,hn=>by
  obtain ⟨h1,h2⟩:=List.pairwise_cons.1 h
  unfold mg
  split
  ·rename_i hs
   refine List.pairwise_cons.2 ⟨fun y hy=>?_,C0 h2 fun u hu=>hn u (List.mem_cons_of_mem _ hu)⟩
   rcases mh.1 hy with rfl|hy
   ·exact hs
   ·exact h1 y hy
  ·rename_i hs
   have hx:aq.dp (aq.ax x.1) (aq.ax s.1)<0:=by
    rcases aq.uq (aq.ax s.1) (aq.ax x.1) with g|g|g
    ·exact absurd g hs
    ·exact absurd g (hn s (List.mem_cons_self ..))
    ·exact g
   refine List.pairwise_cons.2 ⟨fun y hy=>?_,h⟩
   rcases List.mem_cons.1 hy with rfl|hy
   ·exact hx
   ·exact Ar hx (h1 y hy)
theorem CG {c:List Sd}{l:L3}{y:Sd}:y∈lL c l↔∃s∈c,dN s.1 s.2 l=true/\y=(s.1,dq s.1 s.2 l):=by
 unfold lL
 rw [List.mem_filterMap]
 constructor
 ·rintro ⟨s,hs,e⟩
  split at e
  ·rename_i hb;cases e;exact ⟨s,hs,hb,rfl⟩
  ·cases e
 ·rintro ⟨s,hs,hb,rfl⟩
  exact ⟨s,hs,by rw [if_pos hb]⟩
theorem CF {c:List Sd}{l:L3}(h:c.Pairwise fun s u=>aq.dp (aq.ax s.1) (aq.ax u.1)<0):(lL c l).Pairwise fun s u=>aq.dp (aq.ax s.1) (aq.ax u.1)<0:=by
 unfold lL
 refine List.Pairwise.filterMap _ ?_ h
 intro a b xR x hx y hy
 split at hx
 ·split at hy
  ·cases hx;cases hy;exact xR
  ·cases hy
 ·cases hx
theorem Dt {l s:L3}(hl:aq.nz (aq.ax s))(h:aq.dp (aq.ax s) (aq.ax l)=0){p r:aq.V2}(p0:ar l p.1 p.2=0)(p1:0<ar s p.1 p.2)(r0:ar s r.1 r.2=0)(r1:0<ar l r.1 r.2):False:=by
 obtain ⟨c,c0,e⟩:=aq.Cd hl h
 have e1:(s.2.1:Rat)=c*(l.2.1:Rat):=congrArg Prod.fst e
 have e2:-(s.1:Rat)=c*-(l.1:Rat):=congrArg Prod.snd e
 have e2:(s.1:Rat)=c*(l.1:Rat):=by grind
 have key:∀x:aq.V2,ar s x.1 x.2=c*(ar l x.1 x.2-(l.2.2:Rat))+(s.2.2:Rat):=fun x=>by unfold ar;rw [e1,e2];grind
 have k:=aq.mp c0 r1
 rw [key] at p1 r0
 rw [p0] at p1
 generalize ar l r.1 r.2=z at *
 grind
section
variable {M:List L3} {c:List Sd} (h:ji M c) (hk:∀m ∈ M,dO m=true)
include h hk
theorem ji.int {p:aq.V2}(hp:∀s∈c,0<ar s.1 p.1 p.2):aq.pos M p:=by
 obtain ⟨q,hq⟩:=h.pos
 refine aq.W5 (E2 hk hq) (fun m hm=>Bk (hk m hm)) hq fun m hm he=>?_
 obtain ⟨v,hv⟩:=h.all m hm he
 exact hp _ hv
theorem HJ {l:L3}(hl:dO l=true){v:Sp}(e:dj c l bD=some v):ji (l::M) (mg (l,v) (lL c l)):=by
 have hN:Nz l:=mo hl
 obtain ⟨gv,hv⟩:=Ab ki e
 have vx:∀t,v.oh t↔aq.pos M (ij l t,il l t):=fun t=>⟨fun g=>h.int hk ((hv t).1 g).2,fun g=>(hv t).2 ⟨vk t,fun s hs=>g s.1 (h.mem s hs).1⟩⟩
 obtain ⟨t0,ht0⟩:=pr.1 gv.2
 have p0:=(vx t0).1 ht0
 have z0:=(nW hN t0).1
 have lM:l∉M:=fun hm=>by have:=p0 l hm;dsimp only at this;grind
 have ne:∀m∈M,m≠l:=fun m hm e=>lM (e▸hm)
 obtain ⟨q,hq,ZP,-⟩:=aq.AX (M:=M) (x:=(ij l t0,il l t0)) (Bk hl) z0 (fun m hm _=>p0 m hm) [] (fun m hm=>by cases hm)
 have Re:∀s∈lL c l,s.1∈M/\s.2.jk/\∀t,s.2.oh t↔∀m∈l::M,m≠s.1->0<ar m (ij s.1 t) (il s.1 t):=fun s hs=>by
  obtain ⟨s0,h0,hb,rfl⟩:=CG.1 hs
  obtain ⟨m1,m2,m3⟩:=h.mem s0 h0
  refine ⟨m1,kh m2 hb,fun t=>?_⟩
  dsimp only
  rw [js.1 hb t,m3 t,List.forall_mem_cons]
  exact ⟨fun g=>⟨fun _=>g.2,g.1⟩,fun g=>⟨g.2,g.1 (fun e=>ne _ m1 e.symm)⟩⟩
 refine ⟨⟨q,List.forall_mem_cons.2 ⟨ZP,hq⟩⟩,fun s hs=>?_,fun l' hl' he=>?_,C0 (CF h.rM) fun s hs e0=>?_⟩
 ·rcases mh.1 hs with rfl|hs
  ·refine ⟨List.mem_cons_self ..,gv,fun t=>?_⟩
   rw [vx t,List.forall_mem_cons]
   exact ⟨fun g=>⟨fun h=>absurd rfl h,fun m hm _=>g m hm⟩,fun g m hm=>g.2 m hm (ne m hm)⟩
  ·obtain ⟨a,b⟩:=Re s hs
   exact ⟨List.mem_cons_of_mem _ a,b⟩
 ·rcases List.mem_cons.1 hl' with rfl|hl'
  ·exact ⟨v,mh.2 (.inl rfl)⟩
  ·obtain ⟨p,pz,hp⟩:=he
   obtain ⟨w,hw⟩:=h.all l' hl' ⟨p,pz,fun m hm hne=>hp m (List.mem_cons_of_mem _ hm) hne⟩
   obtain ⟨m1,m2,m3⟩:=h.mem _ hw
   obtain ⟨t,e1,e2⟩:=tZ (mo (hk l' hl')) pz
   have hb:dN l' w l=true:=by
    cases hb:dN l' w l
    ·exfalso
     refine js.2 m2.2 hb t ((m3 t).2 fun m hm hne=>?_) ?_
     ·dsimp only;rw [←e1,←e2];exact hp m (List.mem_cons_of_mem _ hm) hne
     ·rw [←e1,←e2];exact hp l (List.mem_cons_self ..) (fun e=>lM (e▸hl'))
    ·rfl
   exact ⟨dq l' w l,mh.2 (.inr (CG.2 ⟨_,hw,hb,rfl⟩))⟩
 ·obtain ⟨m1,m2,m3⟩:=Re s hs
  obtain ⟨t,ht⟩:=pr.1 m2.2
  have hr:=(m3 t).1 ht l (List.mem_cons_self ..) (fun e=>ne _ m1 e.symm)
  exact Dt (Bk (hk _ m1)) e0 (p:=(ij l t0,il l t0)) (r:=(ij s.1 t,il s.1 t)) z0 (p0 _ m1) (nW (mo (hk _ m1)) t).1 hr
omit h in
theorem qM {l:L3}(hl:dO l=true)(hno:∀x:aq.V2,ar l x.1 x.2=0->¬aq.pos M x){q:aq.V2}(hq:aq.pos M q){s:L3}(hs:s∈M){x:aq.V2}(xz:ar s x.1 x.2=0)(hx:∀m∈M,m≠s->0<ar m x.1 x.2) :
  (0<ar l q.1 q.2->0<ar l x.1 x.2\/s=l)/\(ar l q.1 q.2<0->ar l x.1 x.2<0\/ar l x.1 x.2=0/\s≠l):=by
 have side:∀g:L3,(∀x:aq.V2,ar g x.1 x.2=0->¬aq.pos M x)->0<ar g q.1 q.2->∀y:aq.V2,ar s y.1 y.2=0->(∀m∈M,m≠s->0<ar m y.1 y.2)->¬ar g y.1 y.2<0:=fun g hno gq y yz hy hneg=>by
  obtain ⟨q',h1,-,h3⟩:=aq.AX (Bk (hk s hs)) yz hy [ll g] (fun m hm=>by rcases List.mem_singleton.1 hm with rfl;rw [val_rev];grind)
  have h3:=h3 _ (List.mem_singleton.2 rfl)
  rw [val_rev] at h3
  have:=aq.Dp hno hq h1 gq
  grind
 constructor
 ·intro hp
  by_cases c1:0<ar l x.1 x.2
  ·exact .inl c1
  right
  have z:ar l x.1 x.2=0:=by have:=side l hno hp x xz hx;grind
  by_cases e:s=l
  ·exact e
  exfalso
  have Zb:aq.cr (aq.ax l) (aq.ax s)≠0:=fun e0=>by
   rcases NI hl (hk s hs) z xz e0 with g|g
   ·exact e g.symm
   ·rw [g,val_rev] at hp
    have:=hq s hs
    grind
  have step:∀d:aq.V2,aq.nv s d=0->aq.nv l d<0->False:=fun d d0 d1=>by
   obtain ⟨r,r0,hr⟩:=aq.BE ((M.filter fun m=>decide (m≠s)).map fun m=>(ar m x.1 x.2,aq.nv m d)) (fun y hy=>by
    obtain ⟨m,hm,rfl⟩:=List.mem_map.1 hy
    have:=List.mem_filter.1 hm
    exact hx m this.1 (by simpa using this.2))
   refine side l hno hp (x.1+r*d.1,x.2+r*d.2) ?_ (fun m hm hne=>?_) ?_
   ·rw [aq.gR,xz,d0];grind
   ·rw [aq.gR]
    exact hr (ar m x.1 x.2,aq.nv m d) (List.mem_map.2 ⟨m,List.mem_filter.2 ⟨hm,by simpa using hne⟩,rfl⟩)
   ·rw [aq.gR,z]
    have:=aq.mp r0 (show -aq.nv l d>0 by grind)
    grind
  have s0:aq.nv s (aq.ax s)=0:=by rw [aq.G2];exact aq.GC _
  have ls:aq.nv l (aq.ax s)≠0:=by rw [aq.G2];exact Zb
  by_cases c2:aq.nv l (aq.ax s)<0
  ·exact step _ s0 c2
  ·have e1:aq.nv s (-(aq.ax s).1,-(aq.ax s).2)=-aq.nv s (aq.ax s):=by unfold aq.nv;dsimp only;grind
   have e2:aq.nv l (-(aq.ax s).1,-(aq.ax s).2)=-aq.nv l (aq.ax s):=by unfold aq.nv;dsimp only;grind
   exact step (-(aq.ax s).1,-(aq.ax s).2) (by rw [e1,s0];grind) (by rw [e2];grind)
 ·intro hp
  have:=side (ll l) (fun x hx=>hno x (by rw [val_rev] at hx;grind)) (by rw [val_rev];grind) x xz hx
  rw [val_rev] at this
  by_cases c1:ar l x.1 x.2<0
  ·exact .inl c1
  ·refine .inr ⟨by grind,fun e=>?_⟩
   have:=hq s hs
   rw [e] at this
   grind
theorem sB {s:Sd}(hs:s∈c):ar s.1 (ij s.1 s.2.cD) (il s.1 s.2.cD)=0/\∀m∈M,m≠s.1->0<ar m (ij s.1 s.2.cD) (il s.1 s.2.cD):=by
 obtain ⟨m1,m2,m3⟩:=h.mem s hs
 refine ⟨(nW (mo (hk _ m1)) _).1,(m3 _).1 ?_⟩
 obtain ⟨h1,h2⟩:=Sp.Ha m2.2
 constructor
 ·cases ha:s.2.a
  ·exact .inr (h1 ha)
  ·exact .inl rfl
 ·cases hb:s.2.b
  ·exact .inr (h2 hb)
  ·exact .inl rfl
theorem Ig {l:L3}(hl:dO l=true)(hno:∀x:aq.V2,ar l x.1 x.2=0->¬aq.pos M x){q:aq.V2}(hq:aq.pos M q)(hp:0<ar l q.1 q.2)(h0:c≠[]):eJ c l=1:=by
 cases hc:c with
 | nil=>exact absurd hc h0
 | cons s r=>
  have hs:s∈c:=by rw [hc];exact List.mem_cons_self ..
  obtain ⟨e1,e2⟩:=sB h hk hs
  have:=(qM hk hl hno hq (h.mem s hs).1 (x:=(ij s.1 s.2.cD,il s.1 s.2.cD)) e1 e2).1 hp
  unfold eJ
  dsimp only at this
  by_cases c1:0<ar l (ij s.1 s.2.cD) (il s.1 s.2.cD)
  ·rw [aq.BD.2 c1];rfl
  ·have hsl:s.1=l:=this.resolve_left c1
   have z:ar l (ij s.1 s.2.cD) (il s.1 s.2.cD)=0:=by
    have h:=e1;rw [hsl] at h ⊢;exact h
   rw [aq.fh.2 z,if_neg (by simp),if_pos hsl]
theorem Ie {l:L3}(hl:dO l=true)(hno:∀x:aq.V2,ar l x.1 x.2=0->¬aq.pos M x){q:aq.V2}(hq:aq.pos M q)(hp:ar l q.1 q.2<0):eJ c l=-1:=by
 have:∀r:List Sd,(∀s∈r,s∈c)->eJ r l=-1:=by
  intro r
  induction r with
  | nil=>intro _;rfl
  | cons s r ih=>
   intro hr
   have hs:=hr s (List.mem_cons_self ..)
   obtain ⟨e1,e2⟩:=sB h hk hs
   have:=(qM hk hl hno hq (h.mem s hs).1 (x:=(ij s.1 s.2.cD,il s.1 s.2.cD)) e1 e2).2 hp
   dsimp only at this
   unfold eJ
   rcases this with g|⟨g,g'⟩
   ·rw [aq.v_.2 g];rfl
   ·rw [aq.fh.2 g,if_neg (by simp),if_neg g']
    exact ih fun u hu=>hr u (List.mem_cons_of_mem _ hu)
 exact this c fun _ h=>h
theorem Gy {l:L3}(hl:dO l=true):(∀c',fZ c l=some c'->ji (l::M) c')/\(fZ c l=none->¬∃q,aq.pos (l::M) q):=by
 unfold fZ
 cases e:dj c l bD with
 | some v=>exact ⟨fun c' e'=>by cases e';exact HJ h hk hl e,fun e'=>by cases e'⟩
 | none=>
  dsimp only
  have hno:∀x:aq.V2,ar l x.1 x.2=0->¬aq.pos M x:=fun x hx hp=>by
   obtain ⟨t,e1,e2⟩:=tZ (mo hl) hx
   refine Aa ki e t (vk t) fun s hs=>?_
   rw [←e1,←e2];exact hp s.1 (h.mem s hs).1
  have h0:c≠[]:=fun e0=>by rw [e0] at e;cases e
  obtain ⟨q,hq⟩:=h.pos
  by_cases c1:0<ar l q.1 q.2
  ·rw [Ig h hk hl hno hq c1 h0]
   refine ⟨fun c' e'=>?_,fun e'=>by cases e'⟩
   cases e'
   refine ⟨⟨q,List.forall_mem_cons.2 ⟨c1,hq⟩⟩,fun s hs=>?_,fun l' hl' he=>?_,h.rM⟩
   ·obtain ⟨m1,m2,m3⟩:=h.mem s hs
    refine ⟨List.mem_cons_of_mem _ m1,m2,fun t=>?_⟩
    rw [m3 t,List.forall_mem_cons]
    refine ⟨fun g=>⟨fun hne=>?_,g⟩,fun g=>g.2⟩
    exact ((qM hk hl hno hq m1 (x:=(ij s.1 t,il s.1 t)) (nW (mo (hk _ m1)) t).1 g).1 c1).resolve_right fun e=>hne e.symm
   ·obtain ⟨p,pz,hp⟩:=he
    by_cases hm:l'∈M
    ·exact h.all l' hm ⟨p,pz,fun m hm hne=>hp m (List.mem_cons_of_mem _ hm) hne⟩
    ·exfalso
     have e1:l'=l:=(List.mem_cons.1 hl').resolve_right hm
     refine hno p (e1▸pz) fun m hm'=>hp m (List.mem_cons_of_mem _ hm') fun e2=>hm (e2▸hm')
  ·have c2:ar l q.1 q.2<0:=by
    by_cases z:ar l q.1 q.2=0
    ·exact absurd hq (hno q z)
    ·grind
   rw [Ie h hk hl hno hq c2]
   refine ⟨fun c' e'=>(by cases e'),fun _=>?_⟩
   rintro ⟨q',hq'⟩
   obtain ⟨a,b⟩:=List.forall_mem_cons.1 hq'
   have:=aq.Dp hno (fun m hm=>b m hm) hq a
   grind
end
theorem ji.nil:ji [] []:=⟨⟨(0,0),fun m hm=>by cases hm⟩,(fun s hs=>by cases hs),(fun l hl=>by cases hl),List.Pairwise.nil⟩
def bw:List L3->List L3->List Sd->Option (List Sd)
 | [],_,c=>some c
 | l::r,M,c=>match fZ c l with
  | some c'=>bw r (l::M) c'
  | none=>none
theorem uU:∀{ls M:List L3} {c:List Sd},ji M c->(∀m∈M,dO m=true)->(∀m∈ls,dO m=true)->(∀c',bw ls M c=some c'->ji (ls.reverse++M) c')/\(bw ls M c=none->¬∃q,aq.pos (ls.reverse++M) q)
 | [],M,c,h,hk,hl=>⟨fun c' e=>by cases e;exact h,fun e=>by cases e⟩
 | l::r,M,c,h,hk,hl=>by
  obtain ⟨h1,h2⟩:=Gy h hk (hl l (List.mem_cons_self ..))
  rw [List.reverse_cons,List.append_assoc]
  unfold bw
  cases e:fZ c l with
  | some c'=>exact uU (h1 c' e) (List.forall_mem_cons.2 ⟨hl l (List.mem_cons_self ..),hk⟩) fun m hm=>hl m (List.mem_cons_of_mem _ hm)
  | none=>
   refine ⟨fun c' e'=>(by cases e'),fun _=>?_⟩
   rintro ⟨q,hq⟩
   exact h2 e ⟨q,fun m hm=>hq m (List.mem_append_right _ hm)⟩
theorem Ch:∀{a b:List L3},(a.Pairwise fun l m=>aq.dp (aq.ax l) (aq.ax m)<0)->(b.Pairwise fun l m=>aq.dp (aq.ax l) (aq.ax m)<0)->(∀x,x∈a↔x∈b)->a=b
 | [],b,_,_,h=>by
  cases b with
  | nil=>rfl
  | cons y b=>have:=(h y).2 (List.mem_cons_self ..);cases this
 | x::a,[],_,_,h=>by have:=(h x).1 (List.mem_cons_self ..);cases this
 | x::a,y::b,ha,hb,h=>by
  obtain ⟨a1,a2⟩:=List.pairwise_cons.1 ha
  obtain ⟨b1,b2⟩:=List.pairwise_cons.1 hb
  have e:x=y:=by
   rcases List.mem_cons.1 ((h x).1 (List.mem_cons_self ..)) with e|hx
   ·exact e
   ·rcases List.mem_cons.1 ((h y).2 (List.mem_cons_self ..)) with e|hy
    ·exact e.symm
    ·exact absurd (a1 y hy) (aq.tP _ _ (b1 x hx))
  subst e
  have XQ:∀z:L3,¬aq.dp (aq.ax z) (aq.ax z)<0:=fun z hz=>aq.tP _ _ hz hz
  congr 1
  refine Ch a2 b2 fun z=>⟨fun hz=>?_,fun hz=>?_⟩
  ·rcases List.mem_cons.1 ((h z).1 (List.mem_cons_of_mem _ hz)) with e|g
   ·exact absurd (a1 z hz) (e▸XQ z)
   ·exact g
  ·rcases List.mem_cons.1 ((h z).2 (List.mem_cons_of_mem _ hz)) with e|g
   ·exact absurd (b1 z hz) (e▸XQ z)
   ·exact g
end Go.Proofs.Tryz
