import Derived.Test.YthpmdmkmfoaamaaGreatDoorF15
import Derived.Test.YthpmdmkmfoaamaaGreatDoorF13
import Derived.Test.YthpmdmkmfoaamaaGreatDoorF12
import Derived.Test.YthpmdmkmfoaamaaGreatDoorF8
import Derived.Test.YthpmdmkmfoaamaaGreatDoorF14
set_option linter.unusedVariables false
open Go.IntKind (i64 u64 u32)
namespace Go.Proofs.Tryz.aw
open Go.bz Go.eM
def half (u:V2):Int:=if u.2.num.sign>0\/u.2.num.sign=0/\u.1.num.sign>0 then 1 else if u.2.num.sign<0\/u.1.num.sign<0 then 2 else 0
def fk (u v:V2):Int:=if half u<half v then -1 else if half u>half v then 1 else -(cr u v).num.sign
theorem pU {q:Rat}:q.num.sign>0↔q>0:=by
 have:=Rat.num_nonneg (q:=-q)
 rw [Rat.neg_num] at this
 rw [gt_iff_lt,Int.sign_pos_iff]
 have h2:(0<=-q)↔¬q>0:=by constructor<;>intro h<;>grind
 rw [h2] at this
 by_cases h:q>0
 ·exact ⟨fun _=>h,fun _=>by
   have:¬0<=-q.num:=fun g=>this.1 g h
   omega⟩
 ·exact ⟨fun g=>by have:=this.2 h;omega,fun g=>absurd g h⟩
theorem BE {q:Rat}:q.num.sign<0↔q<0:=by
 have:=@pU (-q)
 rw [Rat.neg_num,Int.sign_neg] at this
 constructor
 ·intro h;have:=this.1 (by omega);grind
 ·intro h;have:=this.2 (by grind);omega
theorem bw (u:V2):half u=1/\up u\/half u=2/\dn u\/half u=0/\u.1=0/\u.2=0:=by
 unfold half up dn
 split
 ·rename_i h;rw [pU,pU,d_] at h;exact .inl ⟨rfl,h⟩
 ·rename_i h
  rw [pU,pU,d_] at h
  split
  ·rename_i h';rw [BE,BE] at h';exact .inr (.inl ⟨rfl,by grind⟩)
  ·rename_i h';rw [BE,BE] at h';exact .inr (.inr ⟨rfl,by grind,by grind⟩)
theorem nQ {u v:V2}:fk u v<0↔half u<half v\/half u=half v/\cr u v>0:=by
 have:=@pU (cr u v)
 unfold fk
 by_cases h1:half u<half v
 ·simp [h1]
 ·by_cases h2:half u>half v
  ·rw [if_neg h1,if_pos h2];omega
  ·rw [if_neg h1,if_neg h2];constructor
   ·intro h;exact .inr ⟨by omega,this.1 (by omega)⟩
   ·rintro (h|⟨h,h'⟩)
    ·omega
    ·have:=this.2 h';omega
theorem eS {u v:V2}:fk u v=0↔half u=half v/\cr u v=0:=by
 have:=@d_ (cr u v)
 unfold fk
 by_cases h1:half u<half v
 ·rw [if_pos h1];constructor
  ·intro h;omega
  ·rintro ⟨h,_⟩;omega
 ·by_cases h2:half u>half v
  ·rw [if_neg h1,if_pos h2];constructor
   ·intro h;omega
   ·rintro ⟨h,_⟩;omega
  ·rw [if_neg h1,if_neg h2];constructor
   ·intro h;exact ⟨by omega,this.1 (by omega)⟩
   ·rintro ⟨_,h⟩;have:=this.2 h;omega
theorem tI (u v:V2):fk u v<0\/fk u v=0\/fk v u<0:=by
 rw [nQ,eS,nQ]
 have:=bV u v
 rcases Int.lt_trichotomy (half u) (half v) with h|h|h
 ·exact .inl (.inl h)
 ·by_cases p:cr u v>0
  ·exact .inl (.inr ⟨h,p⟩)
  ·by_cases q:cr u v=0
   ·exact .inr (.inl ⟨h,q⟩)
   ·exact .inr (.inr (.inr ⟨h.symm,by grind⟩))
 ·exact .inr (.inr (.inl h))
theorem yC (u v:V2)(h:fk u v<0):¬fk v u<0:=by
 rw [nQ] at *
 have:=bV u v
 rintro (h'|⟨h',g'⟩)<;>rcases h with h|⟨h,g⟩
 ·omega
 ·omega
 ·omega
 ·grind
theorem It {a b d:V2}(lF:half a=half b)(hbd:half b=half d)(h1:cr a b<=0)(h2:cr b d<=0):cr a d<=0:=by
 by_cases h:cr a d<=0
 ·exact h
 exfalso
 have c:cr a d>0:=by grind
 have j1:=Gs a d b
 have j2:=zd a d b
 rcases bw b with ⟨e,hb⟩|⟨e,hb⟩|⟨e,hb⟩
 ·have ha:up a:=by rcases bw a with ⟨e',h⟩|⟨e',h⟩|⟨e',h⟩<;>first|exact h|omega
  have hd:up d:=by rcases bw d with ⟨e',h⟩|⟨e',h⟩|⟨e',h⟩<;>first|exact h|omega
  unfold up at ha hb hd
  have m1:=mn (show -(cr a b)≥0 by grind) (show d.2≥0 by grind)
  have m2:=mn (show -(cr b d)≥0 by grind) (show a.2≥0 by grind)
  have m3:=mn (show cr a d≥0 by grind) (show b.2≥0 by grind)
  have z3:cr a d*b.2=0:=by grind
  have b2:b.2=0:=by rcases Rat.mul_eq_zero.1 z3 with h|h<;>grind
  have b1:b.1>0:=by grind
  have d2:d.2=0:=by
   by_cases q:d.2>0
   ·have:=mp b1 q;unfold cr at h2;rw [b2] at h2;grind
   ·grind
  have d1:d.1>0:=by grind
  have:=mn (show a.2≥0 by grind) (show d.1≥0 by grind)
  unfold cr at c
  rw [d2] at c
  grind
 ·have ha:dn a:=by rcases bw a with ⟨e',h⟩|⟨e',h⟩|⟨e',h⟩<;>first|exact h|omega
  have hd:dn d:=by rcases bw d with ⟨e',h⟩|⟨e',h⟩|⟨e',h⟩<;>first|exact h|omega
  unfold dn at ha hb hd
  have m1:=mn (show -(cr a b)≥0 by grind) (show -d.2≥0 by grind)
  have m2:=mn (show -(cr b d)≥0 by grind) (show -a.2≥0 by grind)
  have m3:=mn (show cr a d≥0 by grind) (show -b.2≥0 by grind)
  have z3:cr a d*b.2=0:=by grind
  have b2:b.2=0:=by rcases Rat.mul_eq_zero.1 z3 with h|h<;>grind
  have b1:-b.1>0:=by grind
  have d2:d.2=0:=by
   by_cases q:-d.2>0
   ·have:=mp b1 q;unfold cr at h2;rw [b2] at h2;grind
   ·grind
  have d1:d.1<0:=by grind
  have:=mn (show -a.2≥0 by grind) (show -d.1≥0 by grind)
  unfold cr at c
  rw [d2] at c
  grind
 ·have ha:a.1=0/\a.2=0:=by rcases bw a with ⟨e',h⟩|⟨e',h⟩|⟨e',h⟩<;>first|exact h|omega
  unfold cr at c
  rw [ha.1,ha.2] at c
  grind
theorem Kk {u v:V2}:¬fk u v<0↔half v<half u\/half u=half v/\cr u v<=0:=by
 rw [nQ]
 constructor
 ·intro h
  rcases Int.lt_trichotomy (half u) (half v) with g|g|g
  ·exact absurd (.inl g) h
  ·exact .inr ⟨g,by by_cases p:cr u v>0;exact absurd (.inr ⟨g,p⟩) h;grind⟩
  ·exact .inl g
 ·rintro (h|⟨h,g⟩) (h'|⟨h',g'⟩)
  ·omega
  ·omega
  ·omega
  ·grind
theorem tK (a b d:V2)(h:¬fk a b<0)(h':¬fk b d<0):¬fk a d<0:=by
 rw [Kk] at *
 rcases h with h|⟨h,g⟩<;>rcases h' with h'|⟨h',g'⟩
 ·exact .inl (by omega)
 ·exact .inl (by omega)
 ·exact .inl (by omega)
 ·exact .inr ⟨by omega,It h h' g g'⟩
theorem yD {u v:V2}(hu:nz u)(hv:nz v):fk u v<0↔nP u v:=by
 have h0:∀{w:V2},nz w->¬(w.1=0/\w.2=0):=fun h g=>by unfold nz at h;rcases h with h|h;exact h g.1;exact h g.2
 rw [nQ]
 unfold nP
 rcases bw u with ⟨e,h⟩|⟨e,h⟩|⟨e,h⟩
 ·rcases bw v with ⟨e',h'⟩|⟨e',h'⟩|⟨e',h'⟩
  ·rw [e,e'];constructor
   ·rintro (g|⟨_,g⟩)
    ·omega
    ·exact .inr ⟨.inl ⟨h,h'⟩,g⟩
   ·rintro (⟨_,g⟩|⟨_,g⟩)
    ·exact (dU h' g).elim
    ·exact .inr ⟨rfl,g⟩
  ·rw [e,e'];exact ⟨fun _=>.inl ⟨h,h'⟩,fun _=>.inl (by decide)⟩
  ·exact absurd h' (h0 hv)
 ·rcases bw v with ⟨e',h'⟩|⟨e',h'⟩|⟨e',h'⟩
  ·rw [e,e'];constructor
   ·rintro (g|⟨g,_⟩)<;>omega
   ·rintro (⟨g,_⟩|⟨⟨g,_⟩|⟨_,g⟩,_⟩)
    ·exact (dU g h).elim
    ·exact (dU g h).elim
    ·exact (dU h' g).elim
  ·rw [e,e'];constructor
   ·rintro (g|⟨_,g⟩)
    ·omega
    ·exact .inr ⟨.inr ⟨h,h'⟩,g⟩
   ·rintro (⟨g,_⟩|⟨_,g⟩)
    ·exact (dU g h).elim
    ·exact .inr ⟨rfl,g⟩
  ·exact absurd h' (h0 hv)
 ·exact absurd h (h0 hu)
theorem FH {u v:V2}(hu:nz u)(h:fk u v=0):∃c:Rat,c>0/\u=(c*v.1,c*v.2):=by
 rw [eS] at h
 obtain ⟨e,c⟩:=h
 have fin:∀k:Rat,k>0->u.1=k*v.1->u.2=k*v.2->∃c:Rat,c>0/\u=(c*v.1,c*v.2):=fun k h0 h1 h2=>⟨k,h0,Prod.ext h1 h2⟩
 have pos:∀x y:Rat,y≠0->x*y>0->x*y⁻¹>0:=fun x y hy h=>by
  have e:=inv_mul hy x
  generalize x*y⁻¹=t at *
  have e2:t*(y*y)=x*y:=by grind
  have:=sq_pos (u:=(y,0)) (.inl hy)
  unfold dt at this
  by_cases q:t>0
  ·exact q
  ·have:=mn (show -t≥0 by grind) (show y*y≥0 by grind);grind
 unfold cr at c
 have two:v.2≠0->u.2*v.2>0->∃c:Rat,c>0/\u=(c*v.1,c*v.2):=fun h0 h1=>by
  refine fin (u.2*v.2⁻¹) (pos _ _ h0 h1) ?_ (inv_mul h0 _).symm
  have:=inv_mul h0 u.1
  have:u.1*v.2*v.2⁻¹=u.2*v.1*v.2⁻¹:=by rw [show u.1*v.2=u.2*v.1 by grind]
  grind
 have one:v.1≠0->u.1*v.1>0->v.2=0->u.2=0->∃c:Rat,c>0/\u=(c*v.1,c*v.2):=fun h0 h1 h2 h3=>
  fin (u.1*v.1⁻¹) (pos _ _ h0 h1) (inv_mul h0 _).symm (by rw [h2,h3];grind)
 rcases bw u with ⟨e1,h⟩|⟨e1,h⟩|⟨e1,h⟩
 ·have h':up v:=by rcases bw v with ⟨e',h⟩|⟨e',h⟩|⟨e',h⟩<;>first|exact h|omega
  unfold up at h h'
  by_cases q:v.2>0
  ·refine two (by grind) ?_
   by_cases q':u.2>0
   ·exact mp q' q
   ·have u2:u.2=0:=by grind
    have:=mp (show u.1>0 by grind) q
    rw [u2] at c;grind
  ·have v2:v.2=0:=by grind
   have v1:v.1>0:=by grind
   by_cases q':u.2>0
   ·have:=mp q' v1;rw [v2] at c;grind
   ·exact one (by grind) (mp (by grind) v1) v2 (by grind)
 ·have h':dn v:=by rcases bw v with ⟨e',h⟩|⟨e',h⟩|⟨e',h⟩<;>first|exact h|omega
  unfold dn at h h'
  by_cases q:v.2<0
  ·refine two (by grind) ?_
   by_cases q':u.2<0
   ·have:=mp (show -u.2>0 by grind) (show -v.2>0 by grind);grind
   ·have u2:u.2=0:=by grind
    have:=mp (show -u.1>0 by grind) (show -v.2>0 by grind)
    rw [u2] at c;grind
  ·have v2:v.2=0:=by grind
   have v1:-v.1>0:=by grind
   by_cases q':u.2<0
   ·have:=mp (show -u.2>0 by grind) v1;rw [v2] at c;grind
   ·refine one (by grind) ?_ v2 (by grind)
    have:=mp (show -u.1>0 by grind) v1;grind
 ·unfold nz at hu;grind
theorem H7 {a b d:V2}(h:fk a b=0)(h':fk b d=0):fk a d=0:=by
 have z:∀{u v:V2},fk u v=0↔¬fk u v<0/\¬fk v u<0:=by
  intro u v
  constructor
  ·intro e
   refine ⟨by omega,?_⟩
   rw [eS] at e
   have:=bV u v
   rw [nQ]
   rintro (g|⟨_,g⟩)
   ·omega
   ·grind
  ·rintro ⟨g,g'⟩
   rcases tI u v with e|e|e
   ·exact absurd e g
   ·exact e
   ·exact absurd e g'
 rw [z] at *
 exact ⟨tK _ _ _ h.1 h'.1,tK _ _ _ h'.2 h.2⟩
theorem tJ (a:V2):fk a a=0:=eS.2 ⟨rfl,by unfold cr;grind⟩
theorem DJ {a b d:V2}(h:¬fk b a<0)(h':fk b d<0):fk a d<0:=by
 by_cases q:fk a d<0
 ·exact q
 ·exact absurd h' (tK _ _ _ h q)
def eP (u v:V2):Bool:=decide (fk u v=0)
theorem AR:∀{r:List V2} {p:V2},(p::r).Pairwise (fun x y=>¬fk y x<0) ->
  (nY eP p r).Pairwise (fun x y=>fk x y<0)/\(∀x∈nY eP p r,fk p x<0)/\∀x∈p::r,∃y∈p::nY eP p r,fk y x=0
 | [],p,_=>⟨List.Pairwise.nil,(fun x h=>by cases h),fun x h=>⟨x,h,tJ x⟩⟩
 | a::r,p,h=>by
  obtain ⟨h1,h2⟩:=List.pairwise_cons.1 h
  obtain ⟨i1,i2,i3⟩:=AR h2
  have pa:¬fk a p<0:=h1 a (List.mem_cons_self ..)
  unfold nY
  by_cases e:fk a p=0
  ·have:eP a p=true:=decide_eq_true e
   rw [if_pos this]
   have pa':¬fk p a<0:=fun g=>by
    rcases eS.1 e with ⟨e1,e2⟩
    rw [nQ] at g
    have:=bV a p
    rcases g with g|⟨_,g⟩
    ·omega
    ·grind
   refine ⟨i1,fun x hx=>DJ pa (i2 x hx),fun x hx=>?_⟩
   rcases List.mem_cons.1 hx with rfl|hx
   ·exact ⟨x,List.mem_cons_self ..,tJ x⟩
   ·obtain ⟨y,hy,g⟩:=i3 x hx
    rcases List.mem_cons.1 hy with rfl|hy
    ·refine ⟨p,List.mem_cons_self ..,H7 (b:=y) ?_ g⟩
     rcases tI p y with q|q|q
     ·exact absurd q pa'
     ·exact q
     ·exact absurd q pa
    ·exact ⟨y,List.mem_cons_of_mem _ hy,g⟩
  ·have:eP a p=false:=decide_eq_false e
   rw [this]
   have lt:fk p a<0:=by
    rcases tI p a with q|q|q
    ·exact q
    ·exfalso;apply e
     rw [eS] at *
     have:=bV a p
     exact ⟨q.1.symm,by grind⟩
    ·exact absurd q pa
   refine ⟨List.pairwise_cons.2 ⟨i2,i1⟩,fun x hx=>?_,fun x hx=>?_⟩
   ·rcases List.mem_cons.1 hx with rfl|hx
    ·exact lt
    ·exact DJ (b:=a) pa (i2 x hx)
   ·rcases List.mem_cons.1 hx with rfl|hx
    ·exact ⟨x,List.mem_cons_self ..,tJ x⟩
    ·obtain ⟨y,hy,g⟩:=i3 x hx
     exact ⟨y,List.mem_cons_of_mem _ hy,g⟩
theorem F1 {m:List V2}(h:m.Pairwise (fun x y=>¬fk y x<0)):(eW eP m).Pairwise (fun x y=>fk x y<0)/\∀x∈m,∃y∈eW eP m,fk y x=0:=by
 cases m with
 | nil=>exact ⟨List.Pairwise.nil,fun x h=>by cases h⟩
 | cons p r=>
  obtain ⟨h1,h2,h3⟩:=AR h
  exact ⟨List.pairwise_cons.2 ⟨h2,h1⟩,h3⟩
theorem K5 {m:List V2}(h:m.Pairwise (fun x y=>¬fk y x<0))(hn:∀r∈m,nz r)(ho:∀r∈m,∃s∈m,O6 s r):Aj (eW eP m)/\∀x∈m,∃y∈eW eP m,∃c:Rat,c>0/\y=(c*x.1,c*x.2):=by
 obtain ⟨h1,h2⟩:=F1 h
 have sub:∀x∈eW eP m,x∈m:=F2
 have mem:∀x∈m,∃y∈eW eP m,∃c:Rat,c>0/\y=(c*x.1,c*x.2):=fun x hx=>by
  obtain ⟨y,hy,e⟩:=h2 x hx
  exact ⟨y,hy,FH (hn y (sub y hy)) e⟩
 refine ⟨⟨fun r hr=>hn r (sub r hr),fun r hr=>?_,?_⟩,mem⟩
 ·obtain ⟨s,hs,k,k0,e1,e2⟩:=ho r (sub r hr)
  obtain ⟨y,hy,c,c0,e⟩:=mem s hs
  refine ⟨y,hy,c*k,mp c0 k0,?_,?_⟩
  ·rw [e];show c*s.1=_;rw [e1];grind
  ·rw [e];show c*s.2=_;rw [e2];grind
 ·refine List.Pairwise.imp_of_mem ?_ h1
  intro a b ha hb g
  exact (yD (hn a (sub a ha)) (hn b (sub b hb))).1 g
theorem Jg {m:List V2}(h:m.Pairwise (fun x y=>¬fk y x<0))(hn:∀r∈m,nz r)(ho:∀r∈m,∃s∈m,O6 s r)(hd:m.Pairwise (fun x y=>¬fk x y=0)):Aj m:=by
 refine ⟨hn,ho,?_⟩
 have:=h.and hd
 refine List.Pairwise.imp_of_mem ?_ this
 intro a b ha hb ⟨g,g'⟩
 refine (yD (hn a ha) (hn b hb)).1 ?_
 rcases tI a b with q|q|q
 ·exact q
 ·exact absurd q g'
 ·exact absurd q g
section
variable {D:List V2} (h:Aj D)
include h
theorem G2 {i:Nat}{u w:V2}(hi:D[i]?=some u)(hw:D[(i+1)%D.length]?=some w):cr u w≥0:=by
 by_cases q:cr u w≥0
 ·exact q
 exfalso
 have M6:w∈D:=List.mem_of_getElem? hw
 have hu:u∈D:=List.mem_of_getElem? hi
 obtain ⟨s,hs,ho⟩:=h.cl w M6
 obtain ⟨k,k0,_,e2⟩:=jG ho u
 have p:cr u s>0:=by rw [e2];have:=mp k0 (show -(cr u w)>0 by grind);grind
 obtain ⟨j,hj⟩:=List.getElem?_of_mem hs
 refine JF (h.nz u hu) (h.nz w M6) (h.nz s hs) (PM h hi hw hj (fun e=>?_) (fun e=>?_)) p (by grind)
 ·rw [e,hi] at hj;cases hj;unfold cr at p;grind
 ·rw [e,hw] at hj;cases hj;grind
omit h in
def Hx (f:V2->V2->V2)(D:List V2):List V2:=(List.range D.length).map fun i=>f (D.getD i (0,0)) (D.getD ((i+1)%D.length) (0,0))
theorem Jq {f:V2->V2->V2}(hf:∀u∈D,∀w∈D,cr u w≥0->qj u w (f u w))(hD:D≠[]):Fq D (Hx f D):=by
 have hl:0<D.length:=List.length_pos_iff.2 hD
 have key:∀i u w,D[i]?=some u->D[(i+1)%D.length]?=some w->D.getD i (0,0)=u/\D.getD ((i+1)%D.length) (0,0)=w/\qj u w (f u w):=fun i u w hi hw=>
  ⟨by rw [List.getD_eq_getElem?_getD,hi];rfl,by rw [List.getD_eq_getElem?_getD,hw];rfl,hf u (List.mem_of_getElem? hi) w (List.mem_of_getElem? hw) (G2 h hi hw)⟩
 refine .inr ⟨hD,fun x hx=>?_,fun i u w hi hw=>?_⟩
 ·obtain ⟨i,hi,rfl⟩:=List.mem_map.1 hx
  have hi:=List.mem_range.1 hi
  have e1:D[i]?=some D[i]:=List.getElem?_eq_getElem hi
  have e2:D[(i+1)%D.length]?=some (D[(i+1)%D.length]'(Nat.mod_lt _ hl)):=List.getElem?_eq_getElem _
  obtain ⟨k1,k2,k3⟩:=key i _ _ e1 e2
  exact ⟨i,_,_,e1,e2,by rw [k1,k2];exact k3⟩
 ·obtain ⟨k1,k2,k3⟩:=key i u w hi hw
  refine ⟨_,List.mem_map.2 ⟨i,List.mem_range.2 (List.getElem?_eq_some_iff.1 hi).1,rfl⟩,?_⟩
  rw [k1,k2];exact k3
end
theorem sS {a b c x y z:Int}(h1:a*y=b*x)(h2:a*z=c*x)(g:Nat.gcd (Nat.gcd x.natAbs y.natAbs) z.natAbs=1):x.natAbs∣a.natAbs:=by
 have e1:a.natAbs*y.natAbs=b.natAbs*x.natAbs:=by rw [←Int.natAbs_mul,←Int.natAbs_mul,h1]
 have e2:a.natAbs*z.natAbs=c.natAbs*x.natAbs:=by rw [←Int.natAbs_mul,←Int.natAbs_mul,h2]
 have d1:x.natAbs∣a.natAbs*Nat.gcd (Nat.gcd x.natAbs y.natAbs) z.natAbs:=by
  rw [←Nat.gcd_mul_left,←Nat.gcd_mul_left]
  exact Nat.dvd_gcd (Nat.dvd_gcd ⟨a.natAbs,by rw [Nat.mul_comm]⟩ ⟨b.natAbs,by rw [e1,Nat.mul_comm]⟩) ⟨c.natAbs,by rw [e2,Nat.mul_comm]⟩
 rwa [g,Nat.mul_one] at d1
theorem E7 {l m:L3}(ol:gT l=true)(om:gT m=true)(cl:cK l=l)(cm:cK m=m){x y:Rat}(hl:cq l x y=0)(hm:cq m x y=0)
  (hc:cr (cj l) (cj m)=0):l=m:=by
 unfold gT at ol om
 rw [Bool.and_eq_true,decide_eq_true_iff,decide_eq_true_iff] at ol om
 have c12:l.1*m.2.1=l.2.1*m.1:=by
  unfold cr cj at hc
  have:(l.1:Rat)*(m.2.1:Rat)=(l.2.1:Rat)*(m.1:Rat):=by grind
  exact_mod_cast this
 unfold cq at hl hm
 have WX:(l.1:Rat)*(m.2.1:Rat)=(l.2.1:Rat)*(m.1:Rat):=by exact_mod_cast c12
 have c13:l.1*m.2.2=l.2.2*m.1:=by
  have:(l.1:Rat)*(m.2.2:Rat)=(l.2.2:Rat)*(m.1:Rat):=by grind
  exact_mod_cast this
 have c23:l.2.1*m.2.2=l.2.2*m.2.1:=by
  have:(l.2.1:Rat)*(m.2.2:Rat)=(l.2.2:Rat)*(m.2.1:Rat):=by grind
  exact_mod_cast this
 obtain ⟨Vq,QP⟩:=ol
 obtain ⟨WR,QQ⟩:=om
 unfold j7 at QP QQ
 have SH:Nat.gcd (Nat.gcd l.2.1.natAbs l.1.natAbs) l.2.2.natAbs=1:=by rw [Nat.gcd_comm l.2.1.natAbs];exact QP
 have PY:Nat.gcd (Nat.gcd m.2.1.natAbs m.1.natAbs) m.2.2.natAbs=1:=by rw [Nat.gcd_comm m.2.1.natAbs];exact QQ
 have a1:l.1.natAbs=m.1.natAbs:=Nat.dvd_antisymm (sS (a:=m.1) (b:=m.2.1) (c:=m.2.2) (by rw [Int.mul_comm,←c12,Int.mul_comm]) (by rw [Int.mul_comm,←c13,Int.mul_comm]) QP) (sS c12 c13 QQ)
 have a2:l.2.1.natAbs=m.2.1.natAbs:=Nat.dvd_antisymm (sS (a:=m.2.1) (b:=m.1) (c:=m.2.2) (by rw [Int.mul_comm,c12,Int.mul_comm]) (by rw [Int.mul_comm,←c23,Int.mul_comm]) SH) (sS (b:=l.1) (c:=l.2.2) c12.symm c23 PY)
 have sl:¬(l.1<0\/l.1=0/\l.2.1<0):=fun h=>by
  unfold cK at cl
  rw [if_pos h] at cl
  have e1:-l.1=l.1:=congrArg (fun x:L3=>x.1) cl
  have e2:-l.2.1=l.2.1:=congrArg (fun x:L3=>x.2.1) cl
  omega
 have sm:¬(m.1<0\/m.1=0/\m.2.1<0):=fun h=>by
  unfold cK at cm
  rw [if_pos h] at cm
  have e1:-m.1=m.1:=congrArg (fun x:L3=>x.1) cm
  have e2:-m.2.1=m.2.1:=congrArg (fun x:L3=>x.2.1) cm
  omega
 have e1:l.1=m.1:=by omega
 by_cases z:l.1=0
 ·have e2:l.2.1=m.2.1:=by omega
  have n2:l.2.1≠0:=fun h=>Vq ⟨z,h⟩
  have e3:m.2.2=l.2.2:=Int.eq_of_mul_eq_mul_left n2 (by rw [c23,e2,Int.mul_comm])
  exact Prod.ext e1 (Prod.ext e2 e3.symm)
 ·have e2:m.2.1=l.2.1:=Int.eq_of_mul_eq_mul_left z (by rw [c12,e1,Int.mul_comm])
  have e3:m.2.2=l.2.2:=Int.eq_of_mul_eq_mul_left z (by rw [c13,e1,Int.mul_comm])
  exact Prod.ext e1 (Prod.ext e2.symm e3.symm)
end Go.Proofs.Tryz.aw
namespace Go.Proofs.Tryz
open Go.bz Go.eM
theorem xA {V:View}{v:Value}{p:Rat×Rat}(h:lx V v p.1 p.2){k:Nat}(s1:Sz k p.1)(s2:Sz k p.2)(hk:k<=1099511627776) :
  ab prog 188 #[v] V fun r V'=>r=.int .i64 (aw.half p):=by
 obtain ⟨x1,x2,q,y1,y2,q',rfl,hx,hy⟩:=h
 refine vB x1 x2 q y1 y2 q' V _ fun V1 l1=>(eT (hy.le l1) s2 hk).mono ?_
 rintro r V2 l2 rfl
 have cp:=l1.trans l2
 refine ⟨_,rfl,fun h1 V3 l3=>?_,fun h1=>⟨fun h2 V4 l4=>(eT (hx.le (cp.trans l4)) s1 hk).mono ?_,fun h2=>⟨fun h3 kv Vb=>?_,fun h3 lA bW=>(eT (hx.le (cp.trans bW)) s1 hk).mono ?_⟩⟩⟩
 ·have h1:p.2.num.sign>0:=of_decide_eq_true h1
  unfold aw.half;rw [if_pos (.inl h1)]
 ·have h1:¬p.2.num.sign>0:=of_decide_eq_false h1
  have h2:p.2.num.sign=0:=by simpa using h2
  rintro r V5 l5 rfl
  refine ⟨_,rfl,fun h3 V6 l6=>?_,fun h3=>⟨fun h4 V7 l7=>?_,fun h4 V8 l8=>(eT (hx.le (cp.trans (l4.trans (l5.trans l8)))) s1 hk).mono ?_⟩⟩
  ·have h3:p.1.num.sign>0:=of_decide_eq_true h3
   unfold aw.half;rw [if_pos (.inr ⟨h2,h3⟩)]
  ·have h4:p.2.num.sign<0:=of_decide_eq_true h4
   omega
  ·have h3:¬p.1.num.sign>0:=of_decide_eq_false h3
   have hn:¬(p.2.num.sign>0\/p.2.num.sign=0/\p.1.num.sign>0):=by omega
   rintro r V9 l9 rfl
   refine ⟨_,rfl,fun h5 gQ l10=>?_,fun h5 jw bQ=>?_⟩
   ·have h5:p.1.num.sign<0:=of_decide_eq_true h5
    unfold aw.half;rw [if_neg hn,if_pos (.inr h5)]
   ·have h5:¬p.1.num.sign<0:=of_decide_eq_false h5
    unfold aw.half;rw [if_neg hn,if_neg (by omega)]
 ·have h1:¬p.2.num.sign>0:=of_decide_eq_false h1
  have h2:¬p.2.num.sign=0:=by simpa using h2
  have h3:p.2.num.sign<0:=of_decide_eq_true h3
  unfold aw.half;rw [if_neg (by omega),if_pos (.inl h3)]
 ·have h1:¬p.2.num.sign>0:=of_decide_eq_false h1
  have h2:¬p.2.num.sign=0:=by simpa using h2
  have h3:¬p.2.num.sign<0:=of_decide_eq_false h3
  omega
theorem Js (q:Rat):-1<=q.num.sign/\q.num.sign<=1:=by
 rcases Int.lt_trichotomy q.num 0 with h|h|h
 ·rw [Int.sign_eq_neg_one_of_neg h];omega
 ·rw [h];decide
 ·rw [Int.sign_eq_one_of_pos h];omega
theorem AE {V:View}{v w:Value}{a b:Rat×Rat}(h:lx V v a.1 a.2)(h':lx V w b.1 b.2){k:Nat}(s1:Sz k a.1)(s2:Sz k a.2)(s3:Sz k b.1)(s4:Sz k b.2)(hk:4*k+3<274877906944) :
  ab prog 151 #[v,w] V fun r V'=>r=.int .i64 (aw.fk a b):=by
 have h0:=h
 have h0':=h'
 obtain ⟨x1,x2,q,y1,y2,q',rfl,-⟩:=h
 obtain ⟨u1,u2,t,w1,w2,t',rfl,-⟩:=h'
 refine zT x1 x2 q y1 y2 q' u1 u2 t w1 w2 t' V _ fun V1 l1=>(xA (h0.le l1) s1 s2 (by omega)).mono ?_
 rintro r V2 l2 rfl
 refine ⟨_,rfl,fun V3 l3=>(xA (h0'.le (l1.trans (l2.trans l3))) s3 s4 (by omega)).mono ?_⟩
 rintro r V4 l4 rfl
 have dK:=l1.trans (l2.trans (l3.trans l4))
 refine ⟨_,rfl,fun g V5 l5=>?_,fun g=>⟨fun g' V6 l6=>?_,fun g' V7 l7=>(lI (h0.le (dK.trans l7)) (h0'.le (dK.trans l7)) s1 s2 s3 s4 hk).mono ?_⟩⟩
 ·unfold aw.fk;rw [if_pos (of_decide_eq_true g)]
 ·unfold aw.fk;rw [if_neg (of_decide_eq_false g),if_pos (of_decide_eq_true g')]
 ·rintro r V8 l8 gc
  have IA:=gc
  obtain ⟨c0,c1,c2,rfl⟩:=gc.shape
  refine ⟨_,_,_,rfl,fun V9 l9=>(eT (IA.le l9) (ko s1 s2 s3 s4) (by omega)).mono ?_⟩
  rintro r gQ l10 rfl
  refine ⟨_,rfl,fun jw bQ=>?_⟩
  have bd:=Js (a.1*b.2-a.2*b.1)
  rw [ar (by omega)]
  unfold aw.fk;rw [if_neg (of_decide_eq_false g),if_neg (of_decide_eq_false g')]
  show _=Value.int .i64 (-(a.1*b.2-a.2*b.1).num.sign)
  congr 1;omega
def bj:Rat×Rat:=(0,0)
def dg (a b:Rat×Rat):Int:=aw.fk a b
theorem fq:Ord dg:=⟨aw.yC,aw.tK⟩
def kq (V:View)(v:Value)(c:Rat×Rat):Prop:=lx V v c.1 c.2/\Sz 100000 c.1/\Sz 100000 c.2
theorem kq.le {V V':View}{v:Value}{c:Rat×Rat}(h:kq V v c)(l:V.Le V'):kq V' v c:=⟨h.1.le l,h.2⟩
theorem kq.shape {V:View}{v:Value}{c:Rat×Rat}(h:kq V v c):∃(x y:Int)(p:OA)(xb yb:Int)(pb:OA),v=.agg #[.int .i64 x,.int .i64 y,.pointer p,.int .i64 xb,.int .i64 yb,.pointer pb]:=by
 obtain ⟨⟨x1,x2,p,y1,y2,q,e,-⟩,-⟩:=h;exact ⟨_,_,_,_,_,_,e⟩
theorem bH {V:View}{v w:Value}{a b:Rat×Rat}(h:kq V v a)(h':kq V w b):ab prog 151 #[v,w] V fun r V'=>r=.int .i64 (dg a b):=
 AE h.1 h'.1 h.2.1 h.2.2 h'.2.1 h'.2.2 (by omega)
def eP (a b:Rat×Rat):Bool:=aw.eP a b
theorem FZ {V:View}{v w:Value}{a b:Rat×Rat}(h:kq V v a)(h':kq V w b):ab prog 153 #[v,w] V fun r V'=>r=.bool (eP a b):=by
 have h0:=h
 have h0':=h'
 obtain ⟨_,_,_,_,_,_,rfl⟩:=h.shape
 obtain ⟨_,_,_,_,_,_,rfl⟩:=h'.shape
 refine nA _ _ _ _ _ _ _ _ _ _ _ _ V _ fun V1 l1=>(bH (h0.le l1) (h0'.le l1)).mono ?_
 rintro r V2 l2 rfl
 refine ⟨_,rfl,fun V3 l3=>?_⟩
 unfold eP aw.eP dg
 congr 1
theorem FV {V:View}{v:Value}{p:Rat×Rat}(h:lx V v p.1 p.2){k:Nat}(s1:Sz k p.1)(s2:Sz k p.2)(hk:k<=1099511627776) :
  ab prog 156 #[v] V fun r V'=>lx V' r (-p.1) (-p.2):=by
 obtain ⟨x1,x2,q,y1,y2,q',rfl,hx,hy⟩:=h
 refine wV x1 x2 q y1 y2 q' V _ fun V1 l1=>(oW (hx.le l1) s1 hk).mono ?_
 rintro r V2 l2 g
 have g0:=g
 obtain ⟨a,b,c,rfl⟩:=g.shape
 refine ⟨_,_,_,rfl,fun V3 l3=>(oW (hy.le (l1.trans (l2.trans l3))) s2 hk).mono ?_⟩
 rintro r V4 l4 g'
 have g0':=g'
 obtain ⟨a',b',c',rfl⟩:=g'.shape
 exact ⟨_,_,_,rfl,fun V5 l5=>⟨_,_,_,_,_,_,rfl,g0.le (l3.trans (l4.trans l5)),g0'.le l5⟩⟩
def jn (p:Rat×Rat):Rat×Rat:=(p.1*(gH p.1 p.2)⁻¹,p.2*(gH p.1 p.2)⁻¹)
theorem tS {V:View}{v:Value}{p:Rat×Rat}(h:lx V v p.1 p.2){k:Nat}(s1:Sz k p.1)(s2:Sz k p.2)(hk:8*k+8<274877906944) :
  ab prog 155 #[v] V fun r V'=>lx V' r (jn p).1 (jn p).2:=by
 have h0:=h
 obtain ⟨x1,x2,q,y1,y2,q',rfl,hx,hy⟩:=h
 refine nB x1 x2 q y1 y2 q' V _ fun V1 l1=>(iA (hx.le l1) (hy.le l1) s1 s2 (by omega)).mono ?_
 rintro r V2 l2 g
 have g0:=g
 obtain ⟨a,b,c,rfl⟩:=g.shape
 refine ⟨_,_,_,rfl,fun V3 l3=>(Ij (g0.le l3) (fO s1 s2) (by omega)).mono ?_⟩
 rintro r V4 l4 g'
 have g0':=g'
 obtain ⟨a',b',c',rfl⟩:=g'.shape
 refine ⟨_,_,_,rfl,fun V5 l5=>(tY (h0.le (l1.trans (l2.trans (l3.trans (l4.trans l5))))) (g0'.le l5) (k:=k+k+1) (s1.mono (by omega)) (s2.mono (by omega)) (De (fO s1 s2)) (by omega)).mono ?_⟩
 rintro r V6 l6 gs
 have gs0:=gs
 obtain ⟨_,_,_,_,_,_,rfl,-⟩:=gs
 exact ⟨_,_,_,_,_,_,rfl,fun V7 l7=>gs0.le l7⟩
theorem GR.J9 {α:Type}{sz:Nat}{R:View->Value->α->Prop}{V:View}{n c:Nat}{vs:List Value}{l:List α}(h:GR sz R V n c vs l){xs ys:List Value}{a b:α}(hx:xs.length=sz)(hy:ys.length=sz)(ha:R V (.agg xs.toArray) a)(hb:R V (.agg ys.toArray) b)(h0:0<sz){sp:List Value}{c':Nat}(h1:n+2<=c')(h2:c'*sz<=(n+2)*sz+sp.length) :
  GR sz R V (n+2) c' (vs.take (n*sz)++(xs++ys)++sp) (l++[a,b]):=by
 have hl:=h.row.eY h0
 have hn:=h.len
 have hc:=h.cap
 have hm:n*sz<=c*sz:=Nat.mul_le_mul_right _ h.le
 have r1:=h.row.snoc (sp:=ys++sp) hx ha h0
 have r2:=r1.snoc (sp:=sp) hy hb h0
 have ht:(vs.take (l.length*sz)).length=l.length*sz:=by rw [List.length_take];omega
 have e:(vs.take (l.length*sz)++xs++(ys++sp)).take ((l++[a]).length*sz)=vs.take (l.length*sz)++xs:=by
  have:(vs.take (l.length*sz)++xs).length=(l++[a]).length*sz:=by
   rw [List.length_append,ht,hx,List.length_append,Nat.add_mul];simp
  rw [←this,List.take_left' rfl]
 rw [e] at r2
 refine ⟨by rw [List.length_append,hn];rfl,h1,?_,?_⟩
 ·rw [←hn] at ht
  simp only [List.length_append,ht,hx,hy]
  rw [Nat.add_mul] at h2
  omega
 ·rw [hn]
  simpa using r2
def CW (p:Rat×Rat):Rat×Rat:=(-p.1,-p.2)
def Jf (l:L3):List (Rat×Rat):=[jn (aw.cj l),CW (jn (aw.cj l))]
def gU (M:List L3):List (Rat×Rat):=M.flatMap Jf
theorem pM (M N:List L3):gU (M++N)=gU M++gU N:=List.flatMap_append ..
theorem HI {p:Rat×Rat}{k:Nat}(s1:Sz k p.1)(s2:Sz k p.2):Sz (3*k+3) (jn p).1/\Sz (3*k+3) (jn p).2:=
 ⟨(Sz.mul s1 (De (fO s1 s2))).mono (by omega),(Sz.mul s2 (De (fO s1 s2))).mono (by omega)⟩
theorem NU {a b:Int}{p:OA}{c d:Int}{q:OA}{e f:Int}{r:OA}{g h:Int}{s:OA}:∀v∈([.int .i64 a,.int .i64 b,.pointer p,.int .i64 c,.int .i64 d,.pointer q,.int .i64 e,.int .i64 f,.pointer r,.int .i64 g,.int .i64 h,.pointer s]:List Value),v.oneCell'=true:=by
 intro v hm
 simp only [List.mem_cons,List.not_mem_nil,or_false] at hm
 rcases hm with rfl|rfl|rfl|rfl|rfl|rfl|rfl|rfl|rfl|rfl|rfl|rfl<;>rfl
theorem Hz {q:Rat}:q.num.sign≥0↔q≥0:=by
 have:=@aw.BE q
 constructor
 ·intro h;by_cases g:q≥0
  ·exact g
  ·have:=this.2 (by grind);omega
 ·intro h;by_cases g:q.num.sign≥0
  ·exact g
  ·have:=this.1 (by omega);grind
theorem HA {q:Rat}:q.num.sign<=0↔q<=0:=by
 have:=@aw.pU q
 constructor
 ·intro h;by_cases g:q<=0
  ·exact g
  ·have:=this.2 (by grind);omega
 ·intro h;by_cases g:q.num.sign<=0
  ·exact g
  ·have:=this.1 (by omega);grind
theorem Cp {pv:Value}{p:Rat×Rat}(s1:Sz 1000000 p.1)(s2:Sz 1000000 p.2):∀(t:Tr) {V:View} {q:OA} {lb n c:Nat} {vs:List Value} {o:List (Rat×Rat)},RT V q t->t.iU Bd->lx V pv p.1 p.2 ->
  (vs≠[]->V.w.heap[lb]?=some (.cells vs.toArray 108 (0,0)))->(vs≠[]->V.X lb)->GR 6 kq V n c vs o->(vs≠[]->0<n)->n+2*t.size<=1000000 ->
  ab prog 101 #[.pointer q,pv,.slice (mA lb c) n c] V fun r V'=>∃(bm:Nat)(vm:List Value)(n' c':Nat),(vm≠[]->V'.w.heap[bm]?=some (.cells vm.toArray 108 (0,0)))/\(vm≠[]->V.w.heap.size<=bm\/(vs≠[]/\bm=lb)) /\
   r=.slice (mA bm c') n' c'/\GR 6 kq (V'.bR (vm≠[]) bm) n' c' vm (o++gU (aw.cO t p))/\(vm≠[]->0<n')/\n'<=n+2*t.size:=by
 intro t
 induction t with
 | leaf i=>
  intro V q lb n c vs o h ha hp hw hx hg hpos hn
  obtain ⟨x1,x2,x3,y1,y2,y3,rfl,-⟩:=hp
  refine nK q x1 x2 x3 y1 y2 y3 lb n c vs V _ hw hx fun V1 l1=>(kz (h.le l1)).mono ?_
  rintro r V2 l2 rfl
  have LW:∀{A B:Prop},A\/B\/False->A\/B:=fun h=>h.imp id fun h=>h.elim id False.elim
  refine ⟨_,rfl,fun hl V3 bk hle e2 e3=>⟨bk,vs,n,c,e2,fun h=>LW (e3 h),rfl,?_,hpos,by omega⟩,fun hl=>by cases hl⟩
  show GR 6 kq _ n c vs (o++[])
  rw [List.append_nil]
  exact hg.mono fun _ _ g=>kq.le g ((l1.trans l2).trans hle)
 | node ln a b iha ihb=>
  intro V q lb n c vs o h ha hp hw hx hg hpos hn
  have hp0:=hp
  obtain ⟨x1,x2,x3,y1,y2,y3,rfl,-⟩:=hp
  refine nK q x1 x2 x3 y1 y2 y3 lb n c vs V _ hw hx fun V1 l1=>(kz (h.le l1)).mono ?_
  rintro r V2 l2 rfl
  have LW:∀{A B:Prop},A\/B\/False->A\/B:=fun h=>h.imp id fun h=>h.elim id False.elim
  refine ⟨_,rfl,(fun hl=>by cases hl),fun _=>?_⟩
  obtain ⟨bb,u1,u2,u3,v1,v2,v3,w1,w2,w3,pl,pr,i,rfl,hb,hln,ha',hbb⟩:=h.le (l1.trans l2)
  obtain ⟨hbd,MH,lF⟩:=ha
  simp only [Tr.size] at hn
  have hat:∀{W:View},V2.Le W->∀j v,([.int .i64 u1,.int .i64 u2,.pointer u3,.int .i64 v1,.int .i64 v2,.pointer v3,.int .i64 w1,.int .i64 w2,.pointer w3,.pointer pl,.pointer pr,.bool i]:List Value)[j]?=some v->W.at ((⟨bb,0,none⟩:Addr).add j) v:=by
   intro W hW j v hv;rw [add_zero'];exact bU (xs:=[_,_,_,_,_,_,_,_,_,_,_,_]) (hW _ _ hb) hv
  have h0:=View.Le.refl V2
  have sl:=hbd.J_
  refine ⟨rfl,rfl,_,_,_,_,_,_,_,_,_,⟨bb,0,none⟩,rfl,hat h0 0 _ rfl,hat h0 1 _ rfl,hat h0 2 _ rfl,hat h0 3 _ rfl,hat h0 4 _ rfl,hat h0 5 _ rfl,hat h0 6 _ rfl,hat h0 7 _ rfl,hat h0 8 _ rfl,fun V4 l4=>(Gt (L:=ln) (hln.le l4) (hp0.le (l1.trans (l2.trans l4))) (k:=1000000) ⟨sl.1.mono (by omega),sl.2.1.mono (by omega),sl.2.2.mono (by omega)⟩ s1 s2 (by omega)).mono ?_⟩
  rintro r V5 l5 rfl
  have jh:=l4.trans l5
  have L5:=l1.trans (l2.trans jh)
  have hg5:GR 6 kq V5 n c vs o:=hg.mono fun _ _ g=>kq.le g L5
  refine ⟨_,rfl,fun z V'=>GR 6 kq V' z.1 z.2.1 z.2.2 (o++gU (if cq ln p.1 p.2=0 then [ln] else []))/\(z.2.2≠[]->0<z.1)/\z.1<=n+2,⟨fun e0=>?_,fun e0=>?_⟩,?_⟩
  ·have e0:cq ln p.1 p.2=0:=aw.d_.1 (by simpa using e0)
   refine ⟨rfl,rfl,_,_,_,_,_,_,_,_,_,⟨bb,0,none⟩,rfl,hat jh 0 _ rfl,hat jh 1 _ rfl,hat jh 2 _ rfl,hat jh 3 _ rfl,hat jh 4 _ rfl,hat jh 5 _ rfl,hat jh 6 _ rfl,hat jh 7 _ rfl,hat jh 8 _ rfl,fun V6 l6=>(yN (hln.le (jh.trans l6)) sl.1 sl.2.1 sl.2.2 (by omega)).mono ?_⟩
   rintro r V7 l7 gd
   have IB:lx V7 r (aw.cj ln).1 (aw.cj ln).2:=gd
   obtain ⟨d1,d2,d3,d4,d5,d6,rfl,-⟩:=gd
   have Tl:Sz 1000 (aw.cj ln).1:=sl.2.1
   have Tn:Sz 1000 (aw.cj ln).2:=sl.1.neg
   refine ⟨_,_,_,_,_,_,rfl,fun V8 l8=>(tS (p:=aw.cj ln) (IB.le l8) Tl Tn (by omega)).mono ?_⟩
   rintro r V9 l9 ge
   have OU:=ge
   obtain ⟨e1,e2,e3,e4,e5,e6,rfl,-⟩:=ge
   obtain ⟨sp1,sp2⟩:=HI Tl Tn
   refine ⟨_,_,_,_,_,_,rfl,fun gQ l10=>(FV (p:=jn (aw.cj ln)) (OU.le l10) sp1 sp2 (by omega)).mono ?_⟩
   rintro r jw bQ gf
   have PX:=gf
   obtain ⟨f1,f2,f3,f4,f5,f6,rfl,-⟩:=gf
   refine ⟨_,_,_,_,_,_,rfl,by omega,hg.le,hg.cap,rfl,NU,fun sp c' g1 g2=>⟨(n+2,c',_),by and_intros<;>rfl,?_,fun _=>Nat.succ_pos _,Nat.le_refl _⟩⟩
   rw [if_pos e0]
   have TB:=l6.trans (l7.trans (l8.trans (l9.trans (l10.trans bQ))))
   exact (hg5.mono fun _ _ g=>kq.le g TB).J9 (xs:=[_,_,_,_,_,_]) (ys:=[_,_,_,_,_,_]) rfl rfl ⟨OU.le (l10.trans bQ),sp1.mono (by omega),sp2.mono (by omega)⟩ ⟨PX,sp1.neg.mono (by omega),sp2.neg.mono (by omega)⟩ (by decide) g1 g2
  ·have e0:¬cq ln p.1 p.2=0:=fun h=>by rw [aw.d_.2 h] at e0;cases e0
   refine ⟨(n,c,vs),by and_intros<;>rfl,?_,hpos,by dsimp only;omega⟩
   rw [if_neg e0]
   show GR 6 kq _ n c vs (o++[])
   rw [List.append_nil]
   exact hg5
  ·rintro ⟨n1,c1,vs1⟩ kv cp ⟨g1,P0,Uw⟩
   dsimp only at g1 P0 Uw ⊢
   have KQ:=jh.trans cp
   refine ⟨rfl,fun z V'=>GR 6 kq V' z.1 z.2.1 z.2.2 (o++gU ((if cq ln p.1 p.2=0 then [ln] else [])++(if cq ln p.1 p.2≥0 then aw.cO a p else [])))/\(z.2.2≠[]->0<z.1)/\z.1<=n+2+2*a.size,⟨fun e1=>?_,fun e1=>?_⟩,?_⟩
   ·have e1:cq ln p.1 p.2≥0:=Hz.1 (of_decide_eq_true e1)
    refine ⟨rfl,rfl,pl,yj (KQ _ _ hb) 9 rfl,fun lA bW bk f1 f2=>?_⟩
    refine (iha (V:=lA.aA [vb vs1 lA.w.heap.size bk]) (lb:=bk) (RT.le (V:=V2) (V':=lA.aA _) (fun b o h=>(KQ.trans bW) b o h) ha') MH (lx.le (V:=V) (V':=lA.aA _) hp0 fun b o h=>(L5.trans (cp.trans bW)) b o h) f1 (fun h=>⟨by simp [vt h],f2 h⟩) (g1.mono (V':=lA.aA _) fun _ _ g=>kq.le g fun b o h=>bW b o h) P0 (by omega)).mono ?_
    rintro r qk dK ⟨bm,vm,n2,c2,a1,a2,rfl,a3,a4,a5⟩
    refine ⟨bm,vm,a1,a2,none,n2,c2,rfl,(n2,c2,vm),by and_intros<;>rfl,?_,a4,by dsimp only;omega⟩
    rw [pM,if_pos e1,←List.append_assoc]
    exact a3.mono fun _ _ g=>kq.le g fun b o h=>h
   ·have e1:¬cq ln p.1 p.2≥0:=fun h=>(of_decide_eq_false e1) (Hz.2 h)
    refine ⟨(n1,c1,vs1),by and_intros<;>rfl,?_,P0,by dsimp only;omega⟩
    rw [if_neg e1,List.append_nil]
    exact g1
   ·rintro ⟨n2,c2,vs2⟩ oM dZ ⟨g2,P1,Ux⟩
    dsimp only at g2 P1 Ux ⊢
    have Ni:=KQ.trans dZ
    refine ⟨rfl,fun e2=>?_,fun e2 xk bk hle k1 k2=>⟨bk,vs2,n2,c2,k1,fun h=>LW (k2 h),rfl,?_,P1,by simp only [Tr.size];omega⟩⟩
    ·have e2:cq ln p.1 p.2<=0:=HA.1 (of_decide_eq_true e2)
     refine ⟨rfl,rfl,pr,yj (Ni _ _ hb) 10 rfl,fun oN c_ bk f1 f2=>?_⟩
     refine (ihb (V:=oN.aA [vb vs2 oN.w.heap.size bk]) (lb:=bk) (RT.le (V:=V2) (V':=oN.aA _) (fun b o h=>(Ni.trans c_) b o h) hbb) lF (lx.le (V:=V) (V':=oN.aA _) hp0 fun b o h=>(L5.trans (cp.trans (dZ.trans c_))) b o h) f1 (fun h=>⟨by simp [vt h],f2 h⟩) (g2.mono (V':=oN.aA _) fun _ _ g=>kq.le g fun b o h=>c_ b o h) P1 (by omega)).mono ?_
     rintro r qi cQ ⟨bm,vm,n3,c3,a1,a2,rfl,a3,a4,a5⟩
     refine ⟨bm,vm,a1,a2,none,n3,c3,rfl,fun tE bk2 hle k1 k2=>⟨bk2,vm,n3,c3,k1,fun h=>LW (k2 h),rfl,?_,a4,by simp only [Tr.size];omega⟩⟩
     simp only [aw.cO]
     rw [if_pos e2,←List.append_assoc,pM,←List.append_assoc]
     exact a3.mono fun _ _ g=>kq.le g fun b o h=>hle b o h
    ·have e2:¬cq ln p.1 p.2<=0:=fun h=>(of_decide_eq_false e2) (HA.2 h)
     simp only [aw.cO]
     rw [if_neg e2,List.append_nil]
     exact g2.mono fun _ _ g=>kq.le g hle
structure iV (V:View) (n:Nat) (vs:List Value) (l:List (Rat×Rat)):Prop where
 row:Row 6 kq V vs l
 len:n=l.length
 mM:l.length<50
theorem iV.le {V V':View}{n:Nat}{vs:List Value}{l:List (Rat×Rat)}(h:iV V n vs l)(e:V.Le V'):iV V' n vs l:=⟨h.row.le fun _ _ g=>kq.le g e,h.len,h.mM⟩
theorem iV.get {V:View}{n:Nat}{vs:List Value}{l:List (Rat×Rat)}(h:iV V n vs l){k:Nat}(hk:k<l.length):∃(x y:Int)(p:OA)(xb yb:Int)(pb:OA),
  ((0+k*6)+6<=vs.length/\(vs.drop (0+k*6)).take 6=[.int .i64 x,.int .i64 y,.pointer p,.int .i64 xb,.int .i64 yb,.pointer pb])/\kq V (.agg #[.int .i64 x,.int .i64 y,.pointer p,.int .i64 xb,.int .i64 yb,.pointer pb]) (l.getD k bj):=by
 obtain ⟨xs,-,h2,h3,h4⟩:=h.row.get (d:=bj) hk (by decide)
 have h20:=h2
 obtain ⟨x,y,p,xb,yb,pb,e⟩:=h2.shape
 have e:=congrArg Array.toList (Value.agg.inj e)
 dsimp only at e
 subst e
 rw [Nat.zero_add]
 exact ⟨x,y,p,xb,yb,pb,⟨h3,h4⟩,h20⟩
theorem iV.swap {V:View}{n:Nat}{vs:List Value}{l:List (Rat×Rat)}(h:iV V n vs l){i j:Nat}(hi:i<l.length)(hj:j<l.length){x y:Int}{p:OA}{xb yb:Int}{pb:OA}{x' y':Int}{p':OA}{Lt Lx:Int}{pb':OA}
  (h1:kq V (.agg #[.int .i64 x,.int .i64 y,.pointer p,.int .i64 xb,.int .i64 yb,.pointer pb]) (l.getD i bj))(h2:kq V (.agg #[.int .i64 x',.int .i64 y',.pointer p',.int .i64 Lt,.int .i64 Lx,.pointer pb']) (l.getD j bj)) :
  (0+i*6)+6<=vs.length/\(0+j*6)+6<=(ae vs (0+i*6) [.int .i64 x',.int .i64 y',.pointer p',.int .i64 Lt,.int .i64 Lx,.pointer pb']).length /\
  iV V n (ae (ae vs (0+i*6) [.int .i64 x',.int .i64 y',.pointer p',.int .i64 Lt,.int .i64 Lx,.pointer pb']) (0+j*6) [.int .i64 x,.int .i64 y,.pointer p,.int .i64 xb,.int .i64 yb,.pointer pb]) (iT bj l i j):=by
 obtain ⟨-,-,-,g1,-⟩:=h.row.get (d:=bj) hi (by decide)
 obtain ⟨-,-,-,g2,-⟩:=h.row.get (d:=bj) hj (by decide)
 rw [Nat.zero_add,Nat.zero_add]
 refine ⟨g1,by rw [jr (by exact g1)];exact g2,h.row.swap hi hj (by decide) rfl rfl h1 h2,by rw [mY];exact h.len,by rw [mY];exact h.mM⟩
def ku (lb n:Nat)(l:List (Rat×Rat))(a b:Nat)(V':View)(Q:List (Rat×Rat)->Prop):Prop:=∃vs' l',V'.w.heap[lb]?=some (.cells vs'.toArray 108 (0,0))/\iV V' n vs' l'/\gP bj l l' a b/\Q l'
theorem jU {V:View}{lb n c:Nat}{vs:List Value}{l:List (Rat×Rat)}(hw:V.w.heap[lb]?=some (.cells vs.toArray 108 (0,0)))(hx:V.X lb)(h:iV V n vs l){a b:Nat}(lF:a<=b)(hb:b<=l.length) :
  ab prog 223 #[.slice (some ⟨lb,0,none⟩) n c,.int .i64 a,.int .i64 b,.func (.func 151) #[] #[]] V fun r V'=>r=.tuple #[]/\ku lb n l a b V' fun l'=>oS dg bj l' a b:=by
 have mM:=h.mM
 have len:=h.len
 have wa:i64.wrap ((a:Int)+1)=((a+1:Nat):Int):=by rw [ar (by omega)];omega
 refine fj lb n c vs a b V _ hw hx ⟨fun z V'=>∃(i:Nat)(m:List (Rat×Rat)),z.1=(i:Int)/\a<i/\(i<=b\/i=a+1)/\iV V' n z.2 m/\gP bj l m a b/\oS dg bj m a i,fun z=>(b-z.1).toNat,
  ⟨(_,vs),by and_intros<;>rfl,a+1,l,wa,by omega,.inr rfl,h,.refl _ _ _,.short (by omega)⟩,?_⟩
 rintro ⟨z,us⟩ V1 l1 ⟨i,m,e,hai,hib,hs,hseg,hasc⟩
 dsimp only at e hs
 subst e
 dsimp only
 have ml:m.length=l.length:=hseg.len
 refine ⟨rfl,fun hlt=>?_,fun hlt V6 l6 M5=>⟨rfl,us,m,M5,hs.le l6,hseg,?_⟩⟩
 ·have hlt:(i:Int)<b:=of_decide_eq_true hlt
  have w2:i64.wrap ((i:Int)+1)=((i+1:Nat):Int):=by rw [ar (by omega)];omega
  rw [w2]
  refine ⟨fun z V'=>∃(j:Nat)(k:List (Rat×Rat)),z.1=(j:Int)/\a<=j/\j<=i/\iV V' n z.2 k/\gP bj l k a b/\H0 dg bj k a i j,fun z=>z.1.toNat,⟨((i:Int),us),by and_intros<;>rfl,i,m,rfl,by omega,Nat.le_refl _,hs,hseg,.start hasc⟩,?_⟩
  rintro ⟨z,ws⟩ V2 l2 ⟨j,k,e,haj,hji,hs,hseg,hins⟩
  dsimp only at e hs
  subst e
  dsimp only
  have kl:k.length=l.length:=hseg.len
  refine ⟨rfl,fun z V'=>V2.Le V'/\(z=true->a<j/\dg (k.getD j bj) (k.getD (j-1) bj)<0)/\(z=false->j<=a\/¬dg (k.getD j bj) (k.getD (j-1) bj)<0),⟨fun hj=>?_,fun hj=>?_⟩,?_⟩
  ·have hj:(j:Int)>a:=of_decide_eq_true hj
   have w1:i64.wrap ((j:Int)-1)=((j-1:Nat):Int):=by rw [ar (by omega)];omega
   rw [w1,Int.toNat_natCast,Int.toNat_natCast]
   obtain ⟨x1,y1,p1,fu,fw,fr,g1,r1⟩:=hs.get (k:=j) (by omega)
   obtain ⟨x2,y2,p2,gv,gz,gj,g2,r2⟩:=hs.get (k:=j-1) (by omega)
   refine ⟨⟨by omega,by omega⟩,x1,y1,p1,fu,fw,fr,g1,⟨by omega,by omega⟩,x2,y2,p2,gv,gz,gj,g2,fun V3 l3=>(bH (r1.le l3) (r2.le l3)).mono ?_⟩
   rintro r V4 l4 rfl
   exact ⟨_,rfl,_,by and_intros<;>rfl,l3.trans l4,fun h=>⟨by omega,of_decide_eq_true h⟩,fun h=>.inr (of_decide_eq_false h)⟩
  ·have hj:¬(j:Int)>a:=of_decide_eq_false hj
   exact ⟨false,by and_intros<;>rfl,View.Le.refl _,(fun h=>nomatch h),fun _=>.inl (by omega)⟩
  ·rintro t V5 l5 ⟨lv,t1,t2⟩
   refine ⟨rfl,fun ht=>?_,fun ht=>⟨(((i+1:Nat):Int),ws),by dsimp only;omega,by and_intros<;>rfl,i+1,k,rfl,by omega,.inl (by omega),hs.le l5,hseg,hins.done fq hji (t2 ht)⟩⟩
   obtain ⟨hj,hlt2⟩:=t1 ht
   have w1:i64.wrap ((j:Int)-1)=((j-1:Nat):Int):=by rw [ar (by omega)];omega
   rw [w1,Int.toNat_natCast,Int.toNat_natCast]
   obtain ⟨x1,y1,p1,fu,fw,fr,g1,r1⟩:=(hs.le l5).get (k:=j) (by omega)
   obtain ⟨x2,y2,p2,gv,gz,gj,g2,r2⟩:=(hs.le l5).get (k:=j-1) (by omega)
   obtain ⟨s1,s2,s3⟩:=(hs.le l5).swap (i:=j) (j:=j-1) (by omega) (by omega) r1 r2
   exact ⟨⟨by omega,by omega⟩,x2,y2,p2,gv,gz,gj,g2,⟨by omega,by omega⟩,x1,y1,p1,fu,fw,fr,g1,⟨by omega,by omega⟩,s1,⟨by omega,by omega⟩,s2,(((j-1:Nat):Int),_),by dsimp only;omega,by and_intros<;>rfl,j-1,_,rfl,by omega,by omega,s3,
    hseg.trans (gP.iT (by omega) (by omega) (by omega) (by omega) (by omega)),hins.move fq hj hji (by omega) hlt2⟩
 ·have hlt:¬(i:Int)<b:=of_decide_eq_false hlt
  rcases hib with hib|hib
  ·rw [show b=i by omega];exact hasc
  ·exact .short (by omega)
theorem r_ {V:View}{lb n c:Nat}{vs:List Value}{l:List (Rat×Rat)}(hw:V.w.heap[lb]?=some (.cells vs.toArray 108 (0,0)))(hx:V.X lb)(h:iV V n vs l){a b:Nat}(lF:a<b)(hb:b<=l.length) :
  ab prog 227 #[.slice (some ⟨lb,0,none⟩) n c,.int .i64 a,.int .i64 b,.func (.func 151) #[] #[]] V fun r V'=>r=.tuple #[]/\ku lb n l a b V' fun _=>True:=by
 have mM:=h.mM
 have len:=h.len
 have wb:i64.wrap ((b:Int)-1)=((b-1:Nat):Int):=by rw [ar (by omega)];omega
 refine fo lb n c vs a b V _ hw hx ⟨fun z V'=>∃(i j:Nat)(m:List (Rat×Rat)),z.1=(i:Int)/\z.2.1=(j:Int)/\a<=i/\j<b/\i<=b/\iV V' n z.2.2 m/\gP bj l m a b,fun z=>(z.2.1-z.1).toNat,
  ⟨((a:Int),((b-1:Nat):Int),vs),by and_intros<;>first|rfl|exact wb,a,b-1,l,rfl,rfl,by omega,by omega,by omega,h,.refl _ _ _⟩,?_⟩
 rintro ⟨z,z',us⟩ V1 l1 ⟨i,j,m,e,e',hi,hj,hib,hs,hseg⟩
 dsimp only at e e' hs
 subst e e'
 dsimp only
 have ml:m.length=l.length:=hseg.len
 refine ⟨rfl,fun hlt=>?_,fun hlt V2 l2 hw2=>⟨rfl,us,m,hw2,hs.le l2,hseg,trivial⟩⟩
 have hlt:(i:Int)<j:=of_decide_eq_true hlt
 have w1:i64.wrap ((i:Int)+1)=((i+1:Nat):Int):=by rw [ar (by omega)];omega
 have w2:i64.wrap ((j:Int)-1)=((j-1:Nat):Int):=by rw [ar (by omega)];omega
 rw [w1,w2,Int.toNat_natCast,Int.toNat_natCast]
 obtain ⟨x1,y1,p1,fu,fw,fr,g1,r1⟩:=hs.get (k:=i) (by omega)
 obtain ⟨x2,y2,p2,gv,gz,gj,g2,r2⟩:=hs.get (k:=j) (by omega)
 obtain ⟨s1,s2,s3⟩:=hs.swap (i:=i) (j:=j) (by omega) (by omega) r1 r2
 exact ⟨⟨by omega,by omega⟩,x2,y2,p2,gv,gz,gj,g2,⟨by omega,by omega⟩,x1,y1,p1,fu,fw,fr,g1,⟨by omega,by omega⟩,s1,⟨by omega,by omega⟩,s2,(((i+1:Nat):Int),((j-1:Nat):Int),_),by dsimp only;omega,by and_intros<;>rfl,i+1,j-1,_,rfl,rfl,by omega,by omega,by omega,s3,
  hseg.trans (gP.iT (by omega) (by omega) (by omega) (by omega) (by omega))⟩
theorem rz {V:View}{lb n c:Nat}{vs:List Value}{l:List (Rat×Rat)}(hw:V.w.heap[lb]?=some (.cells vs.toArray 108 (0,0)))(hx:V.X lb)(h:iV V n vs l){f lo hi:Nat}(hb:f+hi<=l.length)(hlo:lo<50)(hp:Hp dg bj l f lo hi (some lo)) :
  ab prog 245 #[.slice (some ⟨lb,0,none⟩) n c,.int .i64 lo,.int .i64 hi,.int .i64 f,.func (.func 151) #[] #[]] V fun r V'=>r=.tuple #[]/\ku lb n l f (f+hi) V' fun l'=>Hp dg bj l' f lo hi none:=by
 have mM:=h.mM
 have len:=h.len
 refine ib lb n c vs lo hi f V _ hw hx ⟨fun z V'=>∃(r:Nat)(m:List (Rat×Rat)),z.1=(r:Int)/\lo<=r/\r<50/\iV V' n z.2 m/\gP bj l m f (f+hi)/\Hp dg bj m f lo hi (some r),fun z=>(hi-z.1).toNat,
  ⟨((lo:Int),vs),by and_intros<;>rfl,lo,l,rfl,Nat.le_refl _,hlo,h,.refl _ _ _,hp⟩,?_⟩
 rintro ⟨z,us⟩ V1 l1 ⟨r,m,e,hr,hr',hs,hseg,hm⟩
 dsimp only at e hs
 subst e
 dsimp only
 have ml:m.length=l.length:=hseg.len
 have w0:i64.wrap (i64.wrap ((2:Int)*(r:Int))+1)=((2*r+1:Nat):Int):=by rw [ar (x:=(2:Int)*(r:Int)) (by omega),ar (by omega)];omega
 have w1:i64.wrap (((2*r+1:Nat):Int)+1)=((2*r+2:Nat):Int):=by rw [ar (by omega)];omega
 have w2:i64.wrap ((f:Int)+((2*r+1:Nat):Int))=((f+(2*r+1):Nat):Int):=by rw [ar (by omega)];omega
 have w3:i64.wrap (((f+(2*r+1):Nat):Int)+1)=((f+(2*r+2):Nat):Int):=by rw [ar (by omega)];omega
 have w4:i64.wrap ((f:Int)+(r:Int))=((f+r:Nat):Int):=by rw [ar (by omega)];omega
 rw [w0,w1,w2,w3,w4,Int.toNat_natCast,Int.toNat_natCast,Int.toNat_natCast]
 refine ⟨rfl,fun hlt V2 l2 hw2=>⟨rfl,us,m,hw2,hs.le l2,hseg,hm.leaf (by have:=of_decide_eq_true hlt;omega)⟩,fun hlt=>?_⟩
 have hlt:¬((2*r+1:Nat):Int)≥hi:=of_decide_eq_false hlt
 refine ⟨fun z V'=>V1.Le V'/\(z=true->2*r+2<hi/\dg (m.getD (f+(2*r+1)) bj) (m.getD (f+(2*r+2)) bj)<0)/\(z=false->2*r+2<hi->¬dg (m.getD (f+(2*r+1)) bj) (m.getD (f+(2*r+2)) bj)<0),⟨fun hj=>?_,fun hj=>?_⟩,?_⟩
 ·have hj:((2*r+2:Nat):Int)<hi:=of_decide_eq_true hj
  obtain ⟨x1,y1,p1,fu,fw,fr,g1,r1⟩:=hs.get (k:=f+(2*r+1)) (by omega)
  obtain ⟨x2,y2,p2,gv,gz,gj,g2,r2⟩:=hs.get (k:=f+(2*r+2)) (by omega)
  refine ⟨⟨by omega,by omega⟩,x1,y1,p1,fu,fw,fr,g1,⟨by omega,by omega⟩,x2,y2,p2,gv,gz,gj,g2,fun V3 l3=>(bH (r1.le l3) (r2.le l3)).mono ?_⟩
  rintro q V4 l4 rfl
  exact ⟨_,rfl,_,by and_intros<;>rfl,l3.trans l4,fun h=>⟨by omega,of_decide_eq_true h⟩,fun h _=>of_decide_eq_false h⟩
 ·have hj:¬((2*r+2:Nat):Int)<hi:=of_decide_eq_false hj
  exact ⟨false,by and_intros<;>rfl,View.Le.refl _,(fun h=>nomatch h),fun _ h=>absurd h (by omega)⟩
 rintro t V5 l5 ⟨-,t1,t2⟩
 refine ⟨rfl,fun z V'=>V5.Le V'/\∃k:Nat,z=(k:Int)/\(k=2*r+1\/k=2*r+2)/\k<hi/\∀k',(k'=2*r+1\/k'=2*r+2)->k'<hi->¬dg (m.getD (f+k) bj) (m.getD (f+k') bj)<0,⟨fun ht=>?_,fun ht=>?_⟩,?_⟩
 ·obtain ⟨h1,h2⟩:=t1 ht
  refine ⟨_,by and_intros<;>rfl,View.Le.refl _,2*r+2,rfl,.inr rfl,h1,fun k' hk _=>?_⟩
  rcases hk with rfl|rfl
  ·exact fq.H8 _ _ h2
  ·exact fq.refl _
 ·refine ⟨_,by and_intros<;>rfl,View.Le.refl _,2*r+1,rfl,.inl rfl,by omega,fun k' hk hk'=>?_⟩
  rcases hk with rfl|rfl
  ·exact fq.refl _
  ·exact t2 ht hk'
 rintro z V6 l6 ⟨-,k,rfl,hk,hkh,hmax⟩
 have w5:i64.wrap ((f:Int)+(k:Int))=((f+k:Nat):Int):=by rw [ar (by omega)];omega
 rw [w5,Int.toNat_natCast]
 have hs6:=hs.le (l5.trans l6)
 obtain ⟨x1,y1,p1,fu,fw,fr,g1,r1⟩:=hs6.get (k:=f+r) (by omega)
 obtain ⟨x2,y2,p2,gv,gz,gj,g2,r2⟩:=hs6.get (k:=f+k) (by omega)
 refine ⟨rfl,⟨by omega,by omega⟩,x1,y1,p1,fu,fw,fr,g1,⟨by omega,by omega⟩,x2,y2,p2,gv,gz,gj,g2,fun V7 l7=>(bH (r1.le l7) (r2.le l7)).mono ?_⟩
 rintro q V8 l8 rfl
 refine ⟨_,rfl,fun hc V9 l9 Qy=>⟨rfl,us,m,Qy,hs6.le (l7.trans (l8.trans l9)),hseg,?_⟩,fun hc=>?_⟩
 ·rw [Bool.not_eq_true'] at hc
  exact hm.stop fq hk hmax (of_decide_eq_false hc)
 ·rw [Bool.not_eq_false'] at hc
  have hc:=of_decide_eq_true hc
  obtain ⟨s1,s2,s3⟩:=(hs6.le (l7.trans l8)).swap (i:=f+r) (j:=f+k) (by omega) (by omega) (r1.le (l7.trans l8)) (r2.le (l7.trans l8))
  exact ⟨⟨by omega,by omega⟩,x2,y2,p2,gv,gz,gj,g2,⟨by omega,by omega⟩,x1,y1,p1,fu,fw,fr,g1,⟨by omega,by omega⟩,s1,⟨by omega,by omega⟩,s2,((k:Int),_),by dsimp only;omega,by and_intros<;>rfl,k,_,rfl,by omega,by omega,s3,
   hseg.trans (gP.iT (by omega) (by omega) (by omega) (by omega) (by omega)),hm.down fq hr (by omega) hk hkh hmax hc⟩
theorem qv {V:View}{lb n c:Nat}{vs:List Value}{l:List (Rat×Rat)}(hw:V.w.heap[lb]?=some (.cells vs.toArray 108 (0,0)))(hx:V.X lb)(h:iV V n vs l){a b:Nat}(lF:a+8<=b)(hb:b<=l.length) :
  ab prog 225 #[.slice (some ⟨lb,0,none⟩) n c,.int .i64 a,.int .i64 b,.func (.func 151) #[] #[]] V fun r V'=>r=.tuple #[]/\ku lb n l a b V' fun _=>True:=by
 have mM:=h.mM
 have len:=h.len
 have w0:i64.wrap ((b:Int)-a)=((b-a:Nat):Int):=by rw [ar (by omega)];omega
 have wq:i64.wrap (((b-a:Nat):Int).tdiv 4)=(((b-a) / 4:Nat):Int):=by rw [show ((b-a:Nat):Int).tdiv 4=(((b-a) / 4:Nat):Int) from rfl,ar (by omega)]
 have w2:i64.wrap ((((b-a) / 4:Nat):Int)*2)=(((b-a) / 4*2:Nat):Int):=by rw [ar (by omega)];omega
 have w3:i64.wrap ((a:Int)+(((b-a) / 4*2:Nat):Int))=((a+(b-a) / 4*2:Nat):Int):=by rw [ar (by omega)];omega
 have w4:i64.wrap (((a+(b-a) / 4*2:Nat):Int)-1)=((a+(b-a) / 4*2-1:Nat):Int):=by rw [ar (by omega)];omega
 have w5:i64.wrap (((a+(b-a) / 4*2:Nat):Int)+1)=((a+(b-a) / 4*2+1:Nat):Int):=by rw [ar (by omega)];omega
 refine fh lb n c vs a b V _ hw hx ?_
 rw [w0,wq,w2,w3,w4,w5]
 generalize hq:(b-a) / 4*2=q
 have hq1:4<=q:=by omega
 have hq2:a+q+1<b:=by omega
 refine ⟨fun _ V1 l1=>(qw (b-a) (by omega) (by omega)).mono ?_,fun h8=>absurd (of_decide_eq_false h8) (by omega)⟩
 rintro r V2 l2 ⟨m,rfl,m1,m2⟩
 refine ⟨_,rfl,by decide,fun z V'=>∃(i:Nat)(k:List (Rat×Rat)),z.1=(i:Int)/\a+q-1<=i/\iV V' n z.2.2 k/\gP bj l k a b,fun z=>((a+q+2:Nat)-z.1).toNat,⟨(((a+q-1:Nat):Int),_,vs),by and_intros<;>rfl,a+q-1,l,rfl,Nat.le_refl _,h.le (l1.trans l2),.refl _ _ _⟩,?_⟩
 rintro ⟨z,sd,us⟩ V3 l3 ⟨i,k,e,hi,hs,hseg⟩
 dsimp only at e hs
 subst e
 dsimp only
 have kl:k.length=l.length:=hseg.len
 refine ⟨rfl,by decide,fun hlt V4 l4 bk e4 h4=>(Cx (V:=V4.aA [bk]) e4 ⟨by simp,h4⟩).mono ?_,fun hlt V6 l6 M5=>⟨rfl,us,k,M5,hs.le l6,hseg,trivial⟩⟩
 have hlt:(i:Int)<=((a+q+1:Nat):Int):=of_decide_eq_true hlt
 rintro r V5 l5 ⟨y,rfl,e5⟩
 have wm:u64.wrap ((m:Int)-1)=((m-1:Nat):Int):=by rw [aM (by omega)];omega
 rw [wm]
 obtain ⟨g1,g2⟩:=Kj (x:=y) (m:=((m-1:Nat):Int)) (by omega) (by omega)
 generalize hv:aR .and .u64 y ((m-1:Nat):Int)=v at *
 have wv:i64.wrap v=v:=ar (by omega)
 have w6:i64.wrap ((i:Int)+1)=((i+1:Nat):Int):=by rw [ar (by omega)];omega
 have hs5:iV V5.shut n us k:=hs.le fun b o h=>l5 b o (l4 b o h)
 obtain ⟨o,ho,LR⟩:∃o:Nat,(o:Int)=(if v≥((b-a:Nat):Int) then v-((b-a:Nat):Int) else v)/\o<b-a:=by
  split
  ·exact ⟨(v-((b-a:Nat):Int)).toNat,by omega,by omega⟩
  ·exact ⟨v.toNat,by omega,by omega⟩
 refine ⟨y,rfl,y,e5,?_⟩
 rw [hv,wv,w6]
 refine ⟨fun z V'=>z=(o:Int)/\V5.shut.Le V',⟨fun hg=>?_,fun hg=>?_⟩,?_⟩
 ·have hg:=of_decide_eq_true hg
  rw [if_pos hg] at ho
  exact ⟨_,by and_intros<;>first|rfl|exact (ar (by omega)),ho.symm,View.Le.refl _⟩
 ·have hg:=of_decide_eq_false hg
  rw [if_neg hg] at ho
  exact ⟨_,by and_intros<;>rfl,ho.symm,View.Le.refl _⟩
 rintro z V7 l7 ⟨rfl,-⟩
 have wo:i64.wrap ((a:Int)+(o:Int))=((a+o:Nat):Int):=by rw [ar (by omega)];omega
 rw [wo,Int.toNat_natCast,Int.toNat_natCast]
 have hs7:=hs5.le l7
 obtain ⟨x1,y1,p1,fu,fw,fr,g1,r1⟩:=hs7.get (k:=i) (by omega)
 obtain ⟨x2,y2,p2,gv,gz,gj,g2,r2⟩:=hs7.get (k:=a+o) (by omega)
 obtain ⟨s1,s2,s3⟩:=hs7.swap (i:=i) (j:=a+o) (by omega) (by omega) r1 r2
 exact ⟨rfl,⟨by omega,by omega⟩,x2,y2,p2,gv,gz,gj,g2,⟨by omega,by omega⟩,x1,y1,p1,fu,fw,fr,g1,⟨by omega,by omega⟩,s1,⟨by omega,by omega⟩,s2,(((i+1:Nat):Int),y,_),by dsimp only;omega,by and_intros<;>rfl,i+1,_,rfl,by omega,s3,
  hseg.trans (gP.iT (by omega) (by omega) (by omega) (by omega) (by omega))⟩
theorem AG {V:View}{lb n c:Nat}{vs:List Value}{l:List (Rat×Rat)}(hw:V.w.heap[lb]?=some (.cells vs.toArray 108 (0,0)))(hx:V.X lb)(h:iV V n vs l){a b:Nat}(lF:a<b)(hb:b<=l.length) :
  ab prog 224 #[.slice (some ⟨lb,0,none⟩) n c,.int .i64 a,.int .i64 b,.func (.func 151) #[] #[]] V fun r V'=>r=.tuple #[]/\ku lb n l a b V' fun l'=>oS dg bj l' a b:=by
 have mM:=h.mM
 have len:=h.len
 obtain ⟨N,hN⟩:∃N,N=b-a:=⟨_,rfl⟩
 have w0:i64.wrap ((b:Int)-a)=(N:Int):=by rw [ar (by omega)];omega
 have w1:i64.wrap ((N:Int)-1)=((N-1:Nat):Int):=by rw [ar (by omega)];omega
 have w2:i64.wrap (((N-1:Nat):Int).tdiv 2)=(((N-1) / 2:Nat):Int):=by rw [show ((N-1:Nat):Int).tdiv 2=(((N-1) / 2:Nat):Int) from rfl,ar (by omega)]
 have eb:a+N=b:=by omega
 refine ia lb n c vs a b V _ hw hx ?_
 rw [w0,w1,w2]
 refine ⟨by decide,fun z V'=>∃(i:Nat)(m:List (Rat×Rat)),z.1=(i:Int)-1/\i<=N/\iV V' n z.2 m/\gP bj l m a b/\Hp dg bj m a i N none,fun z=>(z.1+1).toNat,⟨((((N-1) / 2:Nat):Int),vs),by and_intros<;>rfl,(N-1) / 2+1,l,by dsimp only;omega,by omega,h,.refl _ _ _,⟨fun i k h1 h2 h3 _=>by omega,fun i j k e=>by cases e⟩⟩,?_⟩
 rintro ⟨z,us⟩ V1 l1 ⟨i,m,e,hi,hs,hseg,hp⟩
 dsimp only at e hs
 subst e
 dsimp only
 have ml:m.length=l.length:=hseg.len
 refine ⟨rfl,fun h0 V2 l2 bk e2 h2=>?_,fun h0=>?_⟩
 ·have h0:(i:Int)-1≥0:=of_decide_eq_true h0
  obtain ⟨j,rfl⟩:∃j,i=j+1:=⟨i-1,by omega⟩
  have ej:((j+1:Nat):Int)-1=(j:Int):=by omega
  have w3:i64.wrap ((j:Int)-1)=(j:Int)-1:=ar (by omega)
  rw [ej]
  refine (rz (V:=V2.aA [bk]) e2 ⟨by simp,h2⟩ (hs.le l2) (f:=a) (lo:=j) (hi:=N) (by omega) (by omega) hp.more).mono ?_
  rintro r V3 l3 ⟨rfl,ws,m',e3,hs3,MU,hp3⟩
  exact ⟨rfl,ws,e3,((j:Int)-1,ws),by dsimp only;omega,by and_intros<;>first|rfl|exact w3,j,m',rfl,by omega,hs3.le (f_ _),hseg.trans (MU.wide (Nat.le_refl _) (by omega)),hp3⟩
 ·have h0:¬(i:Int)-1≥0:=of_decide_eq_false h0
  obtain rfl:i=0:=by omega
  refine ⟨fun z V'=>∃(i:Nat)(m:List (Rat×Rat)),z.1=(i:Int)-1/\i<=N/\iV V' n z.2 m/\gP bj l m a b/\HQ dg bj m a i N,fun z=>(z.1+1).toNat,⟨(((N-1:Nat):Int),us),by and_intros<;>rfl,N,m,by dsimp only;omega,Nat.le_refl _,hs,hseg,.start hp⟩,?_⟩
  rintro ⟨z,us⟩ V4 l4 ⟨i,m,e,hi,hs,hseg,hq⟩
  dsimp only at e hs
  subst e
  dsimp only
  have ml:m.length=l.length:=hseg.len
  refine ⟨rfl,fun h0=>?_,fun h0 V7 l7 hw7=>⟨rfl,us,m,hw7,hs.le l7,hseg,?_⟩⟩
  ·have h0:(i:Int)-1≥0:=of_decide_eq_true h0
   obtain ⟨j,rfl⟩:∃j,i=j+1:=⟨i-1,by omega⟩
   have ej:((j+1:Nat):Int)-1=(j:Int):=by omega
   have w3:i64.wrap ((j:Int)-1)=(j:Int)-1:=ar (by omega)
   have w4:i64.wrap ((a:Int)+(j:Int))=((a+j:Nat):Int):=by rw [ar (by omega)];omega
   rw [ej,w4,Int.toNat_natCast,Int.toNat_natCast]
   obtain ⟨x1,y1,p1,fu,fw,fr,g1,r1⟩:=hs.get (k:=a) (by omega)
   obtain ⟨x2,y2,p2,gv,gz,gj,g2,r2⟩:=hs.get (k:=a+j) (by omega)
   obtain ⟨s1,s2,s3⟩:=hs.swap (i:=a) (j:=a+j) (by omega) (by omega) r1 r2
   refine ⟨⟨by omega,by omega⟩,x2,y2,p2,gv,gz,gj,g2,⟨by omega,by omega⟩,x1,y1,p1,fu,fw,fr,g1,⟨by omega,by omega⟩,s1,⟨by omega,by omega⟩,s2,fun V5 l5 bk e5 h5=>?_⟩
   have sl:(iT bj m a (a+j)).length=l.length:=by rw [mY];exact ml
   refine (rz (V:=V5.aA [bk]) e5 ⟨by simp,h5⟩ (s3.le l5) (f:=a) (lo:=0) (hi:=j) (by omega) (by omega) (hq.hp.pop (by omega))).mono ?_
   rintro r V6 l6 ⟨rfl,ws,m',e6,hs6,JR,UW⟩
   exact ⟨rfl,ws,e6,((j:Int)-1,ws),by dsimp only;omega,by and_intros<;>first|rfl|exact w3,j,m',rfl,by omega,hs6.le (f_ _),hseg.trans ((gP.iT (by omega) (by omega) (by omega) (by omega) (by omega)).trans (JR.wide (Nat.le_refl _) (by omega))),hq.step fq (by omega) (by omega) JR UW⟩
  ·have h0:¬(i:Int)-1≥0:=of_decide_eq_false h0
   obtain rfl:i=0:=by omega
   have:=hq.fin
   rwa [eb] at this
theorem qB {V:View}{lb n c:Nat}{vs:List Value}{l:List (Rat×Rat)}(hw:V.w.heap[lb]?=some (.cells vs.toArray 108 (0,0)))(hx:V.X lb)(h:iV V n vs l){wb:Nat}{k:Int}(hw':V.w.heap[wb]?=some (.cells #[.int .i64 k] 3 (0,0)))(hx':V.X wb)(hne:lb≠wb){a b:Nat}(ha:a<l.length)(hb:b<l.length) :
  ab prog 252 #[.slice (some ⟨lb,0,none⟩) n c,.int .i64 a,.int .i64 b,.pointer (some ⟨wb,0,none⟩),.func (.func 151) #[] #[]] V fun r V'=>∃(x y:Nat)(k':Int),r=.tuple #[.int .i64 x,.int .i64 y]/\((x=a/\y=b)\/(x=b/\y=a)) /\
   V'.w.heap[lb]?=some (.cells vs.toArray 108 (0,0))/\V'.w.heap[wb]?=some (.cells #[.int .i64 k'] 3 (0,0)):=by
 have len:=h.len
 obtain ⟨x1,y1,p1,fu,fw,fr,g1,r1⟩:=h.get (k:=a) ha
 obtain ⟨x2,y2,p2,gv,gz,gj,g2,r2⟩:=h.get (k:=b) hb
 refine iZ lb n c vs a b wb k V _ hw hx hw' hx' hne ⟨⟨by omega,by omega⟩,x2,y2,p2,gv,gz,gj,by rw [Int.toNat_natCast];exact g2,⟨by omega,by omega⟩,x1,y1,p1,fu,fw,fr,by rw [Int.toNat_natCast];exact g1,fun V1 l1=>(bH (r2.le l1) (r1.le l1)).mono ?_⟩
 rintro r V2 l2 rfl
 exact ⟨_,rfl,fun _ V3 l3 e1 e2=>⟨b,a,_,rfl,.inr ⟨rfl,rfl⟩,e1,e2⟩,fun _ V4 l4 e1 e2=>⟨a,b,_,rfl,.inl ⟨rfl,rfl⟩,e1,e2⟩⟩
theorem Es {V:View}{lb n c:Nat}{vs:List Value}{l:List (Rat×Rat)}(hw:V.w.heap[lb]?=some (.cells vs.toArray 108 (0,0)))(hx:V.X lb)(h:iV V n vs l){wb:Nat}{k:Int}(hw':V.w.heap[wb]?=some (.cells #[.int .i64 k] 3 (0,0)))(hx':V.X wb)(hne:lb≠wb){a b d:Nat}(ha:a<l.length)(hb:b<l.length)(hd:d<l.length) :
  ab prog 247 #[.slice (some ⟨lb,0,none⟩) n c,.int .i64 a,.int .i64 b,.int .i64 d,.pointer (some ⟨wb,0,none⟩),.func (.func 151) #[] #[]] V fun r V'=>∃(x:Nat)(k':Int),r=.int .i64 x/\(x=a\/x=b\/x=d) /\
   V'.w.heap[lb]?=some (.cells vs.toArray 108 (0,0))/\V'.w.heap[wb]?=some (.cells #[.int .i64 k'] 3 (0,0)):=by
 have lX:∀(U:View)(u v:Nat),U.H u->U.H v->(U.aA [u,v]).X u/\(U.aA [u,v]).X v:=fun U u v hu hv=>⟨⟨by simp,hu⟩,⟨by simp,hv⟩⟩
 refine iY lb n c vs a b d wb k V _ hw hx hw' hx' hne fun V1 l1 u1 v1 e1 f1 PN Kv n1=>(qB (V:=V1.aA [u1,v1]) e1 (lX _ _ _ f1 Kv).1 (h.le l1) PN (lX _ _ _ f1 Kv).2 n1 ha hb).mono ?_
 rintro r V2 l2 ⟨x2,y2,k2,rfl,o2,e2,e2'⟩
 have L2:V.Le V2:=fun b o h=>l2 b o (l1 b o h)
 refine ⟨_,_,rfl,vs,e2,_,e2',fun V3 l3 u3 v3 e3 f3 e3' f3' n3=>(qB (V:=V3.aA [u3,v3]) e3 (lX _ _ _ f3 f3').1 (h.le fun b o h=>l3 b o (L2 b o h)) e3' (lX _ _ _ f3 f3').2 n3 (a:=y2) (by omega) hd).mono ?_⟩
 rintro r V4 l4 ⟨x4,y4,k4,rfl,o4,e4,e4'⟩
 refine ⟨_,_,rfl,vs,e4,_,e4',fun V5 l5 u5 v5 e5 f5 e5' SC n5=>(qB (V:=V5.aA [u5,v5]) e5 (lX _ _ _ f5 SC).1 (h.le fun b o h=>l5 b o (l4 b o (l3 b o (L2 b o h)))) e5' (lX _ _ _ f5 SC).2 n5 (a:=x2) (b:=x4) (by omega) (by omega)).mono ?_⟩
 rintro r V6 l6 ⟨x6,y6,k6,rfl,o6,e6,Uj⟩
 exact ⟨_,_,rfl,vs,e6,_,Uj,fun V7 l7 e7 Uk=>⟨y6,k6,rfl,by omega,e7,Uk⟩⟩
theorem tU {V:View}{lb n c:Nat}{vs:List Value}{l:List (Rat×Rat)}(hw:V.w.heap[lb]?=some (.cells vs.toArray 108 (0,0)))(hx:V.X lb)(h:iV V n vs l){a b:Nat}(lF:a+8<=b)(hb:b<=l.length) :
  ab prog 226 #[.slice (some ⟨lb,0,none⟩) n c,.int .i64 a,.int .i64 b,.func (.func 151) #[] #[]] V fun r V'=>∃(x:Nat)(t:Int),r=.tuple #[.int .i64 x,.int .i64 t]/\a<=x/\x<b /\
   V'.w.heap[lb]?=some (.cells vs.toArray 108 (0,0)):=by
 have mM:=h.mM
 have lX:∀(U:View)(u v:Nat),U.H u->U.H v->(U.aA [u,v]).X u/\(U.aA [u,v]).X v:=fun U u v hu hv=>⟨⟨by simp,hu⟩,⟨by simp,hv⟩⟩
 obtain ⟨q,hq⟩:∃q,q=(b-a) / 4:=⟨_,rfl⟩
 have w0:i64.wrap ((b:Int)-a)=((b-a:Nat):Int):=by rw [ar (by omega)];omega
 have wq:i64.wrap (((b-a:Nat):Int).tdiv 4)=(q:Int):=by rw [show ((b-a:Nat):Int).tdiv 4=(((b-a) / 4:Nat):Int) from rfl,ar (by omega)];omega
 have v1:i64.wrap ((q:Int)*1)=(q:Int):=by rw [ar (by omega)];omega
 have v2:i64.wrap ((q:Int)*2)=((2*q:Nat):Int):=by rw [ar (by omega)];omega
 have v3:i64.wrap ((q:Int)*3)=((3*q:Nat):Int):=by rw [ar (by omega)];omega
 have w1:i64.wrap ((a:Int)+(q:Int))=((a+q:Nat):Int):=by rw [ar (by omega)];omega
 have w2:i64.wrap ((a:Int)+((2*q:Nat):Int))=((a+2*q:Nat):Int):=by rw [ar (by omega)];omega
 have w3:i64.wrap ((a:Int)+((3*q:Nat):Int))=((a+3*q:Nat):Int):=by rw [ar (by omega)];omega
 refine fM lb n c vs a b V _ hw hx ?_
 rw [w0,wq,v1,v2,v3,w1,w2,w3]
 refine ⟨by decide,by decide,by decide,fun _=>⟨fun h50=>absurd (of_decide_eq_true h50) (by omega),fun _ V1 l1 u v e1 f1 PN Kv n1=>(Es (V:=V1.aA [u,v]) e1 (lX _ _ _ f1 Kv).1 (h.le l1) PN (lX _ _ _ f1 Kv).2 n1 (a:=a+q) (b:=a+2*q) (d:=a+3*q) (by omega) (by omega) (by omega)).mono ?_⟩,fun h8=>absurd (of_decide_eq_false h8) (by omega)⟩
 rintro r V2 l2 ⟨x,k,rfl,ho,e2,e2'⟩
 exact ⟨_,rfl,vs,e2,_,e2',fun _ V3 l3 e3=>⟨x,_,rfl,by omega,by omega,e3⟩,fun _=>⟨fun _ V4 l4 e4=>⟨x,_,rfl,by omega,by omega,e4⟩,fun _ V5 l5 e5=>⟨x,_,rfl,by omega,by omega,e5⟩⟩⟩
theorem m_ {V:View}{lb n c:Nat}{vs:List Value}{l:List (Rat×Rat)}(hw:V.w.heap[lb]?=some (.cells vs.toArray 108 (0,0)))(hx:V.X lb)(h:iV V n vs l){a b:Nat}(lF:a<b)(hb:b<=l.length) :
  ab prog 228 #[.slice (some ⟨lb,0,none⟩) n c,.int .i64 a,.int .i64 b,.func (.func 151) #[] #[]] V fun r V'=>∃t:Bool,r=.bool t/\iV V' n vs l/\V'.w.heap[lb]?=some (.cells vs.toArray 108 (0,0))/\(t=true->oS dg bj l a b):=by
 have mM:=h.mM
 have len:=h.len
 have wa:i64.wrap ((a:Int)+1)=((a+1:Nat):Int):=by rw [ar (by omega)];omega
 have wn:i64.wrap ((b:Int)-a)=((b-a:Nat):Int):=by rw [ar (by omega)];omega
 refine dj lb n c vs a b V _ hw hx ?_
 rw [wa,wn]
 refine ⟨fun z V'=>z=(((a+1:Nat):Int),0,vs)/\V.Le V',fun z=>0,⟨(((a+1:Nat):Int),0,vs),by and_intros<;>rfl,rfl,View.Le.refl _⟩,?_⟩
 rintro z V1 l1 ⟨rfl,-⟩
 dsimp only
 refine ⟨rfl,fun _=>⟨fun z V'=>∃i:Nat,z=(i:Int)/\a+1<=i/\i<=b/\V1.Le V'/\oS dg bj l a i,fun z=>(b-z).toNat,⟨((a+1:Nat):Int),by and_intros<;>rfl,a+1,rfl,Nat.le_refl _,by omega,View.Le.refl _,.short (by omega)⟩,?_⟩,fun h0=>absurd (of_decide_eq_false h0) (by decide)⟩
 rintro z V2 l2 ⟨i,rfl,hi,hib,-,hasc⟩
 have w1:i64.wrap ((i:Int)-1)=((i-1:Nat):Int):=by rw [ar (by omega)];omega
 have w2:i64.wrap ((i:Int)+1)=((i+1:Nat):Int):=by rw [ar (by omega)];omega
 rw [w1,w2,Int.toNat_natCast,Int.toNat_natCast]
 have hs:=h.le (l1.trans l2)
 refine ⟨rfl,fun z V'=>V2.Le V'/\(z=true->i<b/\¬dg (l.getD i bj) (l.getD (i-1) bj)<0)/\(z=false->True),⟨fun hj=>?_,fun hj=>⟨false,by and_intros<;>rfl,View.Le.refl _,(fun h=>nomatch h),fun _=>trivial⟩⟩,?_⟩
 ·have hj:(i:Int)<b:=of_decide_eq_true hj
  obtain ⟨x1,y1,p1,fu,fw,fr,g1,r1⟩:=hs.get (k:=i) (by omega)
  obtain ⟨x2,y2,p2,gv,gz,gj,g2,r2⟩:=hs.get (k:=i-1) (by omega)
  refine ⟨⟨by omega,by omega⟩,x1,y1,p1,fu,fw,fr,g1,⟨by omega,by omega⟩,x2,y2,p2,gv,gz,gj,g2,fun V3 l3=>(bH (r1.le l3) (r2.le l3)).mono ?_⟩
  rintro r V4 l4 rfl
  exact ⟨_,rfl,_,by and_intros<;>rfl,l3.trans l4,fun h=>⟨by omega,by simpa using h⟩,fun _=>trivial⟩
 ·rintro t V5 l5 ⟨-,t1,-⟩
  refine ⟨rfl,fun ht=>?_,fun ht=>⟨fun he V6 l6 M5=>⟨true,rfl,hs.le (l5.trans l6),M5,fun _=>?_⟩,fun _=>⟨fun _ V7 l7 hw7=>⟨false,rfl,hs.le (l5.trans l7),hw7,(fun h=>nomatch h)⟩,fun h50=>absurd (of_decide_eq_false h50) (by omega)⟩⟩⟩
  ·obtain ⟨h1,h2⟩:=t1 ht
   exact ⟨((i+1:Nat):Int),by dsimp only;omega,by and_intros<;>rfl,i+1,rfl,by omega,by omega,l2.trans l5,hasc.step fq (by omega) h2⟩
  ·have he:(i:Int)=b:=by simpa using he
   rw [show b=i by omega];exact hasc
theorem HG {l:List (Rat×Rat)}{a piv:Nat}(ha:a<l.length)(hp:piv<l.length):(iT bj l a piv).getD a bj=l.getD piv bj:=by
 rw [kY ha hp]
 by_cases e:a=piv
 ·rw [if_pos e,e]
 ·rw [if_neg e,if_pos rfl]
theorem o_ {V:View}{lb n c:Nat}{vs:List Value}{l:List (Rat×Rat)}(hw:V.w.heap[lb]?=some (.cells vs.toArray 108 (0,0)))(hx:V.X lb)(h:iV V n vs l){a b piv:Nat}(lF:a+1<b)(hb:b<=l.length)(hp:a<=piv)(hp':piv<b) :
  ab prog 229 #[.slice (some ⟨lb,0,none⟩) n c,.int .i64 a,.int .i64 b,.int .i64 piv,.func (.func 151) #[] #[]] V fun r V'=>∃mid:Nat,r=.int .i64 mid/\a<mid/\mid<=b/\ku lb n l a b V' fun l'=>(∀k,a<=k->k<mid->¬dg (l.getD piv bj) (l'.getD k bj)<0)/\(∀k,mid<=k->k<b->dg (l.getD piv bj) (l'.getD k bj)<0):=by
 have mM:=h.mM
 have len:=h.len
 have wa:i64.wrap ((a:Int)+1)=((a+1:Nat):Int):=by rw [ar (by omega)];omega
 have wb:i64.wrap ((b:Int)-1)=((b-1:Nat):Int):=by rw [ar (by omega)];omega
 refine eK lb n c vs a b piv V _ hw hx ?_
 rw [wa,wb,Int.toNat_natCast,Int.toNat_natCast]
 obtain ⟨x1,y1,p1,fu,fw,fr,g1,r1⟩:=h.get (k:=a) (by omega)
 obtain ⟨x2,y2,p2,gv,gz,gj,g2,r2⟩:=h.get (k:=piv) (by omega)
 obtain ⟨s1,s2,s3⟩:=h.swap (i:=a) (j:=piv) (by omega) (by omega) r1 r2
 refine ⟨⟨by omega,by omega⟩,x2,y2,p2,gv,gz,gj,g2,⟨by omega,by omega⟩,x1,y1,p1,fu,fw,fr,g1,⟨by omega,by omega⟩,s1,⟨by omega,by omega⟩,s2,?_⟩
 generalize ae (ae vs (0+a*6) [.int .i64 x2,.int .i64 y2,.pointer p2,.int .i64 gv,.int .i64 gz,.pointer gj]) (0+piv*6) [.int .i64 x1,.int .i64 y1,.pointer p1,.int .i64 fu,.int .i64 fw,.pointer fr]=ws at *
 have m0:=HG (l:=l) (a:=a) (piv:=piv) (by omega) (by omega)
 have g0:gP bj l (iT bj l a piv) a b:=gP.iT (Nat.le_refl _) (by omega) hp hp' hb
 generalize iT bj l a piv=l0 at *
 generalize hpv:l.getD piv bj=p at *
 have VH:l0.length=l.length:=g0.len
 clear g1 g2 r1 r2 s1 s2
 refine ⟨fun z V'=>∃(i j:Nat)(m:List (Rat×Rat)),z.1=(i:Int)/\z.2.1=(j:Int)/\iV V' n z.2.2 m/\gP bj l m a b/\m.getD a bj=p/\PT (fun x=>¬dg p x<0) bj m a b i j,fun z=>(b-z.1).toNat,⟨(((a+1:Nat):Int),((b-1:Nat):Int),ws),by and_intros<;>rfl,a+1,b-1,l0,rfl,rfl,s3,g0,m0,PT.start lF⟩,?_⟩
 rintro ⟨z,z',us⟩ V1 l1 ⟨i0,j,m,e,e',hs1,hseg,ma,QT⟩
 dsimp only at e e' hs1
 subst e e'
 have ml:m.length=l.length:=hseg.len
 refine ⟨rfl,fun z V'=>∃i:Nat,z=((i:Int),(j:Int),us)/\i0<=i/\V1.Le V'/\PT (fun x=>¬dg p x<0) bj m a b i j,fun z=>(b-z.1).toNat,⟨((i0:Int),(j:Int),us),by and_intros<;>rfl,i0,rfl,Nat.le_refl _,View.Le.refl _,QT⟩,?_⟩
 rintro _ V2 l2 ⟨i,rfl,hi0,-,pt⟩
 dsimp only
 have hs:=hs1.le l2
 have q1:=pt.hi
 have q2:=pt.wG
 have q3:=pt.hj
 have w1:i64.wrap ((i:Int)+1)=((i+1:Nat):Int):=by rw [ar (by omega)];omega
 rw [w1,Int.toNat_natCast]
 refine ⟨rfl,fun z V'=>V2.Le V'/\(z=true->i<=j/\¬dg p (m.getD i bj)<0)/\(z=false->i<=j->¬¬dg p (m.getD i bj)<0),⟨fun hj=>?_,fun hj=>⟨false,by and_intros<;>rfl,View.Le.refl _,(fun h=>nomatch h),fun _ h=>absurd h (by have:=of_decide_eq_false hj;omega)⟩⟩,?_⟩
 ·have hj:(i:Int)<=j:=of_decide_eq_true hj
  obtain ⟨x1,y1,p1,fu,fw,fr,g1,r1⟩:=hs.get (k:=a) (by omega)
  obtain ⟨x2,y2,p2,gv,gz,gj,g2,r2⟩:=hs.get (k:=i) (by omega)
  refine ⟨⟨by omega,by omega⟩,x1,y1,p1,fu,fw,fr,g1,⟨by omega,by omega⟩,x2,y2,p2,gv,gz,gj,g2,fun W1 k1=>(bH (r1.le k1) (r2.le k1)).mono ?_⟩
  rintro r W2 k2 rfl
  rw [ma]
  exact ⟨_,rfl,_,by and_intros<;>rfl,k1.trans k2,fun h=>⟨by omega,by simpa using h⟩,fun h _=>by simpa using h⟩
 rintro t V5 l5 ⟨-,t1,t2⟩
 refine ⟨rfl,fun ht=>⟨(((i+1:Nat):Int),(j:Int),us),by have:=(t1 ht).1;dsimp only;omega,by and_intros<;>rfl,i+1,rfl,by omega,l2.trans l5,pt.KN (t1 ht).1 (t1 ht).2⟩,fun ht=>?_⟩
 have hI:i<=j->¬((fun x=>¬dg p x<0)) (m.getD i bj):=t2 ht
 refine ⟨fun z V'=>∃j':Nat,z=(j':Int)/\j'<=j/\V5.Le V'/\PT (fun x=>¬dg p x<0) bj m a b i j',fun z=>z.toNat,⟨(j:Int),by and_intros<;>rfl,j,rfl,Nat.le_refl _,View.Le.refl _,pt⟩,?_⟩
 rintro _ V6 l6 ⟨j',rfl,hjj,-,zy⟩
 clear t1 t2 q2 q3 pt
 have hI:i<=j'->¬((fun x=>¬dg p x<0)) (m.getD i bj):=fun h=>hI (by omega)
 replace hs:=hs.le (l5.trans l6)
 have q2:=zy.wG
 have q3:=zy.hj
 have w2:1<=j'->i64.wrap ((j':Int)-1)=((j'-1:Nat):Int):=fun h1=>by rw [ar (by omega)];omega
 rw [Int.toNat_natCast]
 refine ⟨rfl,fun z V'=>V6.Le V'/\(z=true->i<=j'/\¬¬dg p (m.getD j' bj)<0)/\(z=false->i<=j'->¬dg p (m.getD j' bj)<0),⟨fun hj=>?_,fun hj=>⟨false,by and_intros<;>rfl,View.Le.refl _,(fun h=>nomatch h),fun _ h=>absurd h (by have:=of_decide_eq_false hj;omega)⟩⟩,?_⟩
 ·have hj:(i:Int)<=j':=of_decide_eq_true hj
  obtain ⟨x1,y1,p1,fu,fw,fr,g1,r1⟩:=hs.get (k:=a) (by omega)
  obtain ⟨x2,y2,p2,gv,gz,gj,g2,r2⟩:=hs.get (k:=j') (by omega)
  refine ⟨⟨by omega,by omega⟩,x1,y1,p1,fu,fw,fr,g1,⟨by omega,by omega⟩,x2,y2,p2,gv,gz,gj,g2,fun W1 k1=>(bH (r1.le k1) (r2.le k1)).mono ?_⟩
  rintro r W2 k2 rfl
  rw [ma]
  exact ⟨_,rfl,_,by and_intros<;>rfl,k1.trans k2,fun h=>⟨by omega,by simpa using h⟩,fun h _=>by simpa using h⟩
 rintro t V9 l9 ⟨-,t1,t2⟩
 refine ⟨rfl,fun ht=>⟨((j'-1:Nat):Int),by have:=(t1 ht).1;dsimp only;omega,by have:=(t1 ht).1;and_intros<;>first|rfl|exact w2 (by omega),j'-1,rfl,by omega,l6.trans l9,zy.Kr (t1 ht).1 (t1 ht).2⟩,fun ht=>⟨fun hgt=>?_,fun hgt=>?_⟩⟩
 ·have hgt:(i:Int)>j':=of_decide_eq_true hgt
  refine fun gQ l10 Gq=>⟨i,rfl,q1,by omega,us,m,Gq,hs.le (l9.trans l10),hseg,fun k k1 k2=>?_,fun k k1 k2=>?_⟩
  ·by_cases e:k=a
   ·rw [e,ma];exact fq.refl _
   ·exact zy.lo k (by omega) k2
  ·exact Classical.not_not.1 (zy.up k (by omega) k2)
 ·have hgt:¬(i:Int)>j':=of_decide_eq_false hgt
  have LM:((fun x=>¬dg p x<0)) (m.getD j' bj):=t2 ht (by omega)
  obtain ⟨LX,LV,LY⟩:=zy.swap (by omega) (by omega) (hI (by omega)) LM
  obtain ⟨x1,y1,p1,fu,fw,fr,g1,r1⟩:=(hs.le l9).get (k:=i) (by omega)
  obtain ⟨x2,y2,p2,gv,gz,gj,g2,r2⟩:=(hs.le l9).get (k:=j') (by omega)
  obtain ⟨s1,s2,s3⟩:=(hs.le l9).swap (i:=i) (j:=j') (by omega) (by omega) r1 r2
  exact ⟨⟨by omega,by omega⟩,x2,y2,p2,gv,gz,gj,g2,⟨by omega,by omega⟩,x1,y1,p1,fu,fw,fr,g1,⟨by omega,by omega⟩,s1,⟨by omega,by omega⟩,s2,(((i+1:Nat):Int),((j'-1:Nat):Int),_),by dsimp only;omega,by and_intros<;>first|rfl|exact w2 (by omega),i+1,j'-1,_,rfl,rfl,s3,hseg.trans LY,LV.trans ma,LX⟩
theorem yQ {V:View}{lb n c:Nat}{vs:List Value}{l:List (Rat×Rat)}(hw:V.w.heap[lb]?=some (.cells vs.toArray 108 (0,0)))(hx:V.X lb)(h:iV V n vs l){a b piv:Nat}(lF:a+1<b)(hb:b<=l.length)(hp:a<=piv)(hp':piv<b) :
  ab prog 230 #[.slice (some ⟨lb,0,none⟩) n c,.int .i64 a,.int .i64 b,.int .i64 piv,.func (.func 151) #[] #[]] V fun r V'=>∃(mid:Nat)(t:Bool),r=.tuple #[.int .i64 mid,.bool t]/\a<=mid/\mid<b/\ku lb n l a b V' fun l'=>(∀k,a<=k->k<mid->dg (l'.getD k bj) (l'.getD mid bj)<0)/\(∀k,mid<k->k<b->¬dg (l'.getD k bj) (l'.getD mid bj)<0):=by
 have mM:=h.mM
 have len:=h.len
 have wa:i64.wrap ((a:Int)+1)=((a+1:Nat):Int):=by rw [ar (by omega)];omega
 have wb:i64.wrap ((b:Int)-1)=((b-1:Nat):Int):=by rw [ar (by omega)];omega
 refine gM lb n c vs a b piv V _ hw hx ?_
 rw [wa,wb,Int.toNat_natCast,Int.toNat_natCast]
 obtain ⟨x1,y1,p1,fu,fw,fr,g1,r1⟩:=h.get (k:=a) (by omega)
 obtain ⟨x2,y2,p2,gv,gz,gj,g2,r2⟩:=h.get (k:=piv) (by omega)
 obtain ⟨s1,s2,s3⟩:=h.swap (i:=a) (j:=piv) (by omega) (by omega) r1 r2
 refine ⟨⟨by omega,by omega⟩,x2,y2,p2,gv,gz,gj,g2,⟨by omega,by omega⟩,x1,y1,p1,fu,fw,fr,g1,⟨by omega,by omega⟩,s1,⟨by omega,by omega⟩,s2,?_⟩
 generalize ae (ae vs (0+a*6) [.int .i64 x2,.int .i64 y2,.pointer p2,.int .i64 gv,.int .i64 gz,.pointer gj]) (0+piv*6) [.int .i64 x1,.int .i64 y1,.pointer p1,.int .i64 fu,.int .i64 fw,.pointer fr]=ws at *
 have m0:=HG (l:=l) (a:=a) (piv:=piv) (by omega) (by omega)
 have g0:gP bj l (iT bj l a piv) a b:=gP.iT (Nat.le_refl _) (by omega) hp hp' hb
 generalize iT bj l a piv=l0 at *
 generalize hpv:l.getD piv bj=p at *
 have VH:l0.length=l.length:=g0.len
 clear g1 g2 r1 r2 s1 s2
 have wI:∀i:Nat,i<100->i64.wrap ((i:Int)+1)=((i+1:Nat):Int):=fun i hi=>by rw [ar (by omega)];omega
 have hseg:=g0
 have ma:=m0
 have s3:=s3
 generalize l0=m at *
 generalize ws=us at *
 have ml:m.length=l.length:=hseg.len
 refine ⟨fun z V'=>∃i:Nat,z=(i:Int)/\V.Le V'/\PT (fun x=>dg x p<0) bj m a b i (b-1),fun z=>(b-z).toNat,⟨((a+1:Nat):Int),by and_intros<;>rfl,a+1,rfl,View.Le.refl _,PT.start lF⟩,?_⟩
 rintro _ V2 l2 ⟨i,rfl,-,pt⟩
 have hs:=s3.le l2
 have q1:=pt.hi
 have q2:=pt.wG
 have q3:=pt.hj
 have w1:=wI i (by omega)
 obtain ⟨j,hj1⟩:∃j,j=b-1:=⟨_,rfl⟩
 rw [←hj1] at pt q2 q3 ⊢
 rw [w1,Int.toNat_natCast]
 refine ⟨rfl,fun z V'=>V2.Le V'/\(z=true->i<=j/\dg (m.getD i bj) p<0)/\(z=false->i<=j->¬dg (m.getD i bj) p<0),⟨fun hj=>?_,fun hj=>⟨false,by and_intros<;>rfl,View.Le.refl _,(fun h=>nomatch h),fun _ h=>absurd h (by have:=of_decide_eq_false hj;omega)⟩⟩,?_⟩
 ·have hj:(i:Int)<=j:=of_decide_eq_true hj
  obtain ⟨x1,y1,p1,fu,fw,fr,g1,r1⟩:=hs.get (k:=i) (by omega)
  obtain ⟨x2,y2,p2,gv,gz,gj,g2,r2⟩:=hs.get (k:=a) (by omega)
  refine ⟨⟨by omega,by omega⟩,x1,y1,p1,fu,fw,fr,g1,⟨by omega,by omega⟩,x2,y2,p2,gv,gz,gj,g2,fun W1 k1=>(bH (r1.le k1) (r2.le k1)).mono ?_⟩
  rintro r W2 k2 rfl
  rw [ma]
  exact ⟨_,rfl,_,by and_intros<;>rfl,k1.trans k2,fun h=>⟨by omega,of_decide_eq_true h⟩,fun h _=>of_decide_eq_false h⟩
 rintro t V5 l5 ⟨-,t1,t2⟩
 refine ⟨rfl,fun ht=>⟨((i+1:Nat):Int),by have:=(t1 ht).1;dsimp only;omega,by and_intros<;>rfl,i+1,rfl,l2.trans l5,pt.KN (t1 ht).1 (t1 ht).2⟩,fun ht=>?_⟩
 have hI:i<=j->¬((fun x=>dg x p<0)) (m.getD i bj):=t2 ht
 refine ⟨fun z V'=>∃j':Nat,z=(j':Int)/\j'<=j/\V5.Le V'/\PT (fun x=>dg x p<0) bj m a b i j',fun z=>z.toNat,⟨(j:Int),by and_intros<;>rfl,j,rfl,Nat.le_refl _,View.Le.refl _,pt⟩,?_⟩
 rintro _ V6 l6 ⟨j',rfl,hjj,-,zy⟩
 clear t1 t2 q2 q3 pt
 have hI:i<=j'->¬((fun x=>dg x p<0)) (m.getD i bj):=fun h=>hI (by omega)
 replace hs:=hs.le (l5.trans l6)
 have q2:=zy.wG
 have q3:=zy.hj
 have w2:1<=j'->i64.wrap ((j':Int)-1)=((j'-1:Nat):Int):=fun h1=>by rw [ar (by omega)];omega
 rw [Int.toNat_natCast]
 refine ⟨rfl,fun z V'=>V6.Le V'/\(z=true->i<=j'/\¬dg (m.getD j' bj) p<0)/\(z=false->i<=j'->¬¬dg (m.getD j' bj) p<0),⟨fun hj=>?_,fun hj=>⟨false,by and_intros<;>rfl,View.Le.refl _,(fun h=>nomatch h),fun _ h=>absurd h (by have:=of_decide_eq_false hj;omega)⟩⟩,?_⟩
 ·have hj:(i:Int)<=j':=of_decide_eq_true hj
  obtain ⟨x1,y1,p1,fu,fw,fr,g1,r1⟩:=hs.get (k:=j') (by omega)
  obtain ⟨x2,y2,p2,gv,gz,gj,g2,r2⟩:=hs.get (k:=a) (by omega)
  refine ⟨⟨by omega,by omega⟩,x1,y1,p1,fu,fw,fr,g1,⟨by omega,by omega⟩,x2,y2,p2,gv,gz,gj,g2,fun W1 k1=>(bH (r1.le k1) (r2.le k1)).mono ?_⟩
  rintro r W2 k2 rfl
  rw [ma]
  exact ⟨_,rfl,_,by and_intros<;>rfl,k1.trans k2,fun h=>⟨by omega,by simpa using h⟩,fun h _=>by simpa using h⟩
 rintro t V9 l9 ⟨-,t1,t2⟩
 refine ⟨rfl,fun ht=>⟨((j'-1:Nat):Int),by have:=(t1 ht).1;dsimp only;omega,by have:=(t1 ht).1;and_intros<;>first|rfl|exact w2 (by omega),j'-1,rfl,by omega,l6.trans l9,zy.Kr (t1 ht).1 (t1 ht).2⟩,fun ht=>⟨fun hgt=>?_,fun hgt=>?_⟩⟩
 ·have hgt:(i:Int)>j':=of_decide_eq_true hgt
  have QU:PT (fun x=>dg x (m.getD a bj)<0) bj m a b i j':=by rw [ma];exact zy
  obtain ⟨f1,f2,f3,f4,f5⟩:=QU.fin fq (by omega) (by omega)
  obtain ⟨x1,y1,p1,fu,fw,fr,g1,r1⟩:=(hs.le l9).get (k:=j') (by omega)
  obtain ⟨x2,y2,p2,gv,gz,gj,g2,r2⟩:=(hs.le l9).get (k:=a) (by omega)
  obtain ⟨s1,s2,s3⟩:=(hs.le l9).swap (i:=j') (j:=a) (by omega) (by omega) r1 r2
  exact ⟨⟨by omega,by omega⟩,x2,y2,p2,gv,gz,gj,g2,⟨by omega,by omega⟩,x1,y1,p1,fu,fw,fr,g1,⟨by omega,by omega⟩,s1,⟨by omega,by omega⟩,s2,fun gQ l10 Gq=>⟨j',_,rfl,f2,f3,_,_,Gq,s3.le l10,hseg.trans f1,f4,f5⟩⟩
 have hgt:¬(i:Int)>j':=of_decide_eq_false hgt
 have LM:((fun x=>dg x p<0)) (m.getD j' bj):=Classical.not_not.1 (t2 ht (by omega))
 obtain ⟨LX,LV,LY⟩:=zy.swap (by omega) (by omega) (hI (by omega)) LM
 obtain ⟨x1,y1,p1,fu,fw,fr,g1,r1⟩:=(hs.le l9).get (k:=i) (by omega)
 obtain ⟨x2,y2,p2,gv,gz,gj,g2,r2⟩:=(hs.le l9).get (k:=j') (by omega)
 obtain ⟨s1,s2,s4⟩:=(hs.le l9).swap (i:=i) (j:=j') (by omega) (by omega) r1 r2
 rw [w2 (by omega)]
 refine ⟨⟨by omega,by omega⟩,x2,y2,p2,gv,gz,gj,g2,⟨by omega,by omega⟩,x1,y1,p1,fu,fw,fr,g1,⟨by omega,by omega⟩,s1,⟨by omega,by omega⟩,s2,?_⟩
 generalize ae (ae us (0+i*6) [.int .i64 x2,.int .i64 y2,.pointer p2,.int .i64 gv,.int .i64 gz,.pointer gj]) (0+j'*6) [.int .i64 x1,.int .i64 y1,.pointer p1,.int .i64 fu,.int .i64 fw,.pointer fr]=ws at *
 have g5:gP bj l (iT bj m i j') a b:=hseg.trans LY
 have m5:=LV.trans ma
 generalize iT bj m i j'=Vf at *
 clear g1 g2 r1 r2 s1 s2 hs t1 t2 hI LY LV ml s3 hseg ma
 obtain ⟨i',hi'⟩:∃i',i'=i:=⟨_,rfl⟩
 obtain ⟨OZ,ML⟩:∃OZ,OZ=j':=⟨_,rfl⟩
 rw [←hi',←ML] at LX ⊢
 clear zy LM hj1 hi' ML hgt q1 q2 q3 w1 w2 hjj
 refine ⟨fun z V'=>∃(i j:Nat)(m:List (Rat×Rat)),z.1=(i:Int)/\z.2.1=(j:Int)/\iV V' n z.2.2 m/\gP bj l m a b/\m.getD a bj=p/\PT (fun x=>dg x p<0) bj m a b i j,fun z=>(b-z.1).toNat,⟨(((i'+1:Nat):Int),((OZ-1:Nat):Int),ws),by and_intros<;>rfl,i'+1,OZ-1,Vf,rfl,rfl,s4,g5,m5,LX⟩,?_⟩
 rintro ⟨z,z',us⟩ V1 l1 ⟨i0,j,m,e,e',hs1,hseg,ma,QT⟩
 dsimp only at e e' hs1
 subst e e'
 have ml:m.length=l.length:=hseg.len
 refine ⟨rfl,fun z V'=>∃i:Nat,z=((i:Int),(j:Int),us)/\i0<=i/\V1.Le V'/\PT (fun x=>dg x p<0) bj m a b i j,fun z=>(b-z.1).toNat,⟨((i0:Int),(j:Int),us),by and_intros<;>rfl,i0,rfl,Nat.le_refl _,View.Le.refl _,QT⟩,?_⟩
 rintro _ V2 l2 ⟨i,rfl,hi0,-,pt⟩
 dsimp only
 have hs:=hs1.le l2
 have q1:=pt.hi
 have q2:=pt.wG
 have q3:=pt.hj
 have w1:i64.wrap ((i:Int)+1)=((i+1:Nat):Int):=by rw [ar (by omega)];omega
 rw [w1,Int.toNat_natCast]
 refine ⟨rfl,fun z V'=>V2.Le V'/\(z=true->i<=j/\dg (m.getD i bj) p<0)/\(z=false->i<=j->¬dg (m.getD i bj) p<0),⟨fun hj=>?_,fun hj=>⟨false,by and_intros<;>rfl,View.Le.refl _,(fun h=>nomatch h),fun _ h=>absurd h (by have:=of_decide_eq_false hj;omega)⟩⟩,?_⟩
 ·have hj:(i:Int)<=j:=of_decide_eq_true hj
  obtain ⟨x1,y1,p1,fu,fw,fr,g1,r1⟩:=hs.get (k:=i) (by omega)
  obtain ⟨x2,y2,p2,gv,gz,gj,g2,r2⟩:=hs.get (k:=a) (by omega)
  refine ⟨⟨by omega,by omega⟩,x1,y1,p1,fu,fw,fr,g1,⟨by omega,by omega⟩,x2,y2,p2,gv,gz,gj,g2,fun W1 k1=>(bH (r1.le k1) (r2.le k1)).mono ?_⟩
  rintro r W2 k2 rfl
  rw [ma]
  exact ⟨_,rfl,_,by and_intros<;>rfl,k1.trans k2,fun h=>⟨by omega,of_decide_eq_true h⟩,fun h _=>of_decide_eq_false h⟩
 rintro t V5 l5 ⟨-,t1,t2⟩
 refine ⟨rfl,fun ht=>⟨(((i+1:Nat):Int),(j:Int),us),by have:=(t1 ht).1;dsimp only;omega,by and_intros<;>rfl,i+1,rfl,by omega,l2.trans l5,pt.KN (t1 ht).1 (t1 ht).2⟩,fun ht=>?_⟩
 have hI:i<=j->¬((fun x=>dg x p<0)) (m.getD i bj):=t2 ht
 refine ⟨fun z V'=>∃j':Nat,z=(j':Int)/\j'<=j/\V5.Le V'/\PT (fun x=>dg x p<0) bj m a b i j',fun z=>z.toNat,⟨(j:Int),by and_intros<;>rfl,j,rfl,Nat.le_refl _,View.Le.refl _,pt⟩,?_⟩
 rintro _ V6 l6 ⟨j',rfl,hjj,-,zy⟩
 clear t1 t2 q2 q3 pt
 have hI:i<=j'->¬((fun x=>dg x p<0)) (m.getD i bj):=fun h=>hI (by omega)
 replace hs:=hs.le (l5.trans l6)
 have q2:=zy.wG
 have q3:=zy.hj
 have w2:1<=j'->i64.wrap ((j':Int)-1)=((j'-1:Nat):Int):=fun h1=>by rw [ar (by omega)];omega
 rw [Int.toNat_natCast]
 refine ⟨rfl,fun z V'=>V6.Le V'/\(z=true->i<=j'/\¬dg (m.getD j' bj) p<0)/\(z=false->i<=j'->¬¬dg (m.getD j' bj) p<0),⟨fun hj=>?_,fun hj=>⟨false,by and_intros<;>rfl,View.Le.refl _,(fun h=>nomatch h),fun _ h=>absurd h (by have:=of_decide_eq_false hj;omega)⟩⟩,?_⟩
 ·have hj:(i:Int)<=j':=of_decide_eq_true hj
  obtain ⟨x1,y1,p1,fu,fw,fr,g1,r1⟩:=hs.get (k:=j') (by omega)
  obtain ⟨x2,y2,p2,gv,gz,gj,g2,r2⟩:=hs.get (k:=a) (by omega)
  refine ⟨⟨by omega,by omega⟩,x1,y1,p1,fu,fw,fr,g1,⟨by omega,by omega⟩,x2,y2,p2,gv,gz,gj,g2,fun W1 k1=>(bH (r1.le k1) (r2.le k1)).mono ?_⟩
  rintro r W2 k2 rfl
  rw [ma]
  exact ⟨_,rfl,_,by and_intros<;>rfl,k1.trans k2,fun h=>⟨by omega,by simpa using h⟩,fun h _=>by simpa using h⟩
 rintro t V9 l9 ⟨-,t1,t2⟩
 refine ⟨rfl,fun ht=>⟨((j'-1:Nat):Int),by have:=(t1 ht).1;dsimp only;omega,by have:=(t1 ht).1;and_intros<;>first|rfl|exact w2 (by omega),j'-1,rfl,by omega,l6.trans l9,zy.Kr (t1 ht).1 (t1 ht).2⟩,fun ht=>⟨fun hgt=>?_,fun hgt=>?_⟩⟩
 ·have hgt:(i:Int)>j':=of_decide_eq_true hgt
  have QU:PT (fun x=>dg x (m.getD a bj)<0) bj m a b i j':=by rw [ma];exact zy
  obtain ⟨f1,f2,f3,f4,f5⟩:=QU.fin fq (by omega) (by omega)
  obtain ⟨x1,y1,p1,fu,fw,fr,g1,r1⟩:=(hs.le l9).get (k:=j') (by omega)
  obtain ⟨x2,y2,p2,gv,gz,gj,g2,r2⟩:=(hs.le l9).get (k:=a) (by omega)
  obtain ⟨s1,s2,s3⟩:=(hs.le l9).swap (i:=j') (j:=a) (by omega) (by omega) r1 r2
  exact ⟨⟨by omega,by omega⟩,x2,y2,p2,gv,gz,gj,g2,⟨by omega,by omega⟩,x1,y1,p1,fu,fw,fr,g1,⟨by omega,by omega⟩,s1,⟨by omega,by omega⟩,s2,fun gQ l10 Gq=>⟨j',_,rfl,f2,f3,_,_,Gq,s3.le l10,hseg.trans f1,f4,f5⟩⟩
 ·have hgt:¬(i:Int)>j':=of_decide_eq_false hgt
  have LM:((fun x=>dg x p<0)) (m.getD j' bj):=Classical.not_not.1 (t2 ht (by omega))
  obtain ⟨LX,LV,LY⟩:=zy.swap (by omega) (by omega) (hI (by omega)) LM
  obtain ⟨x1,y1,p1,fu,fw,fr,g1,r1⟩:=(hs.le l9).get (k:=i) (by omega)
  obtain ⟨x2,y2,p2,gv,gz,gj,g2,r2⟩:=(hs.le l9).get (k:=j') (by omega)
  obtain ⟨s1,s2,s3⟩:=(hs.le l9).swap (i:=i) (j:=j') (by omega) (by omega) r1 r2
  exact ⟨⟨by omega,by omega⟩,x2,y2,p2,gv,gz,gj,g2,⟨by omega,by omega⟩,x1,y1,p1,fu,fw,fr,g1,⟨by omega,by omega⟩,s1,⟨by omega,by omega⟩,s2,(((i+1:Nat):Int),((j'-1:Nat):Int),_),by dsimp only;omega,by and_intros<;>first|rfl|exact w2 (by omega),i+1,j'-1,_,rfl,rfl,s3,hseg.trans LY,LV.trans ma,LX⟩
theorem Cv:∀(N:Nat) {V:View} {lb n c:Nat} {vs:List Value} {l:List (Rat×Rat)} (_:V.w.heap[lb]?=some (.cells vs.toArray 108 (0,0))) (_:V.X lb) (_:iV V n vs l) {a b:Nat} {DY:Int} (_:a<=b) (_:b<=l.length) (_:b-a<=N) (_:0<=DY) (_:DY<=100)
  (_:0<a->∀k,a<=k->k<b->¬dg (l.getD k bj) (l.getD (a-1) bj)<0),
  ab prog 187 #[.slice (some ⟨lb,0,none⟩) n c,.int .i64 a,.int .i64 b,.int .i64 DY,.func (.func 151) #[] #[]] V fun r V'=>r=.tuple #[]/\ku lb n l a b V' fun l'=>oS dg bj l' a b:=by
 intro N
 induction N using Nat.strongRecOn with
 | ind N ih=>
 intro V lb n c vs l hw hx h a b DY lF hb hN O4 O5 hpre
 have mM:=h.mM
 have len:=h.len
 refine dz lb n c vs a b DY V _ hw hx ⟨fun z V'=>∃(a' b':Nat)(m:List (Rat×Rat)),z.1=(a':Int)/\z.2.1=(b':Int)/\0<=z.2.2.1/\z.2.2.1<=100/\iV V' n z.2.2.2.2.2 m/\PQ dg bj l m a b a' b',fun z=>(z.2.1-z.1).toNat,
  ⟨((a:Int),(b:Int),DY,true,true,vs),by and_intros<;>rfl,a,b,l,rfl,rfl,O4,O5,h,PQ.start lF hpre⟩,?_⟩
 rintro ⟨z1,z2,DY,wb,wp,us⟩ V1 l1 ⟨a',b',m,e1,e2,O4,O5,hs,pq⟩
 dsimp only at e1 e2 O4 O5 hs
 subst e1 e2
 dsimp only
 have q1:=pq.ha
 have q2:=pq.lF
 have q3:=pq.hb
 have ml:m.length=l.length:=pq.Jr.len
 have w0:i64.wrap ((b':Int)-a')=((b'-a':Nat):Int):=by rw [ar (by omega)];omega
 rw [w0]
 refine ⟨rfl,fun _ V2 l2 bk e2 h2=>(jU (V:=V2.aA [bk]) e2 ⟨by simp,h2⟩ (hs.le l2) q2 (by omega)).mono ?_,fun h12=>⟨fun _ V5 l5 bk e5 h5=>(AG (V:=V5.aA [bk]) e5 ⟨by simp,h5⟩ (hs.le l5) (a:=a') (b:=b') (by have:=of_decide_eq_false h12;omega) (by omega)).mono ?_,fun hl0=>?_⟩⟩
 ·rintro r V3 l3 ⟨rfl,ws,m',e3,hs3,Rv,PG⟩
  obtain ⟨f1,f2⟩:=pq.fin Rv PG
  exact ⟨rfl,ws,e3,fun V4 l4 hw4=>⟨rfl,ws,m',hw4,hs3.le fun b o h=>l4 b o h,f1,f2⟩⟩
 ·rintro r V6 l6 ⟨rfl,ws,m',e6,hs6,VE,Ub⟩
  obtain ⟨f1,f2⟩:=pq.fin VE Ub
  exact ⟨rfl,ws,e6,fun V7 l7 hw7=>⟨rfl,ws,m',hw7,hs6.le fun b o h=>l7 b o h,f1,f2⟩⟩
 have h12:12<b'-a':=by have:=of_decide_eq_false h12;omega
 have hl0:¬DY=0:=by simpa using hl0
 refine ⟨fun z V'=>∃m2:List (Rat×Rat),0<=z.1/\z.1<=100/\iV V' n z.2 m2/\PQ dg bj l m2 a b a' b',⟨fun _ V8 l8 bk e8 h8=>(qv (V:=V8.aA [bk]) e8 ⟨by simp,h8⟩ (hs.le l8) (a:=a') (b:=b') (by omega) (by omega)).mono ?_,fun _=>⟨(DY,us),by and_intros<;>rfl,m,O4,O5,hs,pq⟩⟩,?_⟩
 ·rintro r V9 l9 ⟨rfl,ws,m',e9,UZ,VF,-⟩
  exact ⟨rfl,ws,e9,(DY-1,ws),by and_intros<;>first|rfl|exact ar (by omega),m',by dsimp only;omega,by dsimp only;omega,UZ.le (f_ _),pq.change VF⟩
 clear hs pq ml l1
 rintro ⟨KS,us⟩ gQ l10 ⟨m,ES,ET,hs,pq⟩
 dsimp only at ES ET hs
 dsimp only
 have ml:m.length=l.length:=pq.Jr.len
 refine ⟨rfl,fun jw bQ bk e11 h11=>(tU (V:=jw.aA [bk]) e11 ⟨by simp,h11⟩ (hs.le bQ) (a:=a') (b:=b') (by omega) (by omega)).mono ?_⟩
 rintro r kv cp ⟨x,t,rfl,x0,x1,e12⟩
 have KJ:iV kv.shut n us m:=hs.le fun b o h=>cp b o (bQ b o h)
 refine ⟨_,_,rfl,us,e12,fun z V'=>∃(p:Nat)(m2:List (Rat×Rat)),z.1=(p:Int)/\a'<=p/\p<b'/\iV V' n z.2.2 m2/\PQ dg bj l m2 a b a' b',⟨fun _ lA bW bk e13 OV=>(r_ (V:=lA.aA [bk]) e13 ⟨by simp,OV⟩ (KJ.le bW) (a:=a') (b:=b') (by omega) (by omega)).mono ?_,fun _=>⟨((x:Int),t,us),by and_intros<;>rfl,x,m,rfl,x0,x1,KJ,pq⟩⟩,?_⟩
 ·rintro r qk dK ⟨rfl,ws,m',e14,Qn,Rq,-⟩
  have v1:i64.wrap ((b':Int)-1)=((b'-1:Nat):Int):=by rw [ar (by omega)];omega
  have v2:i64.wrap ((x:Int)-a')=((x-a':Nat):Int):=by rw [ar (by omega)];omega
  have v3:i64.wrap (((b'-1:Nat):Int)-((x-a':Nat):Int))=((b'-1-(x-a'):Nat):Int):=by rw [ar (by omega)];omega
  rw [v1,v2,v3]
  exact ⟨rfl,ws,e14,(((b'-1-(x-a'):Nat):Int),1,ws),by and_intros<;>rfl,b'-1-(x-a'),m',rfl,by omega,by omega,Qn.le (f_ _),pq.change Rq⟩
 clear hs pq ml KJ e12 cp bQ l10
 rintro ⟨pz,t,us⟩ oM dZ ⟨p,m,e,p0,p1,hs,pq⟩
 dsimp only at e hs
 subst e
 dsimp only
 have ml:m.length=l.length:=pq.Jr.len
 refine ⟨rfl,fun _ V'=>oM.Le V',⟨fun _=>⟨fun _=>⟨_,by and_intros<;>rfl,View.Le.refl _⟩,fun _=>⟨_,by and_intros<;>rfl,View.Le.refl _⟩⟩,fun _=>⟨_,by and_intros<;>rfl,View.Le.refl _⟩⟩,?_⟩
 rintro t2 oN c_ -
 refine ⟨rfl,fun z V'=>z=us/\iV V' n us m,⟨fun _ qi cQ bk e17 Uz=>(m_ (V:=qi.aA [bk]) e17 ⟨by simp,Uz⟩ (hs.le (c_.trans cQ)) (a:=a') (b:=b') (by omega) (by omega)).mono ?_,fun _=>⟨us,by and_intros<;>rfl,rfl,hs.le c_⟩⟩,?_⟩
 ·rintro r tE eI ⟨t3,rfl,MR,e18,PE⟩
  refine ⟨_,rfl,us,e18,fun ht xk eA Qv=>?_,fun _=>⟨us,by and_intros<;>rfl,rfl,MR.le (f_ _)⟩⟩
  obtain ⟨f1,f2⟩:=pq.fin (.refl _ _ _) (PE ht)
  exact ⟨rfl,us,m,Qv,MR.le fun b o h=>eA b o h,f1,f2⟩
 rintro z Ak jC ⟨rfl,IL⟩
 refine ⟨rfl,fun z V'=>Ak.Le V'/\(z=true->0<a'/\¬dg (m.getD (a'-1) bj) (m.getD p bj)<0),⟨fun h0=>?_,fun _=>⟨false,by and_intros<;>rfl,View.Le.refl _,(fun h=>nomatch h)⟩⟩,?_⟩
 ·have h0:(a':Int)>0:=of_decide_eq_true h0
  have v1:i64.wrap ((a':Int)-1)=((a'-1:Nat):Int):=by rw [ar (by omega)];omega
  rw [v1,Int.toNat_natCast,Int.toNat_natCast]
  obtain ⟨x1,y1,p1,fu,fw,fr,g1,r1⟩:=IL.get (k:=a'-1) (by omega)
  obtain ⟨x2,y2,p2,gv,gz,gj,g2,r2⟩:=IL.get (k:=p) (by omega)
  refine ⟨⟨by omega,by omega⟩,x1,y1,p1,fu,fw,fr,g1,⟨by omega,by omega⟩,x2,y2,p2,gv,gz,gj,g2,fun sR dL=>(bH (r1.le dL) (r2.le dL)).mono ?_⟩
  rintro r vY kr rfl
  exact ⟨_,rfl,_,by and_intros<;>rfl,dL.trans kr,fun h=>⟨by omega,by simpa using h⟩⟩
 rintro t4 vZ il ⟨-,U1⟩
 refine ⟨rfl,fun ht Cj sW bk e24 OW=>(o_ (V:=Cj.aA [bk]) e24 ⟨by simp,OW⟩ (IL.le fun b o h=>sW b o (il b o h)) (a:=a') (b:=b') (piv:=p) (by omega) (by omega) p0 p1).mono ?_,fun ht HU sX bk e26 OX=>(yQ (V:=HU.aA [bk]) e26 ⟨by simp,OX⟩ (IL.le fun b o h=>sX b o (il b o h)) (a:=a') (b:=b') (piv:=p) (by omega) (by omega) p0 p1).mono ?_⟩
 ·rintro r DH jh ⟨mid,rfl,m0,m1,ws,m',e25,Qo,Rr,f1,f2⟩
  obtain ⟨g0,g1⟩:=U1 ht
  exact ⟨_,rfl,ws,e25,((mid:Int),(b':Int),KS,wb,wp,ws),by dsimp only;omega,by and_intros<;>rfl,mid,b',m',rfl,rfl,ES,ET,Qo.le (f_ _),pq.Ul fq g0 m0 m1 g1 Rr f1 f2⟩
 ·rintro r Kg sY ⟨mid,t5,rfl,m0,m1,ws,m',e27,MS,Rs,f1,f2⟩
  have O7:=pq.change Rs
  have WL:m'.length=l.length:=O7.Jr.len
  have v1:i64.wrap ((mid:Int)-a')=((mid-a':Nat):Int):=by rw [ar (by omega)];omega
  have v2:i64.wrap ((b':Int)-mid)=((b'-mid:Nat):Int):=by rw [ar (by omega)];omega
  have v3:i64.wrap ((mid:Int)+1)=((mid+1:Nat):Int):=by rw [ar (by omega)];omega
  refine ⟨_,_,rfl,ws,e27,by decide,?_⟩
  rw [v1,v2,v3]
  refine ⟨fun _ H3 CQ bk e28 UA=>(ih (mid-a') (by omega) (V:=H3.aA [bk]) e28 ⟨by simp,UA⟩ (MS.le fun b o h=>CQ b o h) (a:=a') (b:=mid) m0 (by omega) (Nat.le_refl _) ES ET (fun h0 k k1 k2=>O7.pre h0 k k1 (by omega))).mono ?_,fun _ H4 ze bk e30 UB=>(ih (b'-(mid+1)) (by omega) (V:=H4.aA [bk]) e30 ⟨by simp,UB⟩ (MS.le fun b o h=>ze b o h) (a:=mid+1) (b:=b') (by omega) (by omega) (Nat.le_refl _) ES ET (fun _ k k1 k2=>f2 k (by omega) k2)).mono ?_⟩
  ·rintro r LD CR ⟨rfl,Oo,m2,e29,Qp,Ru,PF⟩
   exact ⟨rfl,Oo,e29,(((mid+1:Nat):Int),(b':Int),KS,_,t5,Oo),by dsimp only;omega,by and_intros<;>rfl,mid+1,b',m2,rfl,rfl,ES,ET,Qp.le (f_ _),O7.left fq m0 m1 f1 f2 Ru PF⟩
  ·rintro r ON IX ⟨rfl,Oo,m2,e31,Qq,Rw,PH⟩
   exact ⟨rfl,Oo,e31,((a':Int),(mid:Int),KS,_,t5,Oo),by dsimp only;omega,by and_intros<;>rfl,a',mid,m2,rfl,rfl,ES,ET,Qq.le (f_ _),O7.right fq m0 m1 f1 f2 Rw PH⟩
theorem AB {V:View}{lb n c:Nat}{vs:List Value}{l:List (Rat×Rat)}(hw:V.w.heap[lb]?=some (.cells vs.toArray 108 (0,0)))(hx:V.X lb)(h:iV V n vs l) :
  ab prog 150 #[.slice (some ⟨lb,0,none⟩) n c,.func (.func 151) #[] #[]] V fun r V'=>r=.tuple #[]/\∃vs' l',V'.w.heap[lb]?=some (.cells vs'.toArray 108 (0,0))/\iV V' n vs' l'/\l'.Perm l/\l'.Pairwise fun x y=>¬dg y x<0:=by
 have mM:=h.mM
 have len:=h.len
 have w:u64.wrap (n:Int)=n:=aM (by omega)
 refine gq lb n c vs V _ hw hx ?_
 rw [w]
 refine fun V1 l1=>(ky n (by omega)).mono ?_
 rintro r V2 l2 rfl
 have hbl:bf n<=8:=fP.2 (by omega)
 refine ⟨_,rfl,fun V3 l3 bk e3 h3=>(Cv n (V:=V3.aA [bk]) e3 ⟨by simp,h3⟩ (h.le fun b o h=>l3 b o (l2 b o (l1 b o h))) (a:=0) (b:=n) (DY:=(bf n:Int)) (by omega) (by omega) (by omega) (by omega) (by omega) (fun h=>absurd h (by omega))).mono ?_⟩
 rintro r V4 l4 ⟨rfl,vs',l',e4,hs4,sg,Al⟩
 refine ⟨rfl,vs',e4,fun V5 l5 Qx=>⟨rfl,vs',l',Qx,hs4.le fun b o h=>l5 b o h,sg.perm,?_⟩⟩
 have sl:=sg.len
 refine List.pairwise_iff_getElem.2 fun i j hi hj wG=>?_
 have:=Al i j (by omega) wG (by omega)
 rw [List.getD_eq_getElem?_getD,List.getD_eq_getElem?_getD,List.getElem?_eq_getElem hi,List.getElem?_eq_getElem hj] at this
 simp only [Option.getD_some] at this
 exact this
theorem rV {V:View}:ab prog 150 #[.slice none 0 0,.func (.func 151) #[] #[]] V fun r V'=>r=.tuple #[]:=by
 have ins:∀{W:View},ab prog 223 #[.slice none 0 0,.int .i64 0,.int .i64 0,.func (.func 151) #[] #[]] W fun r V'=>r=.tuple #[]:=by
  intro W
  refine dR 0 0 W _ ⟨fun z _=>z=1,fun _=>0,⟨1,by and_intros<;>first|rfl|exact ar (by omega),rfl⟩,?_⟩
  rintro z V1 l1 rfl
  exact ⟨rfl,fun h=>absurd (of_decide_eq_true h) (by omega),fun _ V2 l2=>rfl⟩
 refine jO V _ fun V1 l1=>(ky 0 (by omega)).mono ?_
 rintro r V2 l2 rfl
 refine ⟨_,rfl,fun V3 l3=>?_⟩
 have pdq:ab prog 187 #[.slice none 0 0,.int .i64 0,.int .i64 0,.int .i64 (bf 0:Int),.func (.func 151) #[] #[]] V3 fun r V'=>r=.tuple #[]:=by
  refine fN 0 0 _ V3 _ ⟨fun z _=>z.1=0/\z.2.1=0,fun _=>0,⟨(0,0,_,true,true),by and_intros<;>rfl,rfl,rfl⟩,?_⟩
  rintro ⟨z1,z2,z3,z4,z5⟩ V4 l4 ⟨e1,e2⟩
  dsimp only at e1 e2
  subst e1 e2
  dsimp only
  refine ⟨rfl,fun _ V5 l5=>ins.mono ?_,fun h=>absurd (of_decide_eq_false h) (by decide)⟩
  rintro r V6 l6 rfl
  exact ⟨rfl,fun V7 l7=>rfl⟩
 refine pdq.mono ?_
 rintro r V6 l6 rfl
 exact ⟨rfl,fun V7 l7=>rfl⟩
end Go.Proofs.Tryz
