import Derived.Test.YtdhlkpfmlimjfaaGreatDoorB15
import Derived.Test.YtdhlkpfmlimjfaaGreatDoorB14
import Derived.Test.YtdhlkpfmlimjfaaGreatDoorB8
import Derived.Test.YtdhlkpfmlimjfaaGreatDoorB6
set_option linter.unusedVariables false
open Go.IntKind (i64 u64 u32)
namespace Go.Proofs.Tryz.Sec
open Go.Eng Go.Big
def half (u:V2):Int:=if u.2.num.sign>0\/u.2.num.sign=0/\u.1.num.sign>0 then 1 else if u.2.num.sign<0\/u.1.num.sign<0 then 2 else 0
def ang (u v:V2):Int:=if half u<half v then -1 else if half u>half v then 1 else -(cr u v).num.sign
theorem xN {q:Rat}:q.num.sign>0↔q>0:=by
 have:=Rat.num_nonneg (q:=-q)
 rw [Rat.neg_num] at this
 rw [gt_iff_lt,Int.sign_pos_iff]
 have h2:(0<=-q)↔¬q>0:=by constructor<;>intro h<;>grind
 rw [h2] at this
 by_cases h:q>0
 ·exact ⟨fun _=>h,fun _=>by
   have:¬0<=-q.num:=fun g=>this.1 g h
   omega⟩
 ·exact ⟨fun g=>by have:=this.2 h;omega,fun g=>absurd g h⟩
theorem Ei {q:Rat}:q.num.sign<0↔q<0:=by
 have:=@xN (-q)
 rw [Rat.neg_num,Int.sign_neg] at this
 constructor
 ·intro h;have:=this.1 (by omega);grind
 ·intro h;have:=this.2 (by grind);omega
theorem bU (u:V2):half u=1/\up u\/half u=2/\dn u\/half u=0/\u.1=0/\u.2=0:=by
 unfold half up dn
 split
 ·rename_i h;rw [xN,xN,iQ] at h;exact .inl ⟨rfl,h⟩
 ·rename_i h
  rw [xN,xN,iQ] at h
  split
  ·rename_i h';rw [Ei,Ei] at h';exact .inr (.inl ⟨rfl,by grind⟩)
  ·rename_i h';rw [Ei,Ei] at h';exact .inr (.inr ⟨rfl,by grind,by grind⟩)
theorem mC {u v:V2}:ang u v<0↔half u<half v\/half u=half v/\cr u v>0:=by
 have:=@xN (cr u v)
 unfold ang
 by_cases h1:half u<half v
 ·simp [h1]
 ·by_cases h2:half u>half v
  ·rw [if_neg h1,if_pos h2];omega
  ·rw [if_neg h1,if_neg h2];constructor
   ·intro h;exact .inr ⟨by omega,this.1 (by omega)⟩
   ·rintro (h|⟨h,h'⟩)
    ·omega
    ·have:=this.2 h';omega
theorem jm {u v:V2}:ang u v=0↔half u=half v/\cr u v=0:=by
 have:=@iQ (cr u v)
 unfold ang
 by_cases h1:half u<half v
 ·rw [if_pos h1];constructor
  ·intro h;omega
  ·rintro ⟨h,_⟩;omega
 ·by_cases h2:half u>half v
  ·rw [if_neg h1,if_pos h2];constructor
   ·intro h;omega
   ·rintro ⟨h,_⟩;omega
  ·rw [if_neg h1,if_neg h2];constructor
   ·intro h;exact ⟨by omega,this.1 (by omega)⟩
   ·rintro ⟨_,h⟩;have:=this.2 h;omega
theorem se (u v:V2):ang u v<0\/ang u v=0\/ang v u<0:=by
 rw [mC,jm,mC]
 have:=fN u v
 rcases Int.lt_trichotomy (half u) (half v) with h|h|h
 ·exact .inl (.inl h)
 ·by_cases p:cr u v>0
  ·exact .inl (.inr ⟨h,p⟩)
  ·by_cases q:cr u v=0
   ·exact .inr (.inl ⟨h,q⟩)
   ·exact .inr (.inr (.inr ⟨h.symm,by grind⟩))
 ·exact .inr (.inr (.inl h))
theorem rH (u v:V2)(h:ang u v<0):¬ang v u<0:=by
 rw [mC] at *
 have:=fN u v
 rintro (h'|⟨h',g'⟩)<;>rcases h with h|⟨h,g⟩
 ·omega
 ·omega
 ·omega
 ·grind
theorem IH {a b d:V2}(hab:half a=half b)(hbd:half b=half d)(h1:cr a b<=0)(h2:cr b d<=0):cr a d<=0:=by
 by_cases h:cr a d<=0
 ·exact h
 exfalso
 have c:cr a d>0:=by grind
 have j1:=LG a d b
 have j2:=CS a d b
 rcases bU b with ⟨e,hb⟩|⟨e,hb⟩|⟨e,hb⟩
 ·have ha:up a:=by rcases bU a with ⟨e',h⟩|⟨e',h⟩|⟨e',h⟩<;>first|exact h|omega
  have hd:up d:=by rcases bU d with ⟨e',h⟩|⟨e',h⟩|⟨e',h⟩<;>first|exact h|omega
  unfold up at ha hb hd
  have m1:=mn (show -(cr a b)≥0 by grind) (show d.2≥0 by grind)
  have m2:=mn (show -(cr b d)≥0 by grind) (show a.2≥0 by grind)
  have m3:=mn (show cr a d≥0 by grind) (show b.2≥0 by grind)
  have z3:cr a d*b.2=0:=by grind
  have b2:b.2=0:=by rcases Rat.mul_eq_zero.1 z3 with h|h<;>grind
  have b1:b.1>0:=by grind
  have d2:d.2=0:=by
   by_cases q:d.2>0
   ·have:=mp b1 q;unfold cr at h2;rw [b2] at h2;grind
   ·grind
  have d1:d.1>0:=by grind
  have:=mn (show a.2≥0 by grind) (show d.1≥0 by grind)
  unfold cr at c
  rw [d2] at c
  grind
 ·have ha:dn a:=by rcases bU a with ⟨e',h⟩|⟨e',h⟩|⟨e',h⟩<;>first|exact h|omega
  have hd:dn d:=by rcases bU d with ⟨e',h⟩|⟨e',h⟩|⟨e',h⟩<;>first|exact h|omega
  unfold dn at ha hb hd
  have m1:=mn (show -(cr a b)≥0 by grind) (show -d.2≥0 by grind)
  have m2:=mn (show -(cr b d)≥0 by grind) (show -a.2≥0 by grind)
  have m3:=mn (show cr a d≥0 by grind) (show -b.2≥0 by grind)
  have z3:cr a d*b.2=0:=by grind
  have b2:b.2=0:=by rcases Rat.mul_eq_zero.1 z3 with h|h<;>grind
  have b1:-b.1>0:=by grind
  have d2:d.2=0:=by
   by_cases q:-d.2>0
   ·have:=mp b1 q;unfold cr at h2;rw [b2] at h2;grind
   ·grind
  have d1:d.1<0:=by grind
  have:=mn (show -a.2≥0 by grind) (show -d.1≥0 by grind)
  unfold cr at c
  rw [d2] at c
  grind
 ·have ha:a.1=0/\a.2=0:=by rcases bU a with ⟨e',h⟩|⟨e',h⟩|⟨e',h⟩<;>first|exact h|omega
  unfold cr at c
  rw [ha.1,ha.2] at c
  grind
theorem KZ {u v:V2}:¬ang u v<0↔half v<half u\/half u=half v/\cr u v<=0:=by
 rw [mC]
 constructor
 ·intro h
  rcases Int.lt_trichotomy (half u) (half v) with g|g|g
  ·exact absurd (.inl g) h
  ·exact .inr ⟨g,by by_cases p:cr u v>0;exact absurd (.inr ⟨g,p⟩) h;grind⟩
  ·exact .inl g
 ·rintro (h|⟨h,g⟩) (h'|⟨h',g'⟩)
  ·omega
  ·omega
  ·omega
  ·grind
theorem si (a b d:V2)(h:¬ang a b<0)(h':¬ang b d<0):¬ang a d<0:=by
 rw [KZ] at *
 rcases h with h|⟨h,g⟩<;>rcases h' with h'|⟨h',g'⟩
 ·exact .inl (by omega)
 ·exact .inl (by omega)
 ·exact .inl (by omega)
 ·exact .inr ⟨by omega,IH h h' g g'⟩
theorem K0 {u v:V2}(hu:nz u)(hv:nz v):ang u v<0↔qO u v:=by
 have h0:∀{w:V2},nz w->¬(w.1=0/\w.2=0):=fun h g=>by unfold nz at h;rcases h with h|h;exact h g.1;exact h g.2
 rw [mC]
 unfold qO
 rcases bU u with ⟨e,h⟩|⟨e,h⟩|⟨e,h⟩
 ·rcases bU v with ⟨e',h'⟩|⟨e',h'⟩|⟨e',h'⟩
  ·rw [e,e'];constructor
   ·rintro (g|⟨_,g⟩)
    ·omega
    ·exact .inr ⟨.inl ⟨h,h'⟩,g⟩
   ·rintro (⟨_,g⟩|⟨_,g⟩)
    ·exact (dZ h' g).elim
    ·exact .inr ⟨rfl,g⟩
  ·rw [e,e'];exact ⟨fun _=>.inl ⟨h,h'⟩,fun _=>.inl (by decide)⟩
  ·exact absurd h' (h0 hv)
 ·rcases bU v with ⟨e',h'⟩|⟨e',h'⟩|⟨e',h'⟩
  ·rw [e,e'];constructor
   ·rintro (g|⟨g,_⟩)<;>omega
   ·rintro (⟨g,_⟩|⟨⟨g,_⟩|⟨_,g⟩,_⟩)
    ·exact (dZ g h).elim
    ·exact (dZ g h).elim
    ·exact (dZ h' g).elim
  ·rw [e,e'];constructor
   ·rintro (g|⟨_,g⟩)
    ·omega
    ·exact .inr ⟨.inr ⟨h,h'⟩,g⟩
   ·rintro (⟨g,_⟩|⟨_,g⟩)
    ·exact (dZ g h).elim
    ·exact .inr ⟨rfl,g⟩
  ·exact absurd h' (h0 hv)
 ·exact absurd h (h0 hu)
theorem zR {u v:V2}(hu:nz u)(h:ang u v=0):∃c:Rat,c>0/\u=(c*v.1,c*v.2):=by
 rw [jm] at h
 obtain ⟨e,c⟩:=h
 have fin:∀k:Rat,k>0->u.1=k*v.1->u.2=k*v.2->∃c:Rat,c>0/\u=(c*v.1,c*v.2):=fun k h0 h1 h2=>⟨k,h0,Prod.ext h1 h2⟩
 have pos:∀x y:Rat,y≠0->x*y>0->x*y⁻¹>0:=fun x y hy h=>by
  have e:=inv_mul hy x
  generalize x*y⁻¹=t at *
  have e2:t*(y*y)=x*y:=by grind
  have:=sq_pos (u:=(y,0)) (.inl hy)
  unfold dt at this
  by_cases q:t>0
  ·exact q
  ·have:=mn (show -t≥0 by grind) (show y*y≥0 by grind);grind
 unfold cr at c
 have two:v.2≠0->u.2*v.2>0->∃c:Rat,c>0/\u=(c*v.1,c*v.2):=fun h0 h1=>by
  refine fin (u.2*v.2⁻¹) (pos _ _ h0 h1) ?_ (inv_mul h0 _).symm
  have:=inv_mul h0 u.1
  have:u.1*v.2*v.2⁻¹=u.2*v.1*v.2⁻¹:=by rw [show u.1*v.2=u.2*v.1 by grind]
  grind
 have one:v.1≠0->u.1*v.1>0->v.2=0->u.2=0->∃c:Rat,c>0/\u=(c*v.1,c*v.2):=fun h0 h1 h2 h3=>
  fin (u.1*v.1⁻¹) (pos _ _ h0 h1) (inv_mul h0 _).symm (by rw [h2,h3];grind)
 rcases bU u with ⟨e1,h⟩|⟨e1,h⟩|⟨e1,h⟩
 ·have h':up v:=by rcases bU v with ⟨e',h⟩|⟨e',h⟩|⟨e',h⟩<;>first|exact h|omega
  unfold up at h h'
  by_cases q:v.2>0
  ·refine two (by grind) ?_
   by_cases q':u.2>0
   ·exact mp q' q
   ·have u2:u.2=0:=by grind
    have:=mp (show u.1>0 by grind) q
    rw [u2] at c;grind
  ·have v2:v.2=0:=by grind
   have v1:v.1>0:=by grind
   by_cases q':u.2>0
   ·have:=mp q' v1;rw [v2] at c;grind
   ·exact one (by grind) (mp (by grind) v1) v2 (by grind)
 ·have h':dn v:=by rcases bU v with ⟨e',h⟩|⟨e',h⟩|⟨e',h⟩<;>first|exact h|omega
  unfold dn at h h'
  by_cases q:v.2<0
  ·refine two (by grind) ?_
   by_cases q':u.2<0
   ·have:=mp (show -u.2>0 by grind) (show -v.2>0 by grind);grind
   ·have u2:u.2=0:=by grind
    have:=mp (show -u.1>0 by grind) (show -v.2>0 by grind)
    rw [u2] at c;grind
  ·have v2:v.2=0:=by grind
   have v1:-v.1>0:=by grind
   by_cases q':u.2<0
   ·have:=mp (show -u.2>0 by grind) v1;rw [v2] at c;grind
   ·refine one (by grind) ?_ v2 (by grind)
    have:=mp (show -u.1>0 by grind) v1;grind
 ·unfold nz at hu;grind
theorem Ix {a b d:V2}(h:ang a b=0)(h':ang b d=0):ang a d=0:=by
 have z:∀{u v:V2},ang u v=0↔¬ang u v<0/\¬ang v u<0:=by
  intro u v
  constructor
  ·intro e
   refine ⟨by omega,?_⟩
   rw [jm] at e
   have:=fN u v
   rw [mC]
   rintro (g|⟨_,g⟩)
   ·omega
   ·grind
  ·rintro ⟨g,g'⟩
   rcases se u v with e|e|e
   ·exact absurd e g
   ·exact e
   ·exact absurd e g'
 rw [z] at *
 exact ⟨si _ _ _ h.1 h'.1,si _ _ _ h'.2 h.2⟩
theorem sf (a:V2):ang a a=0:=jm.2 ⟨rfl,by unfold cr;grind⟩
theorem DL {a b d:V2}(h:¬ang b a<0)(h':ang b d<0):ang a d<0:=by
 by_cases q:ang a d<0
 ·exact q
 ·exact absurd h' (si _ _ _ h q)
def eP (u v:V2):Bool:=decide (ang u v=0)
theorem Al:∀{r:List V2} {p:V2},(p::r).Pairwise (fun x y=>¬ang y x<0) ->
  (yA eP p r).Pairwise (fun x y=>ang x y<0)/\(∀x∈yA eP p r,ang p x<0)/\∀x∈p::r,∃y∈p::yA eP p r,ang y x=0
 | [],p,_=>⟨List.Pairwise.nil,(fun x h=>by cases h),fun x h=>⟨x,h,sf x⟩⟩
 | a::r,p,h=>by
  obtain ⟨h1,h2⟩:=List.pairwise_cons.1 h
  obtain ⟨i1,i2,i3⟩:=Al h2
  have pa:¬ang a p<0:=h1 a (List.mem_cons_self ..)
  unfold yA
  by_cases e:ang a p=0
  ·have:eP a p=true:=decide_eq_true e
   rw [if_pos this]
   have pa':¬ang p a<0:=fun g=>by
    rcases jm.1 e with ⟨e1,e2⟩
    rw [mC] at g
    have:=fN a p
    rcases g with g|⟨_,g⟩
    ·omega
    ·grind
   refine ⟨i1,fun x hx=>DL pa (i2 x hx),fun x hx=>?_⟩
   rcases List.mem_cons.1 hx with rfl|hx
   ·exact ⟨x,List.mem_cons_self ..,sf x⟩
   ·obtain ⟨y,hy,g⟩:=i3 x hx
    rcases List.mem_cons.1 hy with rfl|hy
    ·refine ⟨p,List.mem_cons_self ..,Ix (b:=y) ?_ g⟩
     rcases se p y with q|q|q
     ·exact absurd q pa'
     ·exact q
     ·exact absurd q pa
    ·exact ⟨y,List.mem_cons_of_mem _ hy,g⟩
  ·have:eP a p=false:=decide_eq_false e
   rw [this]
   have lt:ang p a<0:=by
    rcases se p a with q|q|q
    ·exact q
    ·exfalso;apply e
     rw [jm] at *
     have:=fN a p
     exact ⟨q.1.symm,by grind⟩
    ·exact absurd q pa
   refine ⟨List.pairwise_cons.2 ⟨i2,i1⟩,fun x hx=>?_,fun x hx=>?_⟩
   ·rcases List.mem_cons.1 hx with rfl|hx
    ·exact lt
    ·exact DL (b:=a) pa (i2 x hx)
   ·rcases List.mem_cons.1 hx with rfl|hx
    ·exact ⟨x,List.mem_cons_self ..,sf x⟩
    ·obtain ⟨y,hy,g⟩:=i3 x hx
     exact ⟨y,List.mem_cons_of_mem _ hy,g⟩
theorem Gg {m:List V2}(h:m.Pairwise (fun x y=>¬ang y x<0)):(vD eP m).Pairwise (fun x y=>ang x y<0)/\∀x∈m,∃y∈vD eP m,ang y x=0:=by
 cases m with
 | nil=>exact ⟨List.Pairwise.nil,fun x h=>by cases h⟩
 | cons p r=>
  obtain ⟨h1,h2,h3⟩:=Al h
  exact ⟨List.pairwise_cons.2 ⟨h2,h1⟩,h3⟩
theorem Mg {m:List V2}(h:m.Pairwise (fun x y=>¬ang y x<0))(hn:∀r∈m,nz r)(ho:∀r∈m,∃s∈m,RX s r):J7 (vD eP m)/\∀x∈m,∃y∈vD eP m,∃c:Rat,c>0/\y=(c*x.1,c*x.2):=by
 obtain ⟨h1,h2⟩:=Gg h
 have sub:∀x∈vD eP m,x∈m:=Gh
 have mem:∀x∈m,∃y∈vD eP m,∃c:Rat,c>0/\y=(c*x.1,c*x.2):=fun x hx=>by
  obtain ⟨y,hy,e⟩:=h2 x hx
  exact ⟨y,hy,zR (hn y (sub y hy)) e⟩
 refine ⟨⟨fun r hr=>hn r (sub r hr),fun r hr=>?_,?_⟩,mem⟩
 ·obtain ⟨s,hs,k,k0,e1,e2⟩:=ho r (sub r hr)
  obtain ⟨y,hy,c,c0,e⟩:=mem s hs
  refine ⟨y,hy,c*k,mp c0 k0,?_,?_⟩
  ·rw [e];show c*s.1=_;rw [e1];grind
  ·rw [e];show c*s.2=_;rw [e2];grind
 ·refine List.Pairwise.imp_of_mem ?_ h1
  intro a b ha hb g
  exact (K0 (hn a (sub a ha)) (hn b (sub b hb))).1 g
section
variable {D:List V2} (h:J7 D)
include h
theorem LW {i:Nat}{u w:V2}(hi:D[i]?=some u)(hw:D[(i+1)%D.length]?=some w):cr u w≥0:=by
 by_cases q:cr u w≥0
 ·exact q
 exfalso
 have NZ:w∈D:=List.mem_of_getElem? hw
 have hu:u∈D:=List.mem_of_getElem? hi
 obtain ⟨s,hs,ho⟩:=h.cl w NZ
 obtain ⟨k,k0,_,e2⟩:=yP ho u
 have p:cr u s>0:=by rw [e2];have:=mp k0 (show -(cr u w)>0 by grind);grind
 obtain ⟨j,hj⟩:=List.getElem?_of_mem hs
 refine Kc (h.nz u hu) (h.nz w NZ) (h.nz s hs) (Qp h hi hw hj (fun e=>?_) (fun e=>?_)) p (by grind)
 ·rw [e,hi] at hj;cases hj;unfold cr at p;grind
 ·rw [e,hw] at hj;cases hj;grind
omit h in
def O8 (f:V2->V2->V2)(D:List V2):List V2:=(List.range D.length).map fun i=>f (D.getD i (0,0)) (D.getD ((i+1)%D.length) (0,0))
theorem JE {f:V2->V2->V2}(hf:∀u∈D,∀w∈D,cr u w≥0->Ex u w (f u w))(hD:D≠[]):Py D (O8 f D):=by
 have hl:0<D.length:=List.length_pos_iff.2 hD
 have key:∀i u w,D[i]?=some u->D[(i+1)%D.length]?=some w->D.getD i (0,0)=u/\D.getD ((i+1)%D.length) (0,0)=w/\Ex u w (f u w):=fun i u w hi hw=>
  ⟨by rw [List.getD_eq_getElem?_getD,hi];rfl,by rw [List.getD_eq_getElem?_getD,hw];rfl,hf u (List.mem_of_getElem? hi) w (List.mem_of_getElem? hw) (LW h hi hw)⟩
 refine .inr ⟨hD,fun x hx=>?_,fun i u w hi hw=>?_⟩
 ·obtain ⟨i,hi,rfl⟩:=List.mem_map.1 hx
  have hi:=List.mem_range.1 hi
  have e1:D[i]?=some D[i]:=List.getElem?_eq_getElem hi
  have e2:D[(i+1)%D.length]?=some (D[(i+1)%D.length]'(Nat.mod_lt _ hl)):=List.getElem?_eq_getElem _
  obtain ⟨k1,k2,k3⟩:=key i _ _ e1 e2
  exact ⟨i,_,_,e1,e2,by rw [k1,k2];exact k3⟩
 ·obtain ⟨k1,k2,k3⟩:=key i u w hi hw
  refine ⟨_,List.mem_map.2 ⟨i,List.mem_range.2 (List.getElem?_eq_some_iff.1 hi).1,rfl⟩,?_⟩
  rw [k1,k2];exact k3
end
theorem rL {a b c x y z:Int}(h1:a*y=b*x)(h2:a*z=c*x)(g:Nat.gcd (Nat.gcd x.natAbs y.natAbs) z.natAbs=1):x.natAbs∣a.natAbs:=by
 have e1:a.natAbs*y.natAbs=b.natAbs*x.natAbs:=by rw [←Int.natAbs_mul,←Int.natAbs_mul,h1]
 have e2:a.natAbs*z.natAbs=c.natAbs*x.natAbs:=by rw [←Int.natAbs_mul,←Int.natAbs_mul,h2]
 have d1:x.natAbs∣a.natAbs*Nat.gcd (Nat.gcd x.natAbs y.natAbs) z.natAbs:=by
  rw [←Nat.gcd_mul_left,←Nat.gcd_mul_left]
  exact Nat.dvd_gcd (Nat.dvd_gcd ⟨a.natAbs,by rw [Nat.mul_comm]⟩ ⟨b.natAbs,by rw [e1,Nat.mul_comm]⟩) ⟨c.natAbs,by rw [e2,Nat.mul_comm]⟩
 rwa [g,Nat.mul_one] at d1
theorem Fp {l m:L3}(ol:okL l=true)(om:okL m=true)(cl:ka l=l)(cm:ka m=m){x y:Rat}(hl:aj l x y=0)(hm:aj m x y=0)
  (hc:cr (dirL l) (dirL m)=0):l=m:=by
 unfold okL at ol om
 rw [Bool.and_eq_true,decide_eq_true_iff,decide_eq_true_iff] at ol om
 have c12:l.1*m.2.1=l.2.1*m.1:=by
  unfold cr dirL at hc
  have:(l.1:Rat)*(m.2.1:Rat)=(l.2.1:Rat)*(m.1:Rat):=by grind
  exact_mod_cast this
 unfold aj at hl hm
 have YS:(l.1:Rat)*(m.2.1:Rat)=(l.2.1:Rat)*(m.1:Rat):=by exact_mod_cast c12
 have c13:l.1*m.2.2=l.2.2*m.1:=by
  have:(l.1:Rat)*(m.2.2:Rat)=(l.2.2:Rat)*(m.1:Rat):=by grind
  exact_mod_cast this
 have c23:l.2.1*m.2.2=l.2.2*m.2.1:=by
  have:(l.2.1:Rat)*(m.2.2:Rat)=(l.2.2:Rat)*(m.2.1:Rat):=by grind
  exact_mod_cast this
 obtain ⟨Xe,RU⟩:=ol
 obtain ⟨YM,RV⟩:=om
 unfold gW at RU RV
 have Wh:Nat.gcd (Nat.gcd l.2.1.natAbs l.1.natAbs) l.2.2.natAbs=1:=by rw [Nat.gcd_comm l.2.1.natAbs];exact RU
 have Wk:Nat.gcd (Nat.gcd m.2.1.natAbs m.1.natAbs) m.2.2.natAbs=1:=by rw [Nat.gcd_comm m.2.1.natAbs];exact RV
 have a1:l.1.natAbs=m.1.natAbs:=Nat.dvd_antisymm (rL (a:=m.1) (b:=m.2.1) (c:=m.2.2) (by rw [Int.mul_comm,←c12,Int.mul_comm]) (by rw [Int.mul_comm,←c13,Int.mul_comm]) RU) (rL c12 c13 RV)
 have a2:l.2.1.natAbs=m.2.1.natAbs:=Nat.dvd_antisymm (rL (a:=m.2.1) (b:=m.1) (c:=m.2.2) (by rw [Int.mul_comm,c12,Int.mul_comm]) (by rw [Int.mul_comm,←c23,Int.mul_comm]) Wh) (rL (b:=l.1) (c:=l.2.2) c12.symm c23 Wk)
 have sl:¬(l.1<0\/l.1=0/\l.2.1<0):=fun h=>by
  unfold ka at cl
  rw [if_pos h] at cl
  have e1:-l.1=l.1:=congrArg (fun x:L3=>x.1) cl
  have e2:-l.2.1=l.2.1:=congrArg (fun x:L3=>x.2.1) cl
  omega
 have sm:¬(m.1<0\/m.1=0/\m.2.1<0):=fun h=>by
  unfold ka at cm
  rw [if_pos h] at cm
  have e1:-m.1=m.1:=congrArg (fun x:L3=>x.1) cm
  have e2:-m.2.1=m.2.1:=congrArg (fun x:L3=>x.2.1) cm
  omega
 have e1:l.1=m.1:=by omega
 by_cases z:l.1=0
 ·have e2:l.2.1=m.2.1:=by omega
  have n2:l.2.1≠0:=fun h=>Xe ⟨z,h⟩
  have e3:m.2.2=l.2.2:=Int.eq_of_mul_eq_mul_left n2 (by rw [c23,e2,Int.mul_comm])
  exact Prod.ext e1 (Prod.ext e2 e3.symm)
 ·have e2:m.2.1=l.2.1:=Int.eq_of_mul_eq_mul_left z (by rw [c12,e1,Int.mul_comm])
  have e3:m.2.2=l.2.2:=Int.eq_of_mul_eq_mul_left z (by rw [c13,e1,Int.mul_comm])
  exact Prod.ext e1 (Prod.ext e2.symm e3.symm)
end Go.Proofs.Tryz.Sec
namespace Go.Proofs.Tryz.Sec
def mx (x:Rat×Rat)(t:Rat):Rat:=x.1+t*(x.2-x.1)
theorem CY {x:Rat×Rat}{t:Rat}(h1:x.1>0)(h2:x.2>0)(t0:t>0)(t1:t<=1):mx x t>0:=by
 have a:=mn (show 1-t≥0 by grind) (show x.1≥0 by grind)
 have b:=mp t0 h2
 unfold mx;grind
theorem LR {x:Rat×Rat}{t s:Rat}(h1:x.1>0)(hs:mx x s≥0)(s0:s>0)(t0:t>0)(ts:t<=s):mx x t≥0:=by
 unfold mx at *
 have e:s*(x.1+t*(x.2-x.1))=(s-t)*x.1+t*(x.1+s*(x.2-x.1)):=by grind
 have a:=mn (show s-t≥0 by grind) (show x.1≥0 by grind)
 have b:=mn (show t≥0 by grind) hs
 by_cases h:x.1+t*(x.2-x.1)≥0
 ·exact h
 ·have:=mp s0 (show -(x.1+t*(x.2-x.1))>0 by grind)
  grind
theorem rV {y:Rat×Rat}(h1:y.1>0){s:Rat}(s0:s>0)(hs:mx y s<=0):∃t,t>0/\t<=s/\mx y t=0:=by
 have hd:y.1-y.2>0:=by
  by_cases c:y.1-y.2>0
  ·exact c
  ·have:=mn (show s≥0 by grind) (show y.2-y.1≥0 by grind)
   unfold mx at hs;grind
 have e:=inv_mul (show y.1-y.2≠0 by grind) y.1
 have p:=mp h1 (Rat.inv_pos.2 hd)
 refine ⟨y.1*(y.1-y.2)⁻¹,p,?_,?_⟩
 ·generalize y.1*(y.1-y.2)⁻¹=t at *
  by_cases c:t<=s
  ·exact c
  ·have:=mp (show t-s>0 by grind) hd
   unfold mx at hs;grind
 ·generalize y.1*(y.1-y.2)⁻¹=t at *
  unfold mx;grind
theorem CE:∀(L:List (Rat×Rat)),(∀x∈L,x.1>0)->(∃x∈L,x.2<=0)->∃t,t>0/\t<=1/\(∀x∈L,mx x t≥0)/\∃x∈L,mx x t=0
 | [],_,h=>by obtain ⟨x,hx,_⟩:=h;cases hx
 | y::L,h0,h=>by
  have hy:=h0 y (List.mem_cons_self ..)
  have hL:=fun x hx=>h0 x (List.mem_cons_of_mem y hx)
  by_cases c:∃x∈L,x.2<=0
  ·obtain ⟨t,t0,t1,a,x,hx,e⟩:=CE L hL c
   by_cases g:mx y t≥0
   ·exact ⟨t,t0,t1,fun z hz=>by rcases List.mem_cons.1 hz with rfl|hz;exact g;exact a z hz,x,List.mem_cons_of_mem _ hx,e⟩
   ·obtain ⟨s,s0,st,es⟩:=rV hy t0 (by grind)
    exact ⟨s,s0,by grind,fun z hz=>by rcases List.mem_cons.1 hz with rfl|hz;grind;exact LR (hL z hz) (a z hz) t0 s0 st,y,List.mem_cons_self ..,es⟩
  ·obtain ⟨x,hx,hx2⟩:=h
   have:x=y:=by
    rcases List.mem_cons.1 hx with rfl|hx
    ·rfl
    ·exact absurd ⟨x,hx,hx2⟩ c
   subst this
   obtain ⟨s,s0,st,es⟩:=rV hy (s:=1) (by decide) (by unfold mx;grind)
   refine ⟨s,s0,st,fun z hz=>?_,x,List.mem_cons_self ..,es⟩
   rcases List.mem_cons.1 hz with rfl|hz
   ·grind
   ·have:z.2>0:=by
     by_cases q:z.2>0
     ·exact q
     ·exact absurd ⟨z,hz,by grind⟩ c
    have:=CY (hL z hz) this s0 st
    grind
theorem uo:∀(L:List (Rat×Rat)),(∀x∈L,x.1>0)->∃s,s>0/\∀x∈L,x.1+s*x.2>0
 | [],_=>⟨1,by decide,fun x h=>by cases h⟩
 | y::L,h0=>by
  have hy:=h0 y (List.mem_cons_self ..)
  obtain ⟨s,s0,h⟩:=uo L fun x hx=>h0 x (List.mem_cons_of_mem y hx)
  by_cases c:y.1+s*y.2>0
  ·exact ⟨s,s0,fun z hz=>by rcases List.mem_cons.1 hz with rfl|hz;exact c;exact h z hz⟩
  ·have hn:-y.2>0:=by
    by_cases q:y.2<0
    ·grind
    ·have:=mn (show s≥0 by grind) (show y.2≥0 by grind);grind
   have e:=inv_mul (show -y.2≠0 by grind) y.1
   have p:=mp hy (Rat.inv_pos.2 hn)
   generalize y.1*(-y.2)⁻¹=r at *
   have hr:r<=s:=by
    by_cases q:r<=s
    ·exact q
    ·have:=mp (show r-s>0 by grind) hn;grind
   refine ⟨r*(1 / 2),by grind,fun z hz=>?_⟩
   rcases List.mem_cons.1 hz with rfl|hz
   ·grind
   ·have hz1:=h0 z (List.mem_cons_of_mem _ hz)
    have hz2:=h z hz
    by_cases q:z.2≥0
    ·have:=mn (show r*(1 / 2)≥0 by grind) q;grind
    ·have:=mn (show s-r*(1 / 2)≥0 by grind) (show -z.2≥0 by grind)
     grind
def pos (M:List L3)(p:V2):Prop:=∀m∈M,aj m p.1 p.2>0
def Es (M:List L3)(l:L3):Prop:=∃p:V2,aj l p.1 p.2=0/\∀m∈M,m≠l->aj m p.1 p.2>0
def P4 (M:List L3):Prop:=∀l∈M,∀m∈M,l≠m->∀p:V2,aj l p.1 p.2=0->aj m p.1 p.2=0->cr (dirL l) (dirL m)≠0
theorem Jo {l m:L3}{w:V2}(hw:w.1≠0\/w.2≠0)(h1:nv l w=0)(h2:nv m w=0):cr (dirL l) (dirL m)=0:=by
 have e1:cr (dirL l) (dirL m)*w.1=0:=by unfold nv at *;unfold cr dirL;grind
 have e2:cr (dirL l) (dirL m)*w.2=0:=by unfold nv at *;unfold cr dirL;grind
 rcases hw with h|h
 ·rcases Rat.mul_eq_zero.1 e1 with g|g;exact g;exact absurd g h
 ·rcases Rat.mul_eq_zero.1 e2 with g|g;exact g;exact absurd g h
theorem DT (u:V2):cr u u=0:=by unfold cr;grind
theorem oH (m:L3)(q p:V2)(t:Rat):aj m (q.1+t*(p.1-q.1)) (q.2+t*(p.2-q.2))=aj m q.1 q.2+t*(aj m p.1 p.2-aj m q.1 q.2):=by unfold aj;grind
theorem LU (m:L3)(q p:V2)(t:Rat):nv m (q.1+t*(p.1-q.1),q.2+t*(p.2-q.2))=nv m q+t*(nv m p-nv m q):=by unfold nv;grind
theorem LV (m:L3)(q x:V2):nv m (q.1-x.1,q.2-x.2)=aj m q.1 q.2-aj m x.1 x.2:=by unfold nv aj;grind
theorem TF {M:List L3}(hd:P4 M)(hn:∀m∈M,(dirL m).1≠0\/(dirL m).2≠0){q p:V2}(hq:pos M q)(hp:∀m∈M,Es M m->aj m p.1 p.2>0):pos M p:=by
 intro m0 hm0
 by_cases c:aj m0 p.1 p.2>0
 ·exact c
 exfalso
 let f:L3->Rat×Rat:=fun m=>(aj m q.1 q.2,aj m p.1 p.2)
 obtain ⟨t,t0,t1,ge,x,hx,ex⟩:=CE (M.map f) (fun x hx=>by obtain ⟨m,hm,rfl⟩:=List.mem_map.1 hx;exact hq m hm) ⟨f m0,List.mem_map_of_mem hm0,by show aj m0 p.1 p.2<=0;grind⟩
 obtain ⟨m1,hm1,rfl⟩:=List.mem_map.1 hx
 let X:V2:=(q.1+t*(p.1-q.1),q.2+t*(p.2-q.2))
 have vX:∀m,aj m X.1 X.2=mx (f m) t:=fun m=>oH m q p t
 have Wc:∀m∈M,aj m X.1 X.2≥0:=fun m hm=>by rw [vX];exact ge _ (List.mem_map_of_mem hm)
 have zX:aj m1 X.1 X.2=0:=by rw [vX];exact ex
 let u:V2:=(q.1-X.1,q.2-X.2)
 have vu:∀m,nv m u=aj m q.1 q.2-aj m X.1 X.2:=fun m=>LV m q X
 let Z:=M.filter fun m=>decide (aj m X.1 X.2=0)
 have Jh:∀m,m∈Z↔m∈M/\aj m X.1 X.2=0:=fun m=>by simp [Z,List.mem_filter]
 have W9:m1∈Z:=(Jh m1).2 ⟨hm1,zX⟩
 let d:=dirL m1
 have d0:nv m1 d=0:=by rw [D_];exact DT _
 let g:L3->Rat×Rat:=fun m=>(nv m u,nv m d)
 obtain ⟨k,k0,k1,We,y,hy,ey⟩:=CE (Z.map g) (fun x hx=>by
  obtain ⟨m,hm,rfl⟩:=List.mem_map.1 hx
  obtain ⟨WH,hz⟩:=(Jh m).1 hm
  show nv m u>0
  rw [vu,hz];have:=hq m WH;grind) ⟨g m1,List.mem_map_of_mem W9,by show nv m1 d<=0;rw [d0];grind⟩
 obtain ⟨m2,hm2,rfl⟩:=List.mem_map.1 hy
 obtain ⟨RJ,RK⟩:=(Jh m2).1 hm2
 let w:V2:=(u.1+k*(d.1-u.1),u.2+k*(d.2-u.2))
 have vw:∀m,nv m w=mx (g m) k:=fun m=>LU m u d k
 have wz:nv m2 w=0:=by rw [vw];exact ey
 have w0:w.1≠0\/w.2≠0:=by
  by_cases e:k=1
  ·have:=hn m1 hm1
   have e1:w.1=d.1:=by dsimp only [w];rw [e];grind
   have e2:w.2=d.2:=by dsimp only [w];rw [e];grind
   rw [e1,e2];exact this
  ·have a:nv m1 w>0:=by
    rw [vw]
    show nv m1 u+k*(nv m1 d-nv m1 u)>0
    rw [d0]
    have:nv m1 u>0:=by rw [vu,zX];have:=hq m1 hm1;grind
    have:=mp (show 1-k>0 by grind) this
    grind
   by_cases e1:w.1=0
   ·by_cases e2:w.2=0
    ·unfold nv at a;rw [e1,e2] at a;grind
    ·exact .inr e2
   ·exact .inl e1
 obtain ⟨s,s0,hs⟩:=uo ((M.filter fun m=>decide (aj m X.1 X.2>0)).map fun m=>(aj m X.1 X.2,nv m w)) (fun x hx=>by
  obtain ⟨m,hm,rfl⟩:=List.mem_map.1 hx
  simpa using (List.mem_filter.1 hm).2)
 have es:Es M m2:=by
  refine ⟨(X.1+s*w.1,X.2+s*w.2),?_,fun m hm hne=>?_⟩
  ·rw [fy,RK,wz];grind
  ·rw [fy]
   by_cases z:aj m X.1 X.2=0
   ·have WI:=(Jh m).2 ⟨hm,z⟩
    have g0:nv m w≥0:=by rw [vw];exact We _ (List.mem_map_of_mem WI)
    have ne:nv m w≠0:=fun e=>hd m2 RJ m hm (fun h=>hne h.symm) X RK z (Jo w0 wz e)
    have:=mp s0 (show nv m w>0 by grind)
    rw [z];grind
   ·have gz:=Wc m hm
    have hmem:(aj m X.1 X.2,nv m w)∈((M.filter fun m=>decide (aj m X.1 X.2>0)).map fun m=>(aj m X.1 X.2,nv m w)):=List.mem_map.2 ⟨m,List.mem_filter.2 ⟨hm,by simp;grind⟩,rfl⟩
    exact hs _ hmem
 have a:=hp m2 RJ es
 have b:=hq m2 RJ
 have:=CY (x:=f m2) b a t0 t1
 rw [←vX,RK] at this
 grind
def D8 (l:L3):V2:=((l.1:Rat),(l.2.1:Rat))
theorem Sy {x y:Rat}(h:x≠0\/y≠0):x*x+y*y>0:=by
 have p:∀z:Rat,z≠0->z*z>0:=fun z hz=>by
  by_cases c:z>0
  ·exact mp c c
  ·have:=mp (show -z>0 by grind) (show -z>0 by grind);grind
 have q:∀z:Rat,z*z≥0:=fun z=>by
  by_cases c:z≥0
  ·exact mn c c
  ·have:=mn (show -z≥0 by grind) (show -z≥0 by grind);grind
 rcases h with h|h
 ·have:=p x h;have:=q y;grind
 ·have:=p y h;have:=q x;grind
theorem Hi {l:L3}(h:(dirL l).1≠0\/(dirL l).2≠0):nv l (D8 l)>0:=by
 have:nv l (D8 l)=(l.1:Rat)*(l.1:Rat)+(l.2.1:Rat)*(l.2.1:Rat):=rfl
 rw [this]
 refine Sy ?_
 rcases h with h|h
 ·exact .inr h
 ·left;intro e;apply h;show -(l.1:Rat)=0;rw [e];grind
theorem IK {M:List L3}(hd:P4 M)(hn:∀m∈M,(dirL m).1≠0\/(dirL m).2≠0){q:V2}(hq:pos M q)(h0:M≠[]):∃l∈M,Es M l:=by
 obtain ⟨l,hl⟩:=List.exists_mem_of_ne_nil M h0
 by_cases c:∃l∈M,Es M l
 ·exact c
 exfalso
 have h1:=Hi (hn l hl)
 have e:=inv_mul (show nv l (D8 l)≠0 by grind) (aj l q.1 q.2)
 have hp:=TF hd hn hq (p:=(q.1+-(aj l q.1 q.2*(nv l (D8 l))⁻¹)*(D8 l).1,q.2+-(aj l q.1 q.2*(nv l (D8 l))⁻¹)*(D8 l).2)) (fun m hm he=>absurd ⟨m,hm,he⟩ c) l hl
 rw [fy] at hp
 grind
theorem CC {M:List L3}{l:L3}(hn:(dirL l).1≠0\/(dirL l).2≠0){x:V2}(hx:aj l x.1 x.2=0)(h:∀m∈M,m≠l->aj m x.1 x.2>0)(L:List L3)(hL:∀m∈L,aj m x.1 x.2>0):∃q:V2,pos M q/\aj l q.1 q.2>0/\pos L q:=by
 have h1:=Hi hn
 obtain ⟨s,s0,hs⟩:=uo (((M.filter fun m=>decide (m≠l))++L).map fun m=>(aj m x.1 x.2,nv m (D8 l))) (fun y hy=>by
  obtain ⟨m,hm,rfl⟩:=List.mem_map.1 hy
  rcases List.mem_append.1 hm with hm|hm
  ·have:=List.mem_filter.1 hm
   exact h m this.1 (by simpa using this.2)
  ·exact hL m hm)
 have hl:aj l (x.1+s*(D8 l).1) (x.2+s*(D8 l).2)>0:=by rw [fy,hx];have:=mp s0 h1;grind
 refine ⟨(x.1+s*(D8 l).1,x.2+s*(D8 l).2),fun m hm=>?_,hl,fun m hm=>?_⟩
 ·by_cases e:m=l
  ·rw [e];exact hl
  ·rw [fy]
   exact hs (aj m x.1 x.2,nv m (D8 l)) (List.mem_map.2 ⟨m,List.mem_append_left _ (List.mem_filter.2 ⟨hm,by simpa using e⟩),rfl⟩)
 ·rw [fy]
  exact hs (aj m x.1 x.2,nv m (D8 l)) (List.mem_map.2 ⟨m,List.mem_append_right _ hm,rfl⟩)
theorem A9 {M:List L3}{l:L3}(hno:∀x:V2,aj l x.1 x.2=0->¬pos M x){q p:V2}(hq:pos M q)(hp:pos M p):aj l q.1 q.2>0->aj l p.1 p.2>0:=by
 intro h
 by_cases c:aj l p.1 p.2>0
 ·exact c
 exfalso
 obtain ⟨t,t0,t1,e⟩:=rV (y:=(aj l q.1 q.2,aj l p.1 p.2)) h (s:=1) (by decide) (by unfold mx;grind)
 refine hno (q.1+t*(p.1-q.1),q.2+t*(p.2-q.2)) ?_ fun m hm=>?_
 ·rw [oH];exact e
 ·rw [oH];exact CY (x:=(aj m q.1 q.2,aj m p.1 p.2)) (hq m hm) (hp m hm) t0 t1
end Go.Proofs.Tryz.Sec
namespace Go.Proofs.Tryz
open Go.Eng Go.Big
def Sp.mP (s:Sp)(t:Rat):Prop:=(s.a=true\/s.lo<t)/\(s.b=true\/t<s.hi)
def E9 (ss:List Sp)(t:Rat):Prop:=∃s∈ss,s.mP t
def Sp.iw (s:Sp):Prop:=s.can/\s.emp=false
def Sp.MC (s t:Sp):Prop:=s.b=false/\t.a=false/\s.hi<t.lo
def FN (ss:List Sp):Prop:=(∀s∈ss,s.iw)/\ss.Pairwise Sp.MC
theorem pick (E:List Rat):∀l u:Rat,l<u->∃t,l<t/\t<u/\t∉E:=by
 induction E with
 | nil=>exact fun l u h=>⟨(l+u) / 2,by grind,by grind,by simp⟩
 | cons e r ih=>
  intro l u h
  by_cases c:l<e/\e<u
  ·obtain ⟨t,h1,h2,h3⟩:=ih l e c.1
   refine ⟨t,h1,by grind,fun hm=>?_⟩
   rcases List.mem_cons.1 hm with rfl|hm
   ·grind
   ·exact h3 hm
  ·obtain ⟨t,h1,h2,h3⟩:=ih l u h
   refine ⟨t,h1,h2,fun hm=>?_⟩
   rcases List.mem_cons.1 hm with rfl|hm
   ·exact c ⟨h1,h2⟩
   ·exact h3 hm
theorem AO {s:Sp}(h:s.emp=false)(ha:s.a=false)(hb:s.b=false):s.lo<s.hi:=by
 rcases Sp.kc.1 h with h|h|h
 ·rw [ha] at h;cases h
 ·rw [hb] at h;cases h
 ·exact h
theorem FN.tail {s:Sp}{r:List Sp}(h:FN (s::r)):FN r:=⟨fun x hx=>h.1 x (by simp [hx]),(List.pairwise_cons.1 h.2).2⟩
theorem FN.MC {s:Sp}{r:List Sp}(h:FN (s::r)){x:Sp}(hx:x∈r):s.MC x:=(List.pairwise_cons.1 h.2).1 x hx
set_option linter.unusedSectionVars false
section
variable {s s':Sp} {r r':List Sp} {E:List Rat} (h:FN (s :: r)) (h':FN (s' :: r')) (e:∀t,t ∉ E->E9 (s :: r) t->E9 (s' :: r') t)
include h h' e
end
theorem Sp.ext' {s t:Sp}(h1:s.a=t.a)(h2:s.b=t.b)(h3:s.lo=t.lo)(h4:s.hi=t.hi):s=t:=by
 cases s;cases t;simp at *;exact ⟨h3,h4,h1,h2⟩
end Go.Proofs.Tryz
namespace Go.Proofs.Tryz
open Go.Eng Go.Big
theorem row_one {α:Type}{sz:Nat}{R:View->Value->α->Prop}{V:View}{xs:List Value}{a:α}(hx:xs.length=sz)(ha:R V (.agg xs.toArray) a):Row sz R V xs [a]:=by
 refine ⟨fun i hi=>?_⟩
 obtain rfl:i=0:=by simpa using hi
 exact ⟨xs,hx,ha,fun j x hj=>by rw [Nat.zero_mul,Nat.zero_add];exact hj⟩
theorem ug {α:Type}{sz:Nat}{R:View->Value->α->Prop}{V:View}{vs:List Value}{ls:List α}(h:Row sz R V vs ls){k:Nat}(hk:k<=ls.length){xs sp:List Value}{a:α}(hx:xs.length=sz)(ha:R V (.agg xs.toArray) a)(hs:0<sz) :
  Row sz R V (vs.take (k*sz)++(xs++(vs.take (ls.length*sz)).drop (k*sz))++sp) (ls.take k++a::ls.drop k):=by
 have hl:=h.gY hs
 have hks:k*sz<=ls.length*sz:=Nat.mul_le_mul_right _ hk
 have t1:(vs.take (k*sz)).length=k*sz:=by rw [List.length_take];omega
 have t2:((vs.take (ls.length*sz)).drop (k*sz)).length=ls.length*sz-k*sz:=by rw [List.length_drop,List.length_take];omega
 have a1:(ls.take k).length=k:=by rw [List.length_take];omega
 refine ⟨fun i hi=>?_⟩
 rw [List.append_assoc]
 by_cases c1:i<k
 ·have hi':i<ls.length:=by omega
  obtain ⟨ys,y1,y2,y3⟩:=h.at_ i hi'
  have e:(ls.take k++a::ls.drop k)[i]=ls[i]:=by rw [List.getElem_append_left (by omega),List.getElem_take]
  refine ⟨ys,y1,by rw [e];exact y2,fun j x hj=>?_⟩
  have hj':=(List.getElem?_eq_some_iff.1 hj).1
  have hlt:i*sz+j<k*sz:=by
   have:(i+1)*sz<=k*sz:=Nat.mul_le_mul_right _ c1
   rw [Nat.succ_mul] at this
   omega
  rw [List.getElem?_append_left (by omega),List.getElem?_take,if_pos hlt]
  exact y3 j x hj
 ·by_cases c2:i=k
  ·subst c2
   have e:(ls.take i++a::ls.drop i)[i]=a:=by
    rw [List.getElem_append_right (by omega)]
    simp [a1]
   refine ⟨xs,hx,by rw [e];exact ha,fun j x hj=>?_⟩
   have hj':=(List.getElem?_eq_some_iff.1 hj).1
   rw [List.getElem?_append_right (by omega),t1,Nat.add_sub_cancel_left,List.append_assoc,List.getElem?_append_left hj']
   exact hj
  ·have hi':i-1<ls.length:=by
    rw [List.length_append,a1,List.length_cons,List.length_drop] at hi
    omega
   obtain ⟨ys,y1,y2,y3⟩:=h.at_ (i-1) hi'
   have e:(ls.take k++a::ls.drop k)[i]=ls[i-1]:=by
    rw [List.getElem_append_right (by omega)]
    obtain ⟨m,hm⟩:∃m,i=k+(m+1):=⟨i-k-1,by omega⟩
    subst hm
    simp only [a1,Nat.add_sub_cancel_left,List.getElem_cons_succ,List.getElem_drop]
    congr 1
   refine ⟨ys,y1,by rw [e];exact y2,fun j x hj=>?_⟩
   have hj':=(List.getElem?_eq_some_iff.1 hj).1
   obtain ⟨m,hm⟩:∃m,i=k+1+m:=⟨i-k-1,by omega⟩
   subst hm
   have e1:(k+1+m)*sz=k*sz+sz+m*sz:=by rw [Nat.add_mul,Nat.add_mul,Nat.one_mul]
   have e2:(k+1+m-1)*sz=k*sz+m*sz:=by rw [show k+1+m-1=k+m by omega,Nat.add_mul]
   have:=y3 j x hj
   rw [e2] at this
   have hlt:k*sz+m*sz+j<ls.length*sz:=by
    have:(k+m+1)*sz<=ls.length*sz:=Nat.mul_le_mul_right _ (by omega)
    rw [Nat.add_mul,Nat.add_mul,Nat.one_mul] at this
    omega
   rw [List.getElem?_append_right (by omega),t1,List.append_assoc,List.getElem?_append_right (by omega),hx,List.getElem?_append_left (by omega),List.getElem?_drop,List.getElem?_take,if_pos (by omega)]
   rw [show k*sz+((k+1+m)*sz+j-k*sz-sz)=k*sz+m*sz+j by omega]
   exact this
theorem lst_cells {α:Type}{sz:Nat}{R:View->Value->α->Prop}{V:View}{p:OA}{n:Nat}{ls:List α}(h:Lst sz R V p n ls)(hs:0<sz):∃xs:List Value,V.sl p xs/\xs.length=ls.length*sz/\Row sz R V xs ls:=by
 have step:∀k,k<=ls.length->∃xs:List Value,V.sl p xs/\xs.length=k*sz/\Row sz R V xs (ls.take k):=by
  intro k
  induction k with
  | zero=>exact fun _=>⟨[],fun i v hv=>by simp at hv,by simp,by rw [List.take_zero];exact Row.nil⟩
  | succ k ih=>
   intro hk
   obtain ⟨xs,x1,x2,x3⟩:=ih (by omega)
   obtain ⟨ad,ha,ys,y1,y2,y3⟩:=h.at_ k (by omega)
   have hl:(ls.take k).length=k:=by rw [List.length_take];omega
   refine ⟨xs++ys,fun i v hv=>?_,by rw [List.length_append,x2,y1,Nat.succ_mul],?_⟩
   ·by_cases c:i<xs.length
    ·rw [List.getElem?_append_left c] at hv;exact x1 i v hv
    ·rw [List.getElem?_append_right (by omega)] at hv
     cases p with
     | none=>cases ha
     | some a=>
      obtain rfl:=Option.some.inj (show some (a.add (k*sz))=some ad from ha)
      have:=y3 _ v hv
      rw [r_,x2] at this
      rw [show k*sz+(i-k*sz)=i by omega] at this
      exact ⟨a,rfl,this⟩
   ·have:=x3.snoc (sp:=[]) y1 y2 hs
    rw [hl,List.append_nil,List.take_of_length_le (by omega)] at this
    rw [List.take_add_one,List.getElem?_eq_getElem (by omega)]
    exact this
 obtain ⟨xs,x1,x2,x3⟩:=step ls.length (Nat.le_refl _)
 rw [List.take_length] at x3
 exact ⟨xs,x1,x2,x3⟩
theorem row_append {α:Type}{sz:Nat}{R:View->Value->α->Prop}{V:View}{vs xs sp:List Value}{ls ms:List α}(h:Row sz R V vs ls)(h':Row sz R V xs ms)(hs:0<sz):Row sz R V (vs.take (ls.length*sz)++xs++sp) (ls++ms):=by
 have hl:=h.gY hs
 have hl':=h'.gY hs
 have ht:(vs.take (ls.length*sz)).length=ls.length*sz:=by rw [List.length_take];omega
 refine ⟨fun i hi=>?_⟩
 by_cases c:i<ls.length
 ·obtain ⟨ys,y1,y2,y3⟩:=h.at_ i c
  refine ⟨ys,y1,by rw [List.getElem_append_left c];exact y2,fun j x hj=>?_⟩
  have hj':=(List.getElem?_eq_some_iff.1 hj).1
  have hlt:i*sz+j<ls.length*sz:=by
   have:(i+1)*sz<=ls.length*sz:=Nat.mul_le_mul_right _ c
   rw [Nat.succ_mul] at this
   omega
  rw [List.append_assoc,List.getElem?_append_left (by omega),List.getElem?_take,if_pos hlt]
  exact y3 j x hj
 ·rw [List.length_append] at hi
  obtain ⟨m,rfl⟩:∃m,i=ls.length+m:=⟨i-ls.length,by omega⟩
  have hm:m<ms.length:=by omega
  obtain ⟨ys,y1,y2,y3⟩:=h'.at_ m hm
  refine ⟨ys,y1,?_,fun j x hj=>?_⟩
  ·have e:(ls++ms)[ls.length+m]=ms[m]:=by rw [List.getElem_append_right (by omega)];simp
   rw [e];exact y2
  ·have hj':=(List.getElem?_eq_some_iff.1 hj).1
   have hlt:m*sz+j<xs.length:=by
    have:(m+1)*sz<=ms.length*sz:=Nat.mul_le_mul_right _ hm
    rw [Nat.succ_mul] at this
    omega
   rw [List.append_assoc,List.getElem?_append_right (by rw [ht,Nat.add_mul];omega),ht,Nat.add_mul,List.getElem?_append_left (by omega)]
   rw [show ls.length*sz+m*sz+j-ls.length*sz=m*sz+j by omega]
   exact y3 j x hj
theorem row_one_cell {α:Type}{sz:Nat}{R:View->Value->α->Prop}{V:View}{vs:List Value}{al:List α}(h:Row sz R V vs al)(hs:0<sz)(hc:∀xs a,R V (.agg (List.toArray xs)) a->∀v∈xs,v.oneCell'=true){m:Nat}(hm:m<al.length*sz){v:Value}(hv:vs[m]?=some v):v.oneCell'=true:=by
 have hi:m / sz<al.length:=Nat.div_lt_of_lt_mul (by rw [Nat.mul_comm];exact hm)
 obtain ⟨xs,hl,hx,hat⟩:=h.at_ (m / sz) hi
 have hlt:m%sz<xs.length:=by rw [hl];exact Nat.mod_lt _ hs
 have e3:m=m / sz*sz+m%sz:=by rw [Nat.mul_comm];exact (Nat.div_add_mod m sz).symm
 have:=hat (m%sz) _ (List.getElem?_eq_getElem hlt)
 rw [←e3,hv] at this
 obtain rfl:=Option.some.inj this
 exact hc xs _ hx _ (List.getElem_mem hlt)
theorem Er:Sz 2 (((2:Int):Rat)):=⟨by show (2:Int).natAbs<_;decide,by show (1:Nat)<_;decide⟩
theorem rT:Sz 2 (((1:Int):Rat)):=⟨by show (1:Int).natAbs<_;decide,by show (1:Nat)<_;decide⟩
theorem JL {s:Sp}{k:Nat}(ss:s.sz k):Sz (2*k+10) s.df:=by
 have z:Sz (2*k+10) (0:Rat):=⟨by show (0:Int).natAbs<_;exact Nat.lt_of_lt_of_le (by decide) (Nat.one_le_two_pow),Nat.one_lt_two_pow (by omega)⟩
 unfold Sp.df
 split
 ·split
  ·exact z
  ·exact (ss.2.sub rT).mono (by omega)
 ·split
  ·exact (ss.1.add rT).mono (by omega)
  ·exact ((ss.1.add ss.2).mul (fq Er)).mono (by omega)
theorem mf {V:View}{v w:Value}{x y x' y':Rat}(h:RP V v x y)(h':RP V w x' y'){k:Nat}(s1:Sz k x)(s2:Sz k y)(s3:Sz k x')(s4:Sz k y')(hk:4*k+4<274877906944) :
  Acts prog 141 #[v,w] V fun r V'=>RQ V' r (x*y'-y*x'):=by
 obtain ⟨_,_,_,_,_,_,_,_,_,_,_,_,rfl,h1,h2⟩:=h
 obtain ⟨_,_,_,_,_,_,_,_,_,_,_,_,rfl,h3,h4⟩:=h'
 refine uQ _ _ _ _ _ _ _ _ _ _ _ _ _ _ _ _ _ _ _ _ _ _ _ _ _ _ _ _ V _ fun V1 l1=>(aI (h1.le l1) (h4.le l1) s1 s4 (by omega)).mono ?_
 rintro r V2 l2 g
 have g0:=g
 obtain ⟨_,_,_,_,_,_,rfl⟩:=g.shape
 refine ⟨_,_,_,_,_,_,_,rfl,fun V3 l3=>(aI (h2.le (l1.trans (l2.trans l3))) (h3.le (l1.trans (l2.trans l3))) s2 s3 (by omega)).mono ?_⟩
 rintro r V4 l4 g'
 have g0':=g'
 obtain ⟨_,_,_,_,_,_,rfl⟩:=g'.shape
 refine ⟨_,_,_,_,_,_,_,rfl,fun V5 l5=>(jt (g0.le (l3.trans (l4.trans l5))) (g0'.le l5) (s1.mul s4) (s2.mul s3) (by omega)).mono ?_⟩
 rintro r V6 l6 q
 have q0:=q
 obtain ⟨_,_,_,_,_,_,rfl⟩:=q.shape
 exact ⟨_,_,_,_,_,_,_,rfl,fun V7 l7=>q0.le l7⟩
theorem Mx.raw {V:View}{v:Value}{l:L3}{s:Sp}(h:Mx V v l s)(ho:U3 l s){k:Nat}(sl:kE k l)(ss:s.sz k)(hk:k<=1000000):∃f:FW,Pt V v f/\f.ok=true/\f.ln=l/\f.sp=s/\f.short:=by
 obtain ⟨b1,p1,n1,c1,b2,p2,n2,c2,b3,p3,n3,c3,b,p,n,c,p',n',c',d,q,m,e,q',m',e',rfl,h1,h2⟩:=h
 obtain ⟨_,_,_,_,_,_,_,_,_,el,x1,x2,x3⟩:=h1
 have el:=congrArg Array.toList (Value.agg.inj el)
 simp only [List.cons.injEq,Value.bool.injEq,Value.slice.injEq,and_true] at el
 obtain ⟨rfl,⟨rfl,rfl,rfl⟩,rfl,⟨rfl,rfl,rfl⟩,rfl,rfl,rfl,rfl⟩:=el
 obtain ⟨_,_,_,_,_,_,_,_,_,_,_,_,_,_,es,y1,y2⟩:=h2
 have es:=congrArg Array.toList (Value.agg.inj es)
 simp only [List.cons.injEq,Value.bool.injEq,Value.slice.injEq,and_true] at es
 obtain ⟨rfl,⟨rfl,rfl,rfl⟩,⟨rfl,rfl,rfl⟩,rfl,⟨rfl,rfl,rfl⟩,⟨rfl,rfl,rfl⟩⟩:=es
 obtain ⟨ok,can,emp⟩:=ho
 obtain ⟨w1,us,vs,r1,o1,e1,z1⟩:=y1.raw can.1
 obtain ⟨w2,ws,ts,r2,o2,e2,z2⟩:=y2.raw can.2
 have i1:=r1
 have i2:=r2
 obtain ⟨_,_,_,_,_,_,f1,-,-⟩:=i1
 obtain ⟨_,_,_,_,_,_,f2,-,-⟩:=i2
 have f1:=congrArg Array.toList (Value.agg.inj f1)
 have f2:=congrArg Array.toList (Value.agg.inj f2)
 simp only [List.cons.injEq,Value.bool.injEq,Value.slice.injEq,and_true] at f1 f2
 obtain ⟨rfl,-⟩:=f1
 obtain ⟨rfl,-⟩:=f2
 have len:∀{z:Int},Sz k (z:Rat)->(af z.natAbs).length<=1000000:=fun h=>Nat.le_trans (ae h.1) hk
 have d1:=z1 k ss.1
 have d2:=z2 k ss.2
 refine ⟨⟨decide (l.1<0),af l.1.natAbs,decide (l.2.1<0),af l.2.1.natAbs,decide (l.2.2<0),af l.2.2.natAbs,b,us,vs,d,ws,ts,s.a,s.b⟩,⟨_,_,_,_,_,_,_,_,_,_,_,_,_,_,_,_,_,_,_,_,_,rfl,⟨_,_,_,_,_,_,_,_,_,rfl,x1,x2,x3⟩,⟨_,_,_,_,_,_,_,_,_,_,_,_,rfl,r1,r2⟩⟩,?_,?_,?_,⟨len sl.1,len sl.2.1,len sl.2.2,Nat.le_trans d1.1 hk,Nat.le_trans d1.2 hk,Nat.le_trans d2.1 hk,Nat.le_trans d2.2 hk⟩⟩
 ·have e3:O_ b us vs d ws ts s.a s.b=s:=by unfold O_;rw [e1,e2]
  unfold FW.ok okW
  dsimp only
  rw [A8,o1,o2,e3,emp]
  show okL l&&true=true
  rw [ok];rfl
 ·unfold FW.ln UA
  dsimp only
  rw [aA,aA,aA]
 ·unfold FW.sp O_
  dsimp only
  rw [e1,e2]
end Go.Proofs.Tryz
namespace Go.Proofs.Tryz
open Go.Eng
set_option maxRecDepth 100000
end Go.Proofs.Tryz
namespace Go.Proofs.Tryz
open Go.Eng Go.Big
theorem yG {c:List Rat}{i:Nat}(h:i<c.length):c.getD i 0=c[i]:=by rw [List.getD_eq_getElem?_getD,List.getElem?_eq_getElem h];rfl
def gC (cuts:List Rat)(i:Nat):Sp:=⟨if 0<i then cuts.getD (i-1) 0 else 0,if i<cuts.length then cuts.getD i 0 else 0,decide (i=0),decide (i=cuts.length)⟩
def GY (out:List Sp)(s:Sp):List Sp:=out.dropLast++[⟨(out.getLastD Sp.zero).lo,s.hi,(out.getLastD Sp.zero).a,s.b⟩]
def fl (cuts:List Rat)(marks:List Bool):Nat->List Sp
 | 0=>[]
 | i+1=>if marks.getD i false=true then (if 0<i/\marks.getD (i-1) false=true/\0<(fl cuts marks i).length then GY (fl cuts marks i) (gC cuts i) else fl cuts marks i++[gC cuts i]) else fl cuts marks i
end Go.Proofs.Tryz
namespace Go.Proofs.Tryz
open Go.Eng Go.Big
set_option linter.unusedSectionVars false
def asc (c:List Rat):Prop:=c.Pairwise (·< ·)
section
variable {c:List Rat} (h:asc c)
include h
theorem xX {i j:Nat}(I3:i<j)(hj:j<c.length):c.getD i 0<c.getD j 0:=by
 rw [yG (by omega),yG hj]
 exact List.pairwise_iff_getElem.1 h i j (by omega) hj I3
omit h
include h
theorem Gv {i:Nat}(hi:i<=c.length):(gC c i).iw:=by
 refine ⟨⟨fun e=>?_,fun e=>?_⟩,Sp.kc.2 ?_⟩
 ·have e:i=0:=of_decide_eq_true e
  subst e;rfl
 ·have e:i=c.length:=of_decide_eq_true e
  subst e
  exact if_neg (Nat.lt_irrefl _)
 ·by_cases h0:i=0
  ·exact .inl (decide_eq_true h0)
  ·by_cases h1:i=c.length
   ·exact .inr (.inl (decide_eq_true h1))
   ·refine .inr (.inr ?_)
    show (if 0<i then c.getD (i-1) 0 else 0)<(if i<c.length then c.getD i 0 else 0)
    rw [if_pos (by omega),if_pos (by omega)]
    exact xX h (by omega) (by omega)
omit h
end
section
variable {c:List Rat} {ms:List Bool}
structure FI (c:List Rat) (ms:List Bool) (i:Nat):Prop where
 r:FN (fl c ms i)
 mem:∀t,t∉c->(E9 (fl c ms i) t↔∃j,j<i/\ms.getD j false=true/\(gC c j).mP t)
 top:0<i->i<=c.length->∀s∈fl c ms i,s.b=false/\s.hi<=c.getD (i-1) 0
 str:0<i->i<=c.length->ms.getD (i-1) false=false->∀s∈fl c ms i,s.hi<c.getD (i-1) 0
 last:0<i->i<=c.length->ms.getD (i-1) false=true->∃l0 l,fl c ms i=l0++[l]/\l.hi=c.getD (i-1) 0
theorem pI {ss:List Sp}{s:Sp}{t:Rat}:E9 (ss++[s]) t↔E9 ss t\/s.mP t:=by
 unfold E9
 constructor
 ·rintro ⟨x,hx,hi⟩
  rcases List.mem_append.1 hx with hx|hx
  ·exact .inl ⟨x,hx,hi⟩
  ·obtain rfl:x=s:=by simpa using hx
   exact .inr hi
 ·rintro (⟨x,hx,hi⟩|hi)
  ·exact ⟨x,by simp [hx],hi⟩
  ·exact ⟨s,by simp,hi⟩
theorem Bo {ss:List Sp}{s:Sp}(h:FN ss)(hs:s.iw)(hb:∀x∈ss,x.MC s):FN (ss++[s]):=by
 refine ⟨fun x hx=>?_,List.pairwise_append.2 ⟨h.2,by simp,fun x hx y hy=>?_⟩⟩
 ·rcases List.mem_append.1 hx with hx|hx
  ·exact h.1 x hx
  ·obtain rfl:x=s:=by simpa using hx
   exact hs
 ·obtain rfl:y=s:=by simpa using hy
  exact hb x hx
theorem HI {ss:List Sp}{s:Sp}(h:FN (ss++[s])):FN ss/\s.iw/\∀x∈ss,x.MC s:=by
 obtain ⟨h1,-,h3⟩:=List.pairwise_append.1 h.2
 exact ⟨⟨fun x hx=>h.1 x (by simp [hx]),h1⟩,h.1 s (by simp),fun x hx=>h3 x hx s (by simp)⟩
theorem yF {P:Nat->Prop}{i:Nat}:(∃j,j<i+1/\P j)↔(∃j,j<i/\P j)\/P i:=by
 constructor
 ·rintro ⟨j,hj,hp⟩
  rcases Nat.lt_or_ge j i with h|h
  ·exact .inl ⟨j,h,hp⟩
  ·obtain rfl:j=i:=by omega
   exact .inr hp
 ·rintro (⟨j,hj,hp⟩|hp)
  ·exact ⟨j,by omega,hp⟩
  ·exact ⟨i,by omega,hp⟩
theorem IL (h:asc c){i:Nat}(hi:i<=c.length)(F:FI c ms i):FI c ms (i+1):=by
 have hg:=Gv h hi
 have Im:i<c.length->(gC c i).hi=c.getD i 0:=fun h0=>if_pos h0
 have Io:0<i->(gC c i).lo=c.getD (i-1) 0:=fun h0=>if_pos h0
 have ga:0<i->(gC c i).a=false:=fun h0=>decide_eq_false (by omega)
 have gb:i<c.length->(gC c i).b=false:=fun h0=>decide_eq_false (by omega)
 by_cases hm:ms.getD i false=true
 ·have hne:¬ms.getD i false=false:=by rw [hm];decide
  by_cases h0:0<i/\ms.getD (i-1) false=true
  ·obtain ⟨l0,l,el,hl⟩:=F.last h0.1 hi h0.2
   have e:fl c ms (i+1)=l0++[⟨l.lo,(gC c i).hi,l.a,(gC c i).b⟩]:=by
    rw [fl,if_pos hm,if_pos ⟨h0.1,h0.2,by rw [el];simp⟩,el]
    simp [GY]
   have F1:=F.r
   rw [el] at F1
   obtain ⟨f1,f2,f3⟩:=HI F1
   have hlb:l.b=false:=(F.top h0.1 hi l (by rw [el];simp)).1
   have hgood:(⟨l.lo,(gC c i).hi,l.a,(gC c i).b⟩:Sp).iw:=by
    refine ⟨⟨f2.1.1,hg.1.2⟩,Sp.kc.2 ?_⟩
    dsimp only
    cases ha:l.a with
    | true=>exact .inl rfl
    | false=>
     cases hb:(gC c i).b with
     | true=>exact .inr (.inl rfl)
     | false=>
      have h1:=AO f2.2 ha hlb
      have h2:=AO hg.2 (ga h0.1) hb
      rw [Io h0.1] at h2
      exact .inr (.inr (by grind))
   refine ⟨?_,fun t ht=>?_,fun _ hi1 s hs=>?_,fun _ hi1 hx=>?_,fun _ hi1 _=>?_⟩
   ·rw [e]
    exact Bo f1 hgood fun x hx=>⟨(f3 x hx).1,(f3 x hx).2.1,(f3 x hx).2.2⟩
   ·rw [e,yF,←F.mem t ht,pI,el,pI,or_assoc]
    refine or_congr Iff.rfl ?_
    have hk:(gC c i).mP t↔c.getD (i-1) 0<t/\((gC c i).b=true\/t<(gC c i).hi):=by
     unfold Sp.mP;rw [ga h0.1,Io h0.1];simp
    have hne':t≠c.getD (i-1) 0:=by
     rintro rfl
     rw [yG (by omega)] at ht
     exact ht (List.getElem_mem _)
    rw [hk]
    show (l.a=true\/l.lo<t)/\((gC c i).b=true\/t<(gC c i).hi)↔((l.a=true\/l.lo<t)/\(l.b=true\/t<l.hi))\/_
    rw [hl,hlb]
    have h1:l.a=true\/l.lo<c.getD (i-1) 0:=by
     cases ha:l.a with
     | true=>exact .inl rfl
     | false=>have:=AO f2.2 ha hlb;rw [hl] at this;exact .inr this
    have h2:(gC c i).b=true\/c.getD (i-1) 0<(gC c i).hi:=by
     cases hb:(gC c i).b with
     | true=>exact .inl rfl
     | false=>have:=AO hg.2 (ga h0.1) hb;rw [Io h0.1] at this;exact .inr this
    constructor
    ·rintro ⟨g1,g2⟩
     by_cases g:t<c.getD (i-1) 0
     ·exact .inl ⟨g1,.inr g⟩
     ·exact .inr ⟨hm,by grind,g2⟩
    ·rintro (⟨g1,g2⟩|⟨-,g1,g2⟩)
     ·have g3:t<c.getD (i-1) 0:=by
       rcases g2 with g2|g2
       ·cases g2
       ·exact g2
      exact ⟨g1,h2.imp_right fun h2=>by grind⟩
     ·exact ⟨h1.imp_right fun h1=>by grind,g2⟩
   ·rw [e] at hs
    rw [Nat.add_sub_cancel]
    rcases List.mem_append.1 hs with hs|hs
    ·have b:=f3 s hs
     refine ⟨b.1,?_⟩
     have h1:l.lo<c.getD (i-1) 0:=by have:=AO f2.2 b.2.1 hlb;rwa [hl] at this
     have h2:=xX h (show i-1<i by omega) hi1
     have:=b.2.2
     grind
    ·obtain rfl:s=_:=by simpa using hs
     refine ⟨gb hi1,?_⟩
     show (gC c i).hi<=_
     rw [Im hi1];grind
   ·rw [Nat.add_sub_cancel] at hx;exact absurd hx hne
   ·rw [Nat.add_sub_cancel]
    exact ⟨l0,_,e,Im hi1⟩
  ·have e:fl c ms (i+1)=fl c ms i++[gC c i]:=by
    rw [fl,if_pos hm,if_neg (fun g=>h0 ⟨g.1,g.2.1⟩)]
   have hb:∀x∈fl c ms i,x.MC (gC c i):=fun x hx=>by
    by_cases hz:0<i
    ·have WJ:ms.getD (i-1) false=false:=by
      cases hq:ms.getD (i-1) false with
      | false=>rfl
      | true=>exact absurd ⟨hz,hq⟩ h0
     exact ⟨(F.top hz hi x hx).1,ga hz,by rw [Io hz];exact F.str hz hi WJ x hx⟩
    ·obtain rfl:i=0:=by omega
     cases hx
   refine ⟨?_,fun t ht=>?_,fun _ hi1 s hs=>?_,fun _ hi1 hx=>?_,fun _ hi1 _=>?_⟩
   ·rw [e];exact Bo F.r hg hb
   ·rw [e,yF,←F.mem t ht,pI]
    exact or_congr Iff.rfl ⟨fun g=>⟨hm,g⟩,fun g=>g.2⟩
   ·rw [e] at hs
    rw [Nat.add_sub_cancel]
    rcases List.mem_append.1 hs with hs|hs
    ·refine ⟨(hb s hs).1,?_⟩
     by_cases hz:0<i
     ·have h1:=(F.top hz hi s hs).2
      have h2:=xX h (show i-1<i by omega) hi1
      grind
     ·obtain rfl:i=0:=by omega
      cases hs
    ·obtain rfl:s=_:=by simpa using hs
     refine ⟨gb hi1,?_⟩
     rw [Im hi1];grind
   ·rw [Nat.add_sub_cancel] at hx;exact absurd hx hne
   ·rw [Nat.add_sub_cancel]
    exact ⟨_,_,e,Im hi1⟩
 ·have e:fl c ms (i+1)=fl c ms i:=by rw [fl,if_neg hm]
  have hlt:i<c.length->∀s∈fl c ms i,s.b=false/\s.hi<c.getD i 0:=fun hi1 s hs=>by
   by_cases hz:0<i
   ·obtain ⟨h1,h2⟩:=F.top hz hi s hs
    have h3:=xX h (show i-1<i by omega) hi1
    exact ⟨h1,by grind⟩
   ·obtain rfl:i=0:=by omega
    cases hs
  refine ⟨by rw [e];exact F.r,fun t ht=>?_,fun _ hi1 s hs=>?_,fun _ hi1 hx s hs=>?_,fun _ hi1 hx=>?_⟩
  ·rw [e,yF,F.mem t ht]
   exact ⟨.inl,fun g=>g.elim id fun g=>absurd g.1 hm⟩
  ·rw [e] at hs
   rw [Nat.add_sub_cancel]
   obtain ⟨h1,h2⟩:=hlt hi1 s hs
   exact ⟨h1,by grind⟩
  ·rw [e] at hs
   rw [Nat.add_sub_cancel]
   exact (hlt hi1 s hs).2
  ·rw [Nat.add_sub_cancel] at hx;exact absurd hx hm
theorem fi (h:asc c):∀{i:Nat},i<=c.length+1->FI c ms i:=by
 intro i
 induction i with
 | zero=>exact fun _=>⟨⟨(fun _ h=>by cases h),List.Pairwise.nil⟩,(fun t _=>⟨(fun ⟨_,h,_⟩=>by cases h),(fun ⟨_,h,_⟩=>absurd h (Nat.not_lt_zero _))⟩),(fun h=>absurd h (Nat.lt_irrefl _)),(fun h=>absurd h (Nat.lt_irrefl _)),(fun h=>absurd h (Nat.lt_irrefl _))⟩
 | succ i ih=>exact fun hi=>IL h (by omega) (ih (by omega))
end
end Go.Proofs.Tryz
namespace Go.Proofs.Tryz
open Go.Eng Go.Big
theorem AV {s u:Sp}{t:Rat}:(s.meet u).mP t↔s.mP t/\u.mP t:=by
 have h1:AR s.lo u.lo<t↔s.lo<t/\u.lo<t:=by
  unfold AR
  rcases lN u.lo s.lo with ⟨h,e⟩|⟨h,e⟩|⟨h,e⟩<;>rw [e]<;>simp<;>grind
 have h2:t<AW s.hi u.hi↔t<s.hi/\t<u.hi:=by
  unfold AW
  rcases lN u.hi s.hi with ⟨h,e⟩|⟨h,e⟩|⟨h,e⟩<;>rw [e]<;>simp<;>grind
 unfold Sp.mP Sp.meet
 cases s.a<;>cases s.b<;>cases u.a<;>cases u.b<;>simp [h1,h2]<;>grind
theorem mD {l:L3}(h:Nz l)(t:Rat):aj l (gM l t) (im l t)=0/\yS l (gM l t) (im l t)=t:=by
 have hn:=h.norm
 have hi:=Rat.mul_inv_cancel _ hn
 unfold aj yS gM im
 unfold fB at *
 constructor<;>grind
theorem Mq {l m:L3}(h:bq l m≠0):aj l (LO l m) (LP l m)=0/\aj m (LO l m) (LP l m)=0:=by
 have hi:=Rat.mul_inv_cancel _ h
 unfold aj LO LP
 constructor
 ·have e:(l.1:Rat)*(((l.2.1:Rat)*(m.2.2:Rat)-(l.2.2:Rat)*(m.2.1:Rat))*(bq l m)⁻¹)+(l.2.1:Rat)*(((l.2.2:Rat)*(m.1:Rat)-(l.1:Rat)*(m.2.2:Rat))*(bq l m)⁻¹)+(l.2.2:Rat)=(l.2.2:Rat)*(1-bq l m*(bq l m)⁻¹):=by
   generalize hc:(bq l m)⁻¹=c
   unfold bq
   grind
  rw [e,hi];grind
 ·have e:(m.1:Rat)*(((l.2.1:Rat)*(m.2.2:Rat)-(l.2.2:Rat)*(m.2.1:Rat))*(bq l m)⁻¹)+(m.2.1:Rat)*(((l.2.2:Rat)*(m.1:Rat)-(l.1:Rat)*(m.2.2:Rat))*(bq l m)⁻¹)+(m.2.2:Rat)=(m.2.2:Rat)*(1-bq l m*(bq l m)⁻¹):=by
   generalize hc:(bq l m)⁻¹=c
   unfold bq
   grind
  rw [e,hi];grind
theorem DQ (l:L3):ka (ka l)=ka l:=by
 unfold ka
 by_cases h:l.1<0\/l.1=0/\l.2.1<0
 ·rw [if_pos h,if_neg]
  unfold revL
  dsimp only
  omega
 ·rw [if_neg h,if_neg h]
theorem Hk {l:L3}(h:okL l=true):okL (ka l)=true:=by
 unfold ka
 split
 ·unfold okL revL gW at *
  simp only [Int.natAbs_neg]
  rw [Bool.and_eq_true,decide_eq_true_iff,decide_eq_true_iff] at h ⊢
  exact ⟨fun e=>h.1 ⟨by omega,by omega⟩,h.2⟩
 ·exact h
theorem kW {l:L3}(h:okL l=true):¬(l.1=0/\l.2.1=0):=by
 unfold okL at h
 rw [Bool.and_eq_true,decide_eq_true_iff] at h
 exact h.1
theorem nP {s:Sp}:s.emp=false↔∃t,s.mP t:=by
 constructor
 ·intro h
  obtain ⟨h1,h2⟩:=Sp.Eh h
  refine ⟨s.df,?_,?_⟩
  ·cases ha:s.a
   ·exact .inr (h1 ha)
   ·exact .inl rfl
  ·cases hb:s.b
   ·exact .inr (h2 hb)
   ·exact .inl rfl
 ·rintro ⟨t,h1,h2⟩
  rw [Sp.kc]
  rcases h1 with h1|h1
  ·exact .inl h1
  ·rcases h2 with h2|h2
   ·exact .inr (.inl h2)
   ·exact .inr (.inr (by grind))
theorem iE {l:L3}{s:Sp}{m:L3} :
  (dh l s m=true->∀t,(cM l s m).mP t↔s.mP t/\0<aj m (gM l t) (im l t))/\(s.emp=false->dh l s m=false->∀t,s.mP t->¬0<aj m (gM l t) (im l t)):=by
 have key:dw m l≠0->∀t,(cM l s m).mP t↔s.mP t/\0<jn m l+dw m l*t:=fun hd t=>by
  have hi:=Rat.mul_inv_cancel _ hd
  unfold cM
  rcases lU (dw m l) with ⟨h,e⟩|⟨h,e⟩|⟨h,e⟩
  ·exact absurd h hd
  ·rw [e]
   show (s.meet ⟨dv m l,0,false,true⟩).mP t↔_
   rw [AV]
   have e2:dw m l*(t-dv m l)=jn m l+dw m l*t:=by unfold dv;grind
   have:(⟨dv m l,0,false,true⟩:Sp).mP t↔dv m l<t:=by unfold Sp.mP;simp
   rw [this,←e2]
   refine and_congr_right fun _=>⟨fun h'=>Rat.mul_pos h (by grind),fun h'=>?_⟩
   by_cases c:dv m l<t
   ·exact c
   ·have:=Rat.mul_nonneg (show 0<=dw m l by grind) (show 0<=dv m l-t by grind)
    grind
  ·rw [e]
   show (s.meet ⟨0,dv m l,true,false⟩).mP t↔_
   rw [AV]
   have e2:-dw m l*(dv m l-t)=jn m l+dw m l*t:=by unfold dv;grind
   have:(⟨0,dv m l,true,false⟩:Sp).mP t↔t<dv m l:=by unfold Sp.mP;simp
   rw [this,←e2]
   refine and_congr_right fun _=>⟨fun h'=>Rat.mul_pos (by grind) (by grind),fun h'=>?_⟩
   by_cases c:t<dv m l
   ·exact c
   ·have:=Rat.mul_nonneg (show 0<=-dw m l by grind) (show 0<=t-dv m l by grind)
    grind
 by_cases hd:dw m l=0
 ·have ec:cM l s m=s:=by unfold cM;rw [hd];rfl
  have eb:dh l s m=decide ((jn m l).num.sign>0):=by unfold dh;rw [hd];rfl
  constructor
  ·intro hb t
   rw [ec,uy,hd]
   rw [eb] at hb
   have hb:(jn m l).num.sign>0:=by simpa using hb
   have:0<jn m l:=by
    rcases lU (jn m l) with ⟨h,e⟩|⟨h,e⟩|⟨h,e⟩
    ·omega
    ·exact h
    ·omega
   exact ⟨fun h=>⟨h,by grind⟩,fun h=>h.1⟩
  ·intro _ hb t _ hp
   rw [uy,hd] at hp
   rw [eb] at hb
   have hb:¬(jn m l).num.sign>0:=by simpa using hb
   rcases lU (jn m l) with ⟨h,e⟩|⟨h,e⟩|⟨h,e⟩
   ·grind
   ·omega
   ·grind
 ·have eb:dh l s m=!(cM l s m).emp:=by
   unfold dh
   rcases lU (dw m l) with ⟨h,e⟩|⟨h,e⟩|⟨h,e⟩
   ·exact absurd h hd
   ·rw [e];rfl
   ·rw [e];rfl
  constructor
  ·intro _ t
   rw [uy];exact key hd t
  ·intro _ hb t ht hp
   rw [uy] at hp
   rw [eb] at hb
   have:=nP.2 ⟨t,(key hd t).2 ⟨ht,hp⟩⟩
   rw [this] at hb;cases hb
theorem jw {l:L3}{s:Sp}{m:L3}(hs:s.iw)(hb:dh l s m=true):(cM l s m).iw:=⟨Gk hs.1,Gj hs.2 hb⟩
abbrev Sd:=L3×Sp
def cJ:List Sd->L3->Sp->Option Sp
 | [],_,v=>some v
 | s::c,l,v=>if dh l v s.1 then cJ c l (cM l v s.1) else none
theorem xE:∀{c:List Sd} {l:L3} {v w:Sp},v.iw->cJ c l v=some w->w.iw/\∀t,w.mP t↔v.mP t/\∀s∈c,0<aj s.1 (gM l t) (im l t)
 | [],_,v,w,h,e=>by cases e;exact ⟨h,fun t=>⟨fun g=>⟨g,fun s hs=>by cases hs⟩,fun g=>g.1⟩⟩
 | s::c,l,v,w,h,e=>by
  unfold cJ at e
  split at e
  ·rename_i hb
   obtain ⟨g1,g2⟩:=xE (jw h hb) e
   refine ⟨g1,fun t=>?_⟩
   rw [g2,(iE.1 hb t)]
   simp only [List.forall_mem_cons,and_assoc]
  ·cases e
theorem xD:∀{c:List Sd} {l:L3} {v:Sp},v.iw->cJ c l v=none->∀t,v.mP t->¬∀s∈c,0<aj s.1 (gM l t) (im l t)
 | [],_,v,h,e=>by cases e
 | s::c,l,v,h,e=>by
  intro t ht hall
  unfold cJ at e
  split at e
  ·rename_i hb
   exact xD (jw h hb) e t ((iE.1 hb t).2 ⟨ht,hall s (List.mem_cons_self ..)⟩) fun u hu=>hall u (List.mem_cons_of_mem _ hu)
  ·rename_i hb
   exact iE.2 h.2 (by simpa using hb) t ht (hall s (List.mem_cons_self ..))
theorem sQ (l:L3):ka l=l\/ka l=revL l:=by unfold ka;split;exact .inr rfl;exact .inl rfl
theorem rev_rev (l:L3):revL (revL l)=l:=by unfold revL;simp
theorem DU (l:L3):Sec.dirL (revL l)=(-(Sec.dirL l).1,-(Sec.dirL l).2):=by unfold Sec.dirL revL;simp only [Rat.intCast_neg]
theorem C0 {l:L3}(h:okL l=true):(Sec.dirL l).1≠0\/(Sec.dirL l).2≠0:=by
 have:=kW h
 unfold Sec.dirL
 by_cases e:l.2.1=0
 ·right;intro e'
  have:(l.1:Rat)=0:=by grind
  exact kW h ⟨by exact_mod_cast this,e⟩
 ·left;show (l.2.1:Rat)≠0;exact_mod_cast e
theorem HO {l m:L3}(ol:okL l=true)(om:okL m=true){p:Sec.V2}(h1:aj l p.1 p.2=0)(h2:aj m p.1 p.2=0)(hc:Sec.cr (Sec.dirL l) (Sec.dirL m)=0):l=m\/l=revL m:=by
 have vz:∀{x:L3},aj x p.1 p.2=0->aj (ka x) p.1 p.2=0:=fun {x} h=>by
  rcases sQ x with e|e<;>rw [e]
  ·exact h
  ·rw [val_rev];grind
 have c0:Sec.cr (Sec.dirL (ka l)) (Sec.dirL (ka m))=0:=by
  unfold Sec.cr at *
  rcases sQ l with e|e<;>rcases sQ m with e'|e'<;>rw [e,e']<;>(try rw [DU l])<;>(try rw [DU m])<;>(try dsimp only)<;>grind
 have:=Sec.Fp (Hk ol) (Hk om) (DQ l) (DQ m) (vz h1) (vz h2) c0
 rcases sQ l with e|e<;>rcases sQ m with e'|e'<;>rw [e,e'] at this
 ·exact .inl this
 ·exact .inr this
 ·right;rw [←this,rev_rev]
 ·left;have:=congrArg revL this;rwa [rev_rev,rev_rev] at this
theorem Gn {M:List L3}(hk:∀m∈M,okL m=true){q:Sec.V2}(hq:Sec.pos M q):Sec.P4 M:=by
 intro l hl m hm hne p h1 h2 hc
 rcases HO (hk l hl) (hk m hm) h1 h2 hc with e|e
 ·exact hne e
 ·have a:=hq l hl
  have b:=hq m hm
  rw [e,val_rev] at a
  grind
theorem rO {l:L3}(h:Nz l){x y:Rat}(hp:aj l x y=0):∃t,x=gM l t/\y=im l t:=by
 have hi:=Rat.mul_inv_cancel _ h.norm
 unfold aj at hp
 refine ⟨yS l x y,?_,?_⟩
 ·unfold gM yS fB at *;grind
 ·unfold im yS fB at *;grind
def fullSp:Sp:=⟨0,0,true,true⟩
theorem jx:fullSp.iw:=⟨⟨fun _=>rfl,fun _=>rfl⟩,rfl⟩
theorem tA (t:Rat):fullSp.mP t:=⟨.inl rfl,.inl rfl⟩
structure CanC (M:List L3) (c:List Sd):Prop where
 pos:∃q,Sec.pos M q
 mem:∀s∈c,s.1∈M/\s.2.iw/\∀t,s.2.mP t↔∀m∈M,m≠s.1->0<aj m (gM s.1 t) (im s.1 t)
 all:∀l∈M,Sec.Es M l->∃v,(l,v)∈c
 asc:c.Pairwise fun s u=>Sec.ang (Sec.dirL s.1) (Sec.dirL u.1)<0
def kS (x:Sd):List Sd->List Sd
 | []=>[x]
 | s::r=>if Sec.ang (Sec.dirL s.1) (Sec.dirL x.1)<0 then s::kS x r else x::s::r
def kC (c:List Sd)(l:L3):List Sd:=c.filterMap fun s=>if dh s.1 s.2 l then some (s.1,cM s.1 s.2 l) else none
def dQ:List Sd->L3->Int
 | [],_=>-1
 | s::c,l=>if (aj l (gM s.1 s.2.df) (im s.1 s.2.df)).num.sign≠0 then (aj l (gM s.1 s.2.df) (im s.1 s.2.df)).num.sign else if s.1=l then 1 else dQ c l
def clipC (c:List Sd)(l:L3):Option (List Sd):=
 match cJ c l fullSp with
 | some v=>some (kS (l,v) (kC c l))
 | none=>if 0<dQ c l then some c else none
theorem jz {x y:Sd}:∀{r:List Sd},y∈kS x r↔y=x\/y∈r
 | []=>by simp [kS]
 | s::r=>by
  unfold kS
  split
  ·rw [List.mem_cons,jz,List.mem_cons];exact or_left_comm
  ·rw [List.mem_cons]
theorem xU {a b d:Sec.V2}(h:Sec.ang a b<0)(h':Sec.ang b d<0):Sec.ang a d<0:=by
 by_cases q:Sec.ang a d<0
 ·exact q
 ·exact absurd h (Sec.si _ _ _ q (Sec.rH _ _ h'))
theorem AF {x:Sd}:∀{r:List Sd},(r.Pairwise fun s u=>Sec.ang (Sec.dirL s.1) (Sec.dirL u.1)<0)->(∀s∈r,Sec.ang (Sec.dirL s.1) (Sec.dirL x.1)≠0)->(kS x r).Pairwise fun s u=>Sec.ang (Sec.dirL s.1) (Sec.dirL u.1)<0
 | [],_,_=>List.pairwise_singleton ..
 | s::r,h,hn=>by
  obtain ⟨h1,h2⟩:=List.pairwise_cons.1 h
  unfold kS
  split
  ·rename_i hs
   refine List.pairwise_cons.2 ⟨fun y hy=>?_,AF h2 fun u hu=>hn u (List.mem_cons_of_mem _ hu)⟩
   rcases jz.1 hy with rfl|hy
   ·exact hs
   ·exact h1 y hy
  ·rename_i hs
   have hx:Sec.ang (Sec.dirL x.1) (Sec.dirL s.1)<0:=by
    rcases Sec.se (Sec.dirL s.1) (Sec.dirL x.1) with g|g|g
    ·exact absurd g hs
    ·exact absurd g (hn s (List.mem_cons_self ..))
    ·exact g
   refine List.pairwise_cons.2 ⟨fun y hy=>?_,h⟩
   rcases List.mem_cons.1 hy with rfl|hy
   ·exact hx
   ·exact xU hx (h1 y hy)
theorem sZ {c:List Sd}{l:L3}{y:Sd}:y∈kC c l↔∃s∈c,dh s.1 s.2 l=true/\y=(s.1,cM s.1 s.2 l):=by
 unfold kC
 rw [List.mem_filterMap]
 constructor
 ·rintro ⟨s,hs,e⟩
  split at e
  ·rename_i hb;cases e;exact ⟨s,hs,hb,rfl⟩
  ·cases e
 ·rintro ⟨s,hs,hb,rfl⟩
  exact ⟨s,hs,by rw [if_pos hb]⟩
theorem Am {c:List Sd}{l:L3}(h:c.Pairwise fun s u=>Sec.ang (Sec.dirL s.1) (Sec.dirL u.1)<0):(kC c l).Pairwise fun s u=>Sec.ang (Sec.dirL s.1) (Sec.dirL u.1)<0:=by
 unfold kC
 refine List.Pairwise.filterMap _ ?_ h
 intro a b hab x hx y hy
 split at hx
 ·split at hy
  ·cases hx;cases hy;exact hab
  ·cases hy
 ·cases hx
theorem Bc {l s:L3}(hl:Sec.nz (Sec.dirL s))(h:Sec.ang (Sec.dirL s) (Sec.dirL l)=0){p r:Sec.V2}(p0:aj l p.1 p.2=0)(p1:0<aj s p.1 p.2)(r0:aj s r.1 r.2=0)(r1:0<aj l r.1 r.2):False:=by
 obtain ⟨c,c0,e⟩:=Sec.zR hl h
 have e1:(s.2.1:Rat)=c*(l.2.1:Rat):=congrArg Prod.fst e
 have e2:-(s.1:Rat)=c*-(l.1:Rat):=congrArg Prod.snd e
 have e2:(s.1:Rat)=c*(l.1:Rat):=by grind
 have key:∀x:Sec.V2,aj s x.1 x.2=c*(aj l x.1 x.2-(l.2.2:Rat))+(s.2.2:Rat):=fun x=>by unfold aj;rw [e1,e2];grind
 have k:=Sec.mp c0 r1
 rw [key] at p1 r0
 rw [p0] at p1
 generalize aj l r.1 r.2=z at *
 grind
section
variable {M:List L3} {c:List Sd} (h:CanC M c) (hk:∀m ∈ M,okL m=true)
include h hk
theorem CanC.int {p:Sec.V2}(hp:∀s∈c,0<aj s.1 p.1 p.2):Sec.pos M p:=by
 obtain ⟨q,hq⟩:=h.pos
 refine Sec.TF (Gn hk hq) (fun m hm=>C0 (hk m hm)) hq fun m hm he=>?_
 obtain ⟨v,hv⟩:=h.all m hm he
 exact hp _ hv
theorem ER {l:L3}(hl:okL l=true){v:Sp}(e:cJ c l fullSp=some v):CanC (l::M) (kS (l,v) (kC c l)):=by
 have hN:Nz l:=kW hl
 obtain ⟨gv,hv⟩:=xE jx e
 have l_:∀t,v.mP t↔Sec.pos M (gM l t,im l t):=fun t=>⟨fun g=>h.int hk ((hv t).1 g).2,fun g=>(hv t).2 ⟨tA t,fun s hs=>g s.1 (h.mem s hs).1⟩⟩
 obtain ⟨t0,ht0⟩:=nP.1 gv.2
 have p0:=(l_ t0).1 ht0
 have z0:=(mD hN t0).1
 have lM:l∉M:=fun hm=>by have:=p0 l hm;dsimp only at this;grind
 have ne:∀m∈M,m≠l:=fun m hm e=>lM (e▸hm)
 obtain ⟨q,hq,WO,-⟩:=Sec.CC (M:=M) (x:=(gM l t0,im l t0)) (C0 hl) z0 (fun m hm _=>p0 m hm) [] (fun m hm=>by cases hm)
 have Ow:∀s∈kC c l,s.1∈M/\s.2.iw/\∀t,s.2.mP t↔∀m∈l::M,m≠s.1->0<aj m (gM s.1 t) (im s.1 t):=fun s hs=>by
  obtain ⟨s0,h0,hb,rfl⟩:=sZ.1 hs
  obtain ⟨m1,m2,m3⟩:=h.mem s0 h0
  refine ⟨m1,jw m2 hb,fun t=>?_⟩
  dsimp only
  rw [iE.1 hb t,m3 t,List.forall_mem_cons]
  exact ⟨fun g=>⟨fun _=>g.2,g.1⟩,fun g=>⟨g.2,g.1 (fun e=>ne _ m1 e.symm)⟩⟩
 refine ⟨⟨q,List.forall_mem_cons.2 ⟨WO,hq⟩⟩,fun s hs=>?_,fun l' hl' he=>?_,AF (Am h.asc) fun s hs e0=>?_⟩
 ·rcases jz.1 hs with rfl|hs
  ·refine ⟨List.mem_cons_self ..,gv,fun t=>?_⟩
   rw [l_ t,List.forall_mem_cons]
   exact ⟨fun g=>⟨fun h=>absurd rfl h,fun m hm _=>g m hm⟩,fun g m hm=>g.2 m hm (ne m hm)⟩
  ·obtain ⟨a,b⟩:=Ow s hs
   exact ⟨List.mem_cons_of_mem _ a,b⟩
 ·rcases List.mem_cons.1 hl' with rfl|hl'
  ·exact ⟨v,jz.2 (.inl rfl)⟩
  ·obtain ⟨p,pz,hp⟩:=he
   obtain ⟨w,hw⟩:=h.all l' hl' ⟨p,pz,fun m hm hne=>hp m (List.mem_cons_of_mem _ hm) hne⟩
   obtain ⟨m1,m2,m3⟩:=h.mem _ hw
   obtain ⟨t,e1,e2⟩:=rO (kW (hk l' hl')) pz
   have hb:dh l' w l=true:=by
    cases hb:dh l' w l
    ·exfalso
     refine iE.2 m2.2 hb t ((m3 t).2 fun m hm hne=>?_) ?_
     ·dsimp only;rw [←e1,←e2];exact hp m (List.mem_cons_of_mem _ hm) hne
     ·rw [←e1,←e2];exact hp l (List.mem_cons_self ..) (fun e=>lM (e▸hl'))
    ·rfl
   exact ⟨cM l' w l,jz.2 (.inr (sZ.2 ⟨_,hw,hb,rfl⟩))⟩
 ·obtain ⟨m1,m2,m3⟩:=Ow s hs
  obtain ⟨t,ht⟩:=nP.1 m2.2
  have hr:=(m3 t).1 ht l (List.mem_cons_self ..) (fun e=>ne _ m1 e.symm)
  exact Bc (C0 (hk _ m1)) e0 (p:=(gM l t0,im l t0)) (r:=(gM s.1 t,im s.1 t)) z0 (p0 _ m1) (mD (kW (hk _ m1)) t).1 hr
omit h in
theorem pk {l:L3}(hl:okL l=true)(hno:∀x:Sec.V2,aj l x.1 x.2=0->¬Sec.pos M x){q:Sec.V2}(hq:Sec.pos M q){s:L3}(hs:s∈M){x:Sec.V2}(xz:aj s x.1 x.2=0)(hx:∀m∈M,m≠s->0<aj m x.1 x.2) :
  (0<aj l q.1 q.2->0<aj l x.1 x.2\/s=l)/\(aj l q.1 q.2<0->aj l x.1 x.2<0\/aj l x.1 x.2=0/\s≠l):=by
 have side:∀g:L3,(∀x:Sec.V2,aj g x.1 x.2=0->¬Sec.pos M x)->0<aj g q.1 q.2->∀y:Sec.V2,aj s y.1 y.2=0->(∀m∈M,m≠s->0<aj m y.1 y.2)->¬aj g y.1 y.2<0:=fun g hno gq y yz hy hneg=>by
  obtain ⟨q',h1,-,h3⟩:=Sec.CC (C0 (hk s hs)) yz hy [revL g] (fun m hm=>by rcases List.mem_singleton.1 hm with rfl;rw [val_rev];grind)
  have h3:=h3 _ (List.mem_singleton.2 rfl)
  rw [val_rev] at h3
  have:=Sec.A9 hno hq h1 gq
  grind
 constructor
 ·intro hp
  by_cases c1:0<aj l x.1 x.2
  ·exact .inl c1
  right
  have z:aj l x.1 x.2=0:=by have:=side l hno hp x xz hx;grind
  by_cases e:s=l
  ·exact e
  exfalso
  have VO:Sec.cr (Sec.dirL l) (Sec.dirL s)≠0:=fun e0=>by
   rcases HO hl (hk s hs) z xz e0 with g|g
   ·exact e g.symm
   ·rw [g,val_rev] at hp
    have:=hq s hs
    grind
  have step:∀d:Sec.V2,Sec.nv s d=0->Sec.nv l d<0->False:=fun d d0 d1=>by
   obtain ⟨r,r0,hr⟩:=Sec.uo ((M.filter fun m=>decide (m≠s)).map fun m=>(aj m x.1 x.2,Sec.nv m d)) (fun y hy=>by
    obtain ⟨m,hm,rfl⟩:=List.mem_map.1 hy
    have:=List.mem_filter.1 hm
    exact hx m this.1 (by simpa using this.2))
   refine side l hno hp (x.1+r*d.1,x.2+r*d.2) ?_ (fun m hm hne=>?_) ?_
   ·rw [Sec.fy,xz,d0];grind
   ·rw [Sec.fy]
    exact hr (aj m x.1 x.2,Sec.nv m d) (List.mem_map.2 ⟨m,List.mem_filter.2 ⟨hm,by simpa using hne⟩,rfl⟩)
   ·rw [Sec.fy,z]
    have:=Sec.mp r0 (show -Sec.nv l d>0 by grind)
    grind
  have s0:Sec.nv s (Sec.dirL s)=0:=by rw [Sec.D_];exact Sec.DT _
  have ls:Sec.nv l (Sec.dirL s)≠0:=by rw [Sec.D_];exact VO
  by_cases c2:Sec.nv l (Sec.dirL s)<0
  ·exact step _ s0 c2
  ·have e1:Sec.nv s (-(Sec.dirL s).1,-(Sec.dirL s).2)=-Sec.nv s (Sec.dirL s):=by unfold Sec.nv;dsimp only;grind
   have e2:Sec.nv l (-(Sec.dirL s).1,-(Sec.dirL s).2)=-Sec.nv l (Sec.dirL s):=by unfold Sec.nv;dsimp only;grind
   exact step (-(Sec.dirL s).1,-(Sec.dirL s).2) (by rw [e1,s0];grind) (by rw [e2];grind)
 ·intro hp
  have:=side (revL l) (fun x hx=>hno x (by rw [val_rev] at hx;grind)) (by rw [val_rev];grind) x xz hx
  rw [val_rev] at this
  by_cases c1:aj l x.1 x.2<0
  ·exact .inl c1
  ·refine .inr ⟨by grind,fun e=>?_⟩
   have:=hq s hs
   rw [e] at this
   grind
theorem lf {s:Sd}(hs:s∈c):aj s.1 (gM s.1 s.2.df) (im s.1 s.2.df)=0/\∀m∈M,m≠s.1->0<aj m (gM s.1 s.2.df) (im s.1 s.2.df):=by
 obtain ⟨m1,m2,m3⟩:=h.mem s hs
 refine ⟨(mD (kW (hk _ m1)) _).1,(m3 _).1 ?_⟩
 obtain ⟨h1,h2⟩:=Sp.Eh m2.2
 constructor
 ·cases ha:s.2.a
  ·exact .inr (h1 ha)
  ·exact .inl rfl
 ·cases hb:s.2.b
  ·exact .inr (h2 hb)
  ·exact .inl rfl
theorem Ff {l:L3}(hl:okL l=true)(hno:∀x:Sec.V2,aj l x.1 x.2=0->¬Sec.pos M x){q:Sec.V2}(hq:Sec.pos M q)(hp:0<aj l q.1 q.2)(h0:c≠[]):dQ c l=1:=by
 cases hc:c with
 | nil=>exact absurd hc h0
 | cons s r=>
  have hs:s∈c:=by rw [hc];exact List.mem_cons_self ..
  obtain ⟨e1,e2⟩:=lf h hk hs
  have:=(pk hk hl hno hq (h.mem s hs).1 (x:=(gM s.1 s.2.df,im s.1 s.2.df)) e1 e2).1 hp
  unfold dQ
  dsimp only at this
  by_cases c1:0<aj l (gM s.1 s.2.df) (im s.1 s.2.df)
  ·rw [Sec.zg.2 c1];rfl
  ·have hsl:s.1=l:=this.resolve_left c1
   have z:aj l (gM s.1 s.2.df) (im s.1 s.2.df)=0:=by
    have h:=e1;rw [hsl] at h ⊢;exact h
   rw [Sec.iQ.2 z,if_neg (by simp),if_pos hsl]
theorem Fe {l:L3}(hl:okL l=true)(hno:∀x:Sec.V2,aj l x.1 x.2=0->¬Sec.pos M x){q:Sec.V2}(hq:Sec.pos M q)(hp:aj l q.1 q.2<0):dQ c l=-1:=by
 have:∀r:List Sd,(∀s∈r,s∈c)->dQ r l=-1:=by
  intro r
  induction r with
  | nil=>intro _;rfl
  | cons s r ih=>
   intro hr
   have hs:=hr s (List.mem_cons_self ..)
   obtain ⟨e1,e2⟩:=lf h hk hs
   have:=(pk hk hl hno hq (h.mem s hs).1 (x:=(gM s.1 s.2.df,im s.1 s.2.df)) e1 e2).2 hp
   dsimp only at this
   unfold dQ
   rcases this with g|⟨g,g'⟩
   ·rw [Sec.ui.2 g];rfl
   ·rw [Sec.iQ.2 g,if_neg (by simp),if_neg g']
    exact ih fun u hu=>hr u (List.mem_cons_of_mem _ hu)
 exact this c fun _ h=>h
theorem clip_ok {l:L3}(hl:okL l=true):(∀c',clipC c l=some c'->CanC (l::M) c')/\(clipC c l=none->¬∃q,Sec.pos (l::M) q):=by
 unfold clipC
 cases e:cJ c l fullSp with
 | some v=>exact ⟨fun c' e'=>by cases e';exact ER h hk hl e,fun e'=>by cases e'⟩
 | none=>
  dsimp only
  have hno:∀x:Sec.V2,aj l x.1 x.2=0->¬Sec.pos M x:=fun x hx hp=>by
   obtain ⟨t,e1,e2⟩:=rO (kW hl) hx
   refine xD jx e t (tA t) fun s hs=>?_
   rw [←e1,←e2];exact hp s.1 (h.mem s hs).1
  have h0:c≠[]:=fun e0=>by rw [e0] at e;cases e
  obtain ⟨q,hq⟩:=h.pos
  by_cases c1:0<aj l q.1 q.2
  ·rw [Ff h hk hl hno hq c1 h0]
   refine ⟨fun c' e'=>?_,fun e'=>by cases e'⟩
   cases e'
   refine ⟨⟨q,List.forall_mem_cons.2 ⟨c1,hq⟩⟩,fun s hs=>?_,fun l' hl' he=>?_,h.asc⟩
   ·obtain ⟨m1,m2,m3⟩:=h.mem s hs
    refine ⟨List.mem_cons_of_mem _ m1,m2,fun t=>?_⟩
    rw [m3 t,List.forall_mem_cons]
    refine ⟨fun g=>⟨fun hne=>?_,g⟩,fun g=>g.2⟩
    exact ((pk hk hl hno hq m1 (x:=(gM s.1 t,im s.1 t)) (mD (kW (hk _ m1)) t).1 g).1 c1).resolve_right fun e=>hne e.symm
   ·obtain ⟨p,pz,hp⟩:=he
    by_cases hm:l'∈M
    ·exact h.all l' hm ⟨p,pz,fun m hm hne=>hp m (List.mem_cons_of_mem _ hm) hne⟩
    ·exfalso
     have e1:l'=l:=(List.mem_cons.1 hl').resolve_right hm
     refine hno p (e1▸pz) fun m hm'=>hp m (List.mem_cons_of_mem _ hm') fun e2=>hm (e2▸hm')
  ·have c2:aj l q.1 q.2<0:=by
    by_cases z:aj l q.1 q.2=0
    ·exact absurd hq (hno q z)
    ·grind
   rw [Fe h hk hl hno hq c2]
   refine ⟨fun c' e'=>(by cases e'),fun _=>?_⟩
   rintro ⟨q',hq'⟩
   obtain ⟨a,b⟩:=List.forall_mem_cons.1 hq'
   have:=Sec.A9 hno (fun m hm=>b m hm) hq a
   grind
end
theorem CanC.nil:CanC [] []:=⟨⟨(0,0),fun m hm=>by cases hm⟩,(fun s hs=>by cases hs),(fun l hl=>by cases hl),List.Pairwise.nil⟩
def fG:List L3->List L3->List Sd->Option (List Sd)
 | [],_,c=>some c
 | l::r,M,c=>match clipC c l with
  | some c'=>fG r (l::M) c'
  | none=>none
theorem Aj:∀{ls M:List L3} {c:List Sd},CanC M c->(∀m∈M,okL m=true)->(∀m∈ls,okL m=true)->(∀c',fG ls M c=some c'->CanC (ls.reverse++M) c')/\(fG ls M c=none->¬∃q,Sec.pos (ls.reverse++M) q)
 | [],M,c,h,hk,hl=>⟨fun c' e=>by cases e;exact h,fun e=>by cases e⟩
 | l::r,M,c,h,hk,hl=>by
  obtain ⟨h1,h2⟩:=clip_ok h hk (hl l (List.mem_cons_self ..))
  rw [List.reverse_cons,List.append_assoc]
  unfold fG
  cases e:clipC c l with
  | some c'=>exact Aj (h1 c' e) (List.forall_mem_cons.2 ⟨hl l (List.mem_cons_self ..),hk⟩) fun m hm=>hl m (List.mem_cons_of_mem _ hm)
  | none=>
   refine ⟨fun c' e'=>(by cases e'),fun _=>?_⟩
   rintro ⟨q,hq⟩
   exact h2 e ⟨q,fun m hm=>hq m (List.mem_append_right _ hm)⟩
theorem sB:∀{a b:List L3},(a.Pairwise fun l m=>Sec.ang (Sec.dirL l) (Sec.dirL m)<0)->(b.Pairwise fun l m=>Sec.ang (Sec.dirL l) (Sec.dirL m)<0)->(∀x,x∈a↔x∈b)->a=b
 | [],b,_,_,h=>by
  cases b with
  | nil=>rfl
  | cons y b=>have:=(h y).2 (List.mem_cons_self ..);cases this
 | x::a,[],_,_,h=>by have:=(h x).1 (List.mem_cons_self ..);cases this
 | x::a,y::b,ha,hb,h=>by
  obtain ⟨a1,a2⟩:=List.pairwise_cons.1 ha
  obtain ⟨b1,b2⟩:=List.pairwise_cons.1 hb
  have e:x=y:=by
   rcases List.mem_cons.1 ((h x).1 (List.mem_cons_self ..)) with e|hx
   ·exact e
   ·rcases List.mem_cons.1 ((h y).2 (List.mem_cons_self ..)) with e|hy
    ·exact e.symm
    ·exact absurd (a1 y hy) (Sec.rH _ _ (b1 x hx))
  subst e
  have Ut:∀z:L3,¬Sec.ang (Sec.dirL z) (Sec.dirL z)<0:=fun z hz=>Sec.rH _ _ hz hz
  congr 1
  refine sB a2 b2 fun z=>⟨fun hz=>?_,fun hz=>?_⟩
  ·rcases List.mem_cons.1 ((h z).1 (List.mem_cons_of_mem _ hz)) with e|g
   ·exact absurd (a1 z hz) (e▸Ut z)
   ·exact g
  ·rcases List.mem_cons.1 ((h z).2 (List.mem_cons_of_mem _ hz)) with e|g
   ·exact absurd (b1 z hz) (e▸Ut z)
   ·exact g
end Go.Proofs.Tryz
namespace Go.Proofs.Tryz
open Go.Eng Go.Big
theorem ph (l m:L3):bq l m=-dw m l:=by unfold bq dw;grind
theorem K7 (m l:L3):Sec.cr (Sec.dirL m) (Sec.dirL l)=dw m l:=by unfold Sec.cr Sec.dirL dw;grind
def ki (l m:L3):Rat:=yS l (LO l m) (LP l m)
theorem Bb {l m:L3}(hl:Nz l)(h:bq l m≠0):ki l m=dv m l:=by
 obtain ⟨v1,v2⟩:=Mq h
 obtain ⟨t,e1,e2⟩:=rO hl v1
 have e3:ki l m=t:=by unfold ki;rw [e1,e2];exact (mD hl t).2
 rw [e1,e2,uy] at v2
 rw [e3]
 have hd:dw m l≠0:=fun e=>h (by rw [ph,e];grind)
 have hi:=Rat.mul_inv_cancel _ hd
 unfold dv
 grind
def nO (l m:L3)(s:Sp):Option Sp:=
 if bq l m=0 then (if (aj m (gM l 0) (im l 0)).num.sign<=0 then none else some s)
 else
  let s':Sp:=if 0<(dw m l).num.sign then (if s.a=true\/s.lo<ki l m then ⟨ki l m,s.hi,false,s.b⟩ else s) else (if s.b=true\/ki l m<s.hi then ⟨s.lo,ki l m,s.a,false⟩ else s)
  if s'.a=false/\s'.b=false/\s'.hi<=s'.lo then none else some s'
theorem Gq {s:Sp}:s.emp=true↔s.a=false/\s.b=false/\s.hi<=s.lo:=by
 cases h:s.emp
 ·have:=Sp.kc.1 h
  constructor
  ·intro h;cases h
  ·rintro ⟨h1,h2,h3⟩
   rw [h1,h2] at this
   rcases this with h|h|h
   ·cases h
   ·cases h
   ·exfalso;grind
 ·refine ⟨fun _=>?_,fun _=>rfl⟩
  have hn:¬(s.a=true\/s.b=true\/s.lo<s.hi):=fun g=>by rw [←Sp.kc] at g;rw [h] at g;cases g
  refine ⟨?_,?_,?_⟩
  ·cases e:s.a
   ·rfl
   ·exact absurd (.inl e) hn
  ·cases e:s.b
   ·rfl
   ·exact absurd (.inr (.inl e)) hn
  ·by_cases c:s.lo<s.hi
   ·exact absurd (.inr (.inr c)) hn
   ·grind
theorem tj {l m:L3}{s:Sp}(hl:Nz l)(hs:s.iw):nO l m s=if dh l s m=true then some (cM l s m) else none:=by
 unfold nO
 by_cases hc:bq l m=0
 ·have hd:dw m l=0:=by rw [ph] at hc;grind
  have ec:cM l s m=s:=by unfold cM;rw [hd];rfl
  have eb:dh l s m=decide ((jn m l).num.sign>0):=by unfold dh;rw [hd];rfl
  rw [if_pos hc,ec,eb]
  show (if (jn m l).num.sign<=0 then none else some s)=_
  by_cases g:(jn m l).num.sign<=0
  ·rw [if_pos g,if_neg (by rw [decide_eq_true_iff];omega)]
  ·rw [if_neg g,if_pos (by rw [decide_eq_true_iff];omega)]
 ·have hd:dw m l≠0:=fun e=>hc (by rw [ph,e];grind)
  rw [if_neg hc,Bb hl hc]
  have es:(if 0<(dw m l).num.sign then (if s.a=true\/s.lo<dv m l then (⟨dv m l,s.hi,false,s.b⟩:Sp) else s) else (if s.b=true\/dv m l<s.hi then ⟨s.lo,dv m l,s.a,false⟩ else s))=cM l s m:=by
   obtain ⟨ca,cb⟩:=hs.1
   obtain ⟨lo,hi,a,b⟩:=s
   dsimp only at ca cb ⊢
   unfold cM
   rcases lU (dw m l) with ⟨h,e⟩|⟨h,e⟩|⟨h,e⟩
   ·exact absurd h hd
   ·rw [e,if_pos (by decide)]
    show _=Sp.meet ⟨lo,hi,a,b⟩ ⟨dv m l,0,false,true⟩
    unfold Sp.meet AR
    rcases lN (dv m l) lo with ⟨g,e⟩|⟨g,e⟩|⟨g,e⟩<;>rw [e]<;>cases a<;>cases b<;>simp at ca cb⊢<;> grind
   ·rw [e,if_neg (by decide)]
    show _=Sp.meet ⟨lo,hi,a,b⟩ ⟨0,dv m l,true,false⟩
    unfold Sp.meet AW
    rcases lN (dv m l) hi with ⟨g,e⟩|⟨g,e⟩|⟨g,e⟩<;>rw [e]<;>cases a<;>cases b<;>simp at ca cb⊢<;> grind
  have eb:dh l s m=!(cM l s m).emp:=by
   unfold dh
   rcases lU (dw m l) with ⟨h,e⟩|⟨h,e⟩|⟨h,e⟩
   ·exact absurd h hd
   ·rw [e];rfl
   ·rw [e];rfl
  dsimp only
  rw [es,eb]
  by_cases g:(cM l s m).a=false/\(cM l s m).b=false/\(cM l s m).hi<=(cM l s m).lo
  ·rw [if_pos g,Gq.2 g,if_neg (by decide)]
  ·rw [if_neg g]
   cases h:(cM l s m).emp
   ·rw [if_pos (by decide)]
   ·exact absurd (Gq.1 h) g
def edgeG (l:L3):List L3->Sp->Option Sp
 | [],s=>some s
 | m::r,s=>if m=l then edgeG l r s else match nO l m s with
  | some s'=>edgeG l r s'
  | none=>none
theorem po {l:L3}(hl:Nz l):∀{c:List L3} {s w:Sp},s.iw->edgeG l c s=some w->w.iw/\∀t,w.mP t↔s.mP t/\∀m∈c,m≠l->0<aj m (gM l t) (im l t)
 | [],s,w,h,e=>by cases e;exact ⟨h,fun t=>⟨fun g=>⟨g,fun m hm=>by cases hm⟩,fun g=>g.1⟩⟩
 | m::c,s,w,h,e=>by
  unfold edgeG at e
  by_cases hm:m=l
  ·rw [if_pos hm] at e
   obtain ⟨g1,g2⟩:=po hl h e
   refine ⟨g1,fun t=>(g2 t).trans (and_congr_right fun _=>?_)⟩
   rw [List.forall_mem_cons]
   exact ⟨fun g=>⟨fun hne=>absurd hm hne,g⟩,fun g=>g.2⟩
  ·rw [if_neg hm,tj hl h] at e
   by_cases hb:dh l s m=true
   ·rw [if_pos hb] at e
    obtain ⟨g1,g2⟩:=po hl (jw h hb) e
    refine ⟨g1,fun t=>?_⟩
    rw [g2,iE.1 hb t,List.forall_mem_cons,and_assoc]
    exact and_congr_right fun _=>and_congr_left fun _=>⟨fun g _=>g,fun g=>g hm⟩
   ·rw [if_neg hb] at e;cases e
theorem pj {l:L3}(hl:Nz l):∀{c:List L3} {s:Sp},s.iw->edgeG l c s=none->∀t,s.mP t->¬∀m∈c,m≠l->0<aj m (gM l t) (im l t)
 | [],s,h,e=>by cases e
 | m::c,s,h,e=>by
  intro t ht hall
  obtain ⟨ha,hr⟩:=List.forall_mem_cons.1 hall
  unfold edgeG at e
  by_cases hm:m=l
  ·rw [if_pos hm] at e
   exact pj hl h e t ht hr
  ·rw [if_neg hm,tj hl h] at e
   by_cases hb:dh l s m=true
   ·rw [if_pos hb] at e
    exact pj hl (jw h hb) e t ((iE.1 hb t).2 ⟨ht,ha hm⟩) hr
   ·exact iE.2 h.2 (by simpa using hb) t ht (ha hm)
theorem DV {l:L3}(hl:Nz l){c:List L3}:(edgeG l c fullSp).isSome=true↔Sec.Es c l:=by
 constructor
 ·intro h
  obtain ⟨w,hw⟩:=Option.isSome_iff_exists.1 h
  obtain ⟨g1,g2⟩:=po hl jx hw
  obtain ⟨t,ht⟩:=nP.1 g1.2
  exact ⟨(gM l t,im l t),(mD hl t).1,((g2 t).1 ht).2⟩
 ·rintro ⟨p,p0,p1⟩
  obtain ⟨t,e1,e2⟩:=rO hl p0
  cases h:edgeG l c fullSp with
  | some w=>rfl
  | none=>
   rw [e1,e2] at p1
   exact absurd p1 (pj hl jx h t (tA t))
def insD (l:L3):List L3->List L3
 | []=>[l]
 | u::r=>if Sec.ang (Sec.dirL u) (Sec.dirL l)<0 then u::insD l r else if u=l then u::r else l::u::r
def refC (c:List L3):List L3->List L3->List L3
 | [],out=>out
 | l::r,out=>refC c r (if (edgeG l c fullSp).isSome=true then insD l out else out)
theorem insD_mem {l x:L3}:∀{r:List L3},x∈insD l r↔x=l\/x∈r
 | []=>by simp [insD]
 | u::r=>by
  unfold insD
  split
  ·rw [List.mem_cons,insD_mem,List.mem_cons];exact or_left_comm
  split
  ·rename_i e
   subst e
   rw [List.mem_cons]
   exact ⟨.inr,fun h=>h.elim .inl id⟩
  ·rw [List.mem_cons]
theorem AH {l:L3}:∀{r:List L3},(r.Pairwise fun s u=>Sec.ang (Sec.dirL s) (Sec.dirL u)<0)->(∀s∈r,Sec.ang (Sec.dirL s) (Sec.dirL l)=0->s=l)->(insD l r).Pairwise fun s u=>Sec.ang (Sec.dirL s) (Sec.dirL u)<0
 | [],_,_=>List.pairwise_singleton _ _
 | u::r,h,hz=>by
  obtain ⟨h1,h2⟩:=List.pairwise_cons.1 h
  unfold insD
  split
  ·rename_i hlt
   refine List.pairwise_cons.2 ⟨fun y hy=>?_,AH h2 (fun s hs=>hz s (List.mem_cons_of_mem _ hs))⟩
   rcases insD_mem.1 hy with rfl|hy
   ·exact hlt
   ·exact h1 y hy
  split
  ·exact h
  ·rename_i hlt hne
   have hgt:Sec.ang (Sec.dirL l) (Sec.dirL u)<0:=by
    have h0:Sec.ang (Sec.dirL u) (Sec.dirL l)≠0:=fun e=>hne (hz u (List.mem_cons_self ..) e)
    rcases Sec.se (Sec.dirL u) (Sec.dirL l) with g|g|g
    ·exact absurd g hlt
    ·exact absurd g h0
    ·exact g
   refine List.pairwise_cons.2 ⟨fun y hy=>?_,h⟩
   rcases List.mem_cons.1 hy with rfl|hy
   ·exact hgt
   ·exact xU hgt (h1 y hy)
theorem Ld {c:List L3}(hk:∀m∈c,okL m=true){l m:L3}(hl:l∈c)(hm:m∈c)(el:Sec.Es c l)(em:Sec.Es c m)(h:Sec.ang (Sec.dirL l) (Sec.dirL m)=0):l=m:=by
 by_cases e:l=m
 ·exact e
 exfalso
 obtain ⟨p,p0,p1⟩:=em
 obtain ⟨r,r0,r1⟩:=el
 exact Bc (C0 (hk l hl)) h p0 (p1 l hl e) r0 (r1 m hm fun e'=>e e'.symm)
theorem zd {c:List L3}(hk:∀m∈c,okL m=true):∀{r out:List L3},(∀m∈r,m∈c)->(∀m∈out,m∈c/\Sec.Es c m)->(out.Pairwise fun s u=>Sec.ang (Sec.dirL s) (Sec.dirL u)<0) ->
  ((refC c r out).Pairwise fun s u=>Sec.ang (Sec.dirL s) (Sec.dirL u)<0)/\∀x,x∈refC c r out↔x∈out\/x∈r/\Sec.Es c x
 | [],out,_,_,h=>⟨h,fun x=>by simp [refC]⟩
 | l::r,out,hr,ho,h=>by
  obtain ⟨hl,hr⟩:=List.forall_mem_cons.1 hr
  unfold refC
  by_cases he:Sec.Es c l
  ·rw [if_pos ((DV (kW (hk l hl))).2 he)]
   obtain ⟨g1,g2⟩:=zd hk (r:=r) (out:=insD l out) hr (fun m hm=>by
    rcases insD_mem.1 hm with rfl|hm
    ·exact ⟨hl,he⟩
    ·exact ho m hm) (AH h fun s hs e=>Ld hk (ho s hs).1 hl (ho s hs).2 he e)
   refine ⟨g1,fun x=>?_⟩
   rw [g2,insD_mem,List.mem_cons]
   constructor
   ·rintro ((rfl|h)|h)
    ·exact .inr ⟨.inl rfl,he⟩
    ·exact .inl h
    ·exact .inr ⟨.inr h.1,h.2⟩
   ·rintro (h|⟨rfl|h,e⟩)
    ·exact .inl (.inr h)
    ·exact .inl (.inl rfl)
    ·exact .inr ⟨h,e⟩
  ·rw [if_neg fun g=>he ((DV (kW (hk l hl))).1 g)]
   obtain ⟨g1,g2⟩:=zd hk (r:=r) (out:=out) hr ho h
   refine ⟨g1,fun x=>?_⟩
   rw [g2,List.mem_cons]
   constructor
   ·rintro (h|h)
    ·exact .inl h
    ·exact .inr ⟨.inr h.1,h.2⟩
   ·rintro (h|⟨rfl|h,e⟩)
    ·exact .inl h
    ·exact absurd e he
    ·exact .inr ⟨h,e⟩
theorem Es.of {M N:List L3}(h:∀x,x∈M->x∈N){l:L3}(e:Sec.Es N l):Sec.Es M l:=by
 obtain ⟨p,p0,p1⟩:=e
 exact ⟨p,p0,fun m hm=>p1 m (h m hm)⟩
theorem Gd {ls:List L3}(hk:∀m∈ls,okL m=true):(∀c,fG ls [] []=some c->refC ls ls []=c.map Prod.fst/\CanC ls.reverse c/\(ls=[]\/refC ls ls []≠[]))/\(fG ls [] []=none->refC ls ls []=[]/\ls≠[]/\¬∃q,Sec.pos ls q):=by
 obtain ⟨h1,h2⟩:=Aj (ls:=ls) CanC.nil (fun m hm=>by cases hm) hk
 rw [List.append_nil] at h1 h2
 obtain ⟨g1,g2⟩:=zd hk (r:=ls) (out:=[]) (fun m hm=>hm) (fun m hm=>by cases hm) List.Pairwise.nil
 have g2:∀x,x∈refC ls ls []↔x∈ls/\Sec.Es ls x:=fun x=>(g2 x).trans ⟨fun h=>h.elim (fun h=>by cases h) id,.inr⟩
 have hpos:∀q,Sec.pos ls q↔Sec.pos ls.reverse q:=fun q=>⟨fun h m hm=>h m (List.mem_reverse.1 hm),fun h m hm=>h m (List.mem_reverse.2 hm)⟩
 constructor
 ·intro c e
  have hc:=h1 c e
  obtain ⟨q,hq⟩:=hc.pos
  have hq:=(hpos q).2 hq
  refine ⟨?_,hc,?_⟩
  ·refine sB g1 (List.pairwise_map.2 hc.asc) fun x=>?_
   rw [g2,List.mem_map]
   constructor
   ·rintro ⟨a,b⟩
    obtain ⟨v,hv⟩:=hc.all x (List.mem_reverse.2 a) (Es.of (fun y hy=>List.mem_reverse.1 hy) b)
    exact ⟨_,hv,rfl⟩
   ·rintro ⟨s,hs,rfl⟩
    obtain ⟨a1,a2,a3⟩:=hc.mem s hs
    obtain ⟨t,ht⟩:=nP.1 a2.2
    have a1:=List.mem_reverse.1 a1
    exact ⟨a1,⟨(gM s.1 t,im s.1 t),(mD (kW (hk _ a1)) t).1,fun m hm hne=>(a3 t).1 ht m (List.mem_reverse.2 hm) hne⟩⟩
  ·by_cases h0:ls=[]
   ·exact .inl h0
   right
   obtain ⟨l,hl,he⟩:=Sec.IK (Gn hk hq) (fun m hm=>C0 (hk m hm)) hq h0
   exact List.ne_nil_of_mem ((g2 l).2 ⟨hl,he⟩)
 ·intro e
  have hno:¬∃q,Sec.pos ls q:=fun ⟨q,hq⟩=>h2 e ⟨q,(hpos q).1 hq⟩
  refine ⟨?_,fun h0=>hno ⟨(0,0),fun m hm=>by rw [h0] at hm;cases hm⟩,hno⟩
  refine List.eq_nil_iff_forall_not_mem.2 fun x hx=>?_
  obtain ⟨a,p,p0,p1⟩:=(g2 x).1 hx
  obtain ⟨q,hq,-⟩:=Sec.CC (C0 (hk x a)) p0 p1 [] (fun m hm=>by cases hm)
  exact hno ⟨q,hq⟩
theorem ok_rev {l:L3}(h:okL l=true):okL (revL l)=true:=by
 unfold okL revL gW at *
 simp only [Int.natAbs_neg]
 rw [Bool.and_eq_true,decide_eq_true_iff,decide_eq_true_iff] at h ⊢
 exact ⟨fun e=>h.1 ⟨by omega,by omega⟩,h.2⟩
section
variable {M:List L3} {c:List Sd} (h:CanC M c) (hk:∀m ∈ M,okL m=true)
include h hk
theorem IG {p:Sec.V2}(hp:∀s∈c,0<=aj s.1 p.1 p.2):∀m∈M,0<=aj m p.1 p.2:=by
 intro m hm
 obtain ⟨q,hq⟩:=h.pos
 have key:∀t:Rat,0<=t->t<1->Sec.pos M (q.1+t*(p.1-q.1),q.2+t*(p.2-q.2)):=fun t t0 t1=>h.int hk fun s hs=>by
  dsimp only
  rw [Sec.oH]
  have h1:=hq s.1 (h.mem s hs).1
  have h2:=Sec.mn t0 (hp s hs)
  have h3:=Sec.mp (show 1-t>0 by grind) h1
  grind
 by_cases c0:0<=aj m p.1 p.2
 ·exact c0
 exfalso
 have h1:=hq m hm
 obtain ⟨t,t0,t1,e⟩:=Sec.rV (y:=(aj m q.1 q.2,aj m p.1 p.2)) h1 (s:=1) (by decide) (by unfold Sec.mx;grind)
 have t1':t<1:=by
  by_cases e1:t=1
  ·subst e1;unfold Sec.mx at e;dsimp only at e;grind
  ·grind
 have:=key t (by grind) t1' m hm
 dsimp only at this
 rw [Sec.oH] at this
 unfold Sec.mx at e
 dsimp only at e
 grind
theorem Ft (q:Sec.V2):Sec.pos (c.map Prod.fst) q↔Sec.pos M q:=by
 constructor
 ·intro g
  exact h.int hk fun s hs=>g _ (List.mem_map.2 ⟨s,hs,rfl⟩)
 ·intro g m hm
  obtain ⟨s,hs,rfl⟩:=List.mem_map.1 hm
  exact g _ (h.mem s hs).1
theorem El {s:Sd}(hs:s∈c):∃x:Sec.V2,aj s.1 x.1 x.2=0/\∀m∈M,m≠s.1->0<aj m x.1 x.2:=
 ⟨(gM s.1 s.2.df,im s.1 s.2.df),lf h hk hs⟩
end
end Go.Proofs.Tryz
namespace Go.Proofs.Tryz
open Go.Eng Go.Big
section
variable {M:List L3} {c:List Sd} (h:CanC M c) (hk:∀m ∈ M,okL m=true)
include h hk
end
end Go.Proofs.Tryz
namespace Go.Proofs.Tryz
open Go.Eng Go.Big
namespace Sec
end Sec
section
variable {M:List L3} {c:List Sd} (h:CanC M c) (hk:∀m ∈ M,okL m=true)
include h hk
end
end Go.Proofs.Tryz
namespace Go.Proofs.Tryz
open Go.Eng Go.Big
namespace Sec
end Sec
section
variable {M:List L3} {c:List Sd} (h:CanC M c) (hk:∀m ∈ M,okL m=true)
include h hk
end
end Go.Proofs.Tryz
namespace Go.Proofs.Tryz
open Go.Eng Go.Big
section
variable {M:List L3} {c:List Sd} (h:CanC M c) (hk:∀m ∈ M,okL m=true) (hb:∀s ∈ c,s.2.a=false/\s.2.b=false)
include h hk hb
end
end Go.Proofs.Tryz
namespace Go.Proofs.Tryz
open Go.Eng Go.Big
section
variable {M:List L3} {c:List Sd} (h:CanC M c) (hk:∀m ∈ M,okL m=true) (hb:∀s ∈ c,s.2.a=false/\s.2.b=false)
include h hk hb
end
end Go.Proofs.Tryz
namespace Go.Proofs.Tryz
open Go.Eng Go.Big
section
variable {M:List L3} {c:List Sd} (h:CanC M c) (hk:∀m ∈ M,okL m=true) (hb:∀s ∈ c,s.2.a=false/\s.2.b=false)
include h hk hb
end
end Go.Proofs.Tryz
namespace Go.Proofs.Tryz
open Go.Eng Go.Big
section
variable {M:List L3} {c:List Sd} (h:CanC M c) (hk:∀m ∈ M,okL m=true)
include h hk
theorem HT:∀m∈c.map Prod.fst,okL m=true:=fun m hm=>by
 obtain ⟨s,hs,rfl⟩:=List.mem_map.1 hm
 exact hk _ (h.mem s hs).1
end
end Go.Proofs.Tryz
namespace Go.Proofs.Tryz
open Go.Eng Go.Big
theorem kE.up {k K:Nat}{l:L3}(h:kE k l)(hk:k<=K):kE K l:=⟨h.1.mono hk,h.2.1.mono hk,h.2.2.mono hk⟩
theorem zj {L M:L3}{s:Sp}{k K:Nat}(sl:kE k L)(sm:kE k M)(hs:s.sz K)(hk:60*k+60<=K):(cM L s M).sz K:=by
 have z:=KJ K (by omega)
 have c:=(rS sl sm).mono hk
 unfold cM
 split
 ·exact hs
 ·split
  ·exact Sp.yM hs ⟨c,z⟩
  ·exact Sp.yM hs ⟨z,c⟩
theorem DX {k:Nat}(hk:0<k):fullSp.sz k:=⟨KJ k hk,KJ k hk⟩
def P9 (s:Sd):Prop:=Bd s.1/\s.2.sz 100000
theorem D0 {x:Sd}:∀{r:List Sd} {i:Nat},i<=r.length->(∀k (h:k<r.length),k<i->Sec.ang (Sec.dirL r[k].1) (Sec.dirL x.1)<0)->(∀h:i<r.length,¬Sec.ang (Sec.dirL r[i].1) (Sec.dirL x.1)<0)->kS x r=r.take i++x::r.drop i
 | [],i,hi,_,_=>by simp [kS]
 | s::r,0,_,_,h=>by
  have:¬Sec.ang (Sec.dirL s.1) (Sec.dirL x.1)<0:=h (Nat.zero_lt_succ _)
  unfold kS
  rw [if_neg this]
  rfl
 | s::r,i+1,hi,h1,h2=>by
  have:Sec.ang (Sec.dirL s.1) (Sec.dirL x.1)<0:=h1 0 (Nat.zero_lt_succ _) (Nat.zero_lt_succ _)
  unfold kS
  rw [if_pos this,D0 (r:=r) (i:=i) (by simpa using hi) (fun k hk hki=>h1 (k+1) (by simpa using hk) (by omega)) fun h=>h2 (by simpa using h)]
  rfl
structure Bs (r:List Sd) (l:L3) (i j:Nat):Prop where
 le:i<=j
 len:j<=r.length
 lo:∀k (h:k<r.length),k<i->Sec.ang (Sec.dirL r[k].1) (Sec.dirL l)<0
 hi:∀h:j<r.length,¬Sec.ang (Sec.dirL r[j].1) (Sec.dirL l)<0
theorem Bs.start (r:List Sd)(l:L3):Bs r l 0 r.length:=⟨Nat.zero_le _,Nat.le_refl _,fun k h hk=>absurd hk (Nat.not_lt_zero _),fun h=>absurd h (Nat.lt_irrefl _)⟩
theorem Bs.up {r:List Sd}{l:L3}{i j h:Nat}(b:Bs r l i j)(asc:r.Pairwise fun s u=>Sec.ang (Sec.dirL s.1) (Sec.dirL u.1)<0)(h2:h<j)(hl:h<r.length)(hc:Sec.ang (Sec.dirL r[h].1) (Sec.dirL l)<0):Bs r l (h+1) j:=
 ⟨h2,b.len,fun k hk hkh=>by
  by_cases e:k=h
  ·subst e;exact hc
  ·exact xU (List.pairwise_iff_getElem.1 asc k h hk hl (by omega)) hc,b.hi⟩
theorem Bs.down {r:List Sd}{l:L3}{i j h:Nat}(b:Bs r l i j)(h1:i<=h)(hl:h<r.length)(hc:¬Sec.ang (Sec.dirL r[h].1) (Sec.dirL l)<0):Bs r l i h:=
 ⟨h1,by omega,b.lo,fun _=>hc⟩
theorem Bs.done {r:List Sd}{l:L3}{i:Nat}(b:Bs r l i i)(v:Sp):kS (l,v) r=r.take i++(l,v)::r.drop i:=D0 b.len b.lo b.hi
end Go.Proofs.Tryz
