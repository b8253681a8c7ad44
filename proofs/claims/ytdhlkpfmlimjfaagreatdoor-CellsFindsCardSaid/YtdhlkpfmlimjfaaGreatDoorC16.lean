import Derived.Test.YtdhlkpfmlimjfaaGreatDoorC10
import Derived.Test.YtdhlkpfmlimjfaaGreatDoorC15
import Derived.Test.YtdhlkpfmlimjfaaGreatDoorC14
import Derived.Test.YtdhlkpfmlimjfaaGreatDoorC8
import Derived.Test.YtdhlkpfmlimjfaaGreatDoorC6
set_option linter.unusedVariables false
open Go.IntKind (i64 u64 u32)
namespace Go.Proofs.Tryz.Sec
open Go.Eng Go.Big
def nv (l:L3)(v:V2):Rat:=(l.1:Rat)*v.1+(l.2.1:Rat)*v.2
def dirL (l:L3):V2:=((l.2.1:Rat),-(l.1:Rat))
theorem FN (l:L3)(v:V2):nv l v=cr (dirL l) v:=by unfold nv cr dirL;grind
def N4 (l:L3)(p v:V2):Int:=if (ai l p.1 p.2).num.sign=0 then (nv l v).num.sign else (ai l p.1 p.2).num.sign
def CZ:Tr->V2->V2->Bool×Bool
 | .leaf i,_,_=>(i,true)
 | .node l a b,p,v=>if N4 l p v=1 then CZ a p v else if N4 l p v=-1 then CZ b p v else (false,false)
def jR:Tr->V2->List L3
 | .leaf _,_=>[]
 | .node l a b,p=>(if ai l p.1 p.2=0 then [l] else [])++((if ai l p.1 p.2≥0 then jR a p else [])++(if ai l p.1 p.2<=0 then jR b p else []))
theorem uP:∀{t:Tr} {p:V2} {l:L3},l∈jR t p->ai l p.1 p.2=0/\l∈t.wZ
 | .leaf _,_,_,h=>by cases h
 | .node m a b,p,l,h=>by
  unfold jR at h;simp only [List.mem_append] at h;rcases h with h|h|h
  ·split at h
   ·rename_i e;rcases List.mem_singleton.1 h with rfl;exact ⟨e,List.mem_cons_self ..⟩
   ·cases h
  ·split at h
   ·have:=uP h;exact ⟨this.1,List.mem_cons_of_mem _ (List.mem_append_left _ this.2)⟩
   ·cases h
  ·split at h
   ·have:=uP h;exact ⟨this.1,List.mem_cons_of_mem _ (List.mem_append_right _ this.2)⟩
   ·cases h
theorem vq {q:Rat}:q.num.sign=-1↔q<0:=by
 rw [Int.sign_eq_neg_one_iff_neg,←Int.not_le,←Rat.not_le,Rat.num_nonneg]
theorem AE {q:Rat}:q.num.sign=1↔q>0:=by
 have h:=@vq (-q);rw [Rat.neg_num,Int.sign_neg] at h;constructor
 ·intro e;have:=h.1 (by rw [e]);grind
 ·intro e;have:=h.2 (by grind);omega
theorem eT {q:Rat}:q.num.sign=0↔q=0:=by rw [Int.sign_eq_zero_iff_zero,Rat.num_eq_zero]
theorem vG:∀{t:Tr} {p v x:V2},(∀l∈jR t p,nv l v≠0)->(∀l∈jR t p,(nv l v>0->nv l x>0)/\(nv l v<0->nv l x<0)) ->
  CZ t p x=CZ t p v/\(CZ t p v).2=true
 | .leaf _,_,_,_,_,_=>⟨rfl,rfl⟩
 | .node l a b,p,v,x,h0,h1=>by
  have ha:ai l p.1 p.2≥0->CZ a p x=CZ a p v/\(CZ a p v).2=true:=fun e=>by
   have sub:∀m∈jR a p,m∈jR (.node l a b) p:=fun m hm=>by
    unfold jR;rw [if_pos e];exact List.mem_append_right _ (List.mem_append_left _ hm)
   exact vG (fun m hm=>h0 m (sub m hm)) (fun m hm=>h1 m (sub m hm))
  have hb:ai l p.1 p.2<=0->CZ b p x=CZ b p v/\(CZ b p v).2=true:=fun e=>by
   have sub:∀m∈jR b p,m∈jR (.node l a b) p:=fun m hm=>by
    unfold jR;rw [if_pos e];exact List.mem_append_right _ (List.mem_append_right _ hm)
   exact vG (fun m hm=>h0 m (sub m hm)) (fun m hm=>h1 m (sub m hm))
  have f:ai l p.1 p.2=0->l∈jR (.node l a b) p:=fun e=>by
   unfold jR;rw [if_pos e];exact List.mem_append_left _ (List.mem_singleton.2 rfl)
  have key:N4 l p x=N4 l p v/\(N4 l p v=1/\ai l p.1 p.2≥0\/N4 l p v=-1/\ai l p.1 p.2<=0):=by
   unfold N4;by_cases e:ai l p.1 p.2=0
   ·have hm:=f e;rw [if_pos (eT.2 e),if_pos (eT.2 e)];obtain ⟨i,j⟩:=h1 l hm;have o:=h0 l hm;by_cases q:nv l v>0
    ·rw [AE.2 q,AE.2 (i q)];exact ⟨rfl,.inl ⟨rfl,by grind⟩⟩
    ·have c:nv l v<0:=by grind
     rw [vq.2 c,vq.2 (j c)];exact ⟨rfl,.inr ⟨rfl,by grind⟩⟩
   ·have d:¬(ai l p.1 p.2).num.sign=0:=fun h=>e (eT.1 h);rw [if_neg d,if_neg d];refine ⟨rfl,?_⟩;by_cases q:ai l p.1 p.2>0
    ·exact .inl ⟨AE.2 q,by grind⟩
    ·exact .inr ⟨vq.2 (by grind),by grind⟩
  obtain ⟨k,n⟩:=key;simp only [CZ,k];rcases n with ⟨e,g⟩|⟨e,g⟩
  ·rw [e,if_pos rfl,if_pos rfl];exact ha g
  ·rw [e,if_neg (by decide),if_pos rfl,if_neg (by decide),if_pos rfl];exact hb g
def Oe (D:List V2)(M:List L3):Prop:=∀l∈M,∃r∈D,∃c:Rat,c>0/\r=(c*(dirL l).1,c*(dirL l).2)
theorem D4 {l:L3}{r:V2}{c:Rat}(c0:c>0)(e:r=(c*(dirL l).1,c*(dirL l).2))(v:V2):cr r v=c*nv l v:=by
 rw [FN,e];unfold cr;grind
theorem FJ {c x:Rat}(c0:c>0):(c*x>0↔x>0)/\(c*x<0↔x<0)/\(c*x=0↔x=0):=by
 have p:x>0->c*x>0:=fun h=>mp c0 h;have n:x<0->c*x<0:=fun h=>by have:=mp c0 (show -x>0 by grind);grind
 have z:x=0->c*x=0:=fun h=>by rw [h];grind
 refine ⟨⟨fun h=>?_,p⟩,⟨fun h=>?_,n⟩,⟨fun h=>?_,z⟩⟩
 ·by_cases q:x>0
  ·exact q
  ·by_cases a:x<0
   ·have:=n a;grind
   ·have:=z (by grind);grind
 ·by_cases q:x<0
  ·exact q
  ·by_cases a:x>0
   ·have:=p a;grind
   ·have:=z (by grind);grind
 ·rcases Rat.mul_eq_zero.1 h with h|h
  ·grind
  ·exact h
theorem Oe.gen {D:List V2}{M:List L3}(h:Oe D M){v:V2}(hv:∀r∈D,cr r v≠0):∀l∈M,nv l v≠0:=by
 intro l a e;obtain ⟨r,b,c,d,f⟩:=h l a;exact hv r b (by rw [D4 d f,e];grind)
theorem Oe.same {D:List V2}{M:List L3}(h:Oe D M){v x:V2}(hv:∀r∈D,(cr r v>0->cr r x>0)/\(cr r v<0->cr r x<0)) :
  ∀l∈M,(nv l v>0->nv l x>0)/\(nv l v<0->nv l x<0):=by
 intro l d;obtain ⟨r,e,c,a,b⟩:=h l d;have:=hv r e;rw [D4 a b,D4 a b] at this;obtain ⟨f,g,_⟩:=@FJ c (nv l v) a;obtain ⟨b1,b2,_⟩:=@FJ c (nv l x) a;exact ⟨fun h=>b1.1 (this.1 (f.2 h)),fun h=>b2.1 (this.2 (g.2 h))⟩
def anyS (t:Tr)(p:V2)(S:List V2):Bool:=S.any fun v=>(CZ t p v).1
def Km (t:Tr)(p:V2)(S:List V2):Bool:=S.all fun v=>(CZ t p v).1
theorem eU (l:L3)(p v:V2)(s:Rat):ai l (p.1+s*v.1) (p.2+s*v.2)=ai l p.1 p.2+s*nv l v:=by unfold ai nv;grind
def Aj (p v:V2)(s:Rat)(l:L3):Rat:=
 if nv l v=0\/ai l p.1 p.2=0 then s
 else if -(ai l p.1 p.2*(nv l v)⁻¹)>0/\-(ai l p.1 p.2*(nv l v)⁻¹)*(1 / 2)<s then -(ai l p.1 p.2*(nv l v)⁻¹)*(1 / 2) else s
theorem inv_mul {c:Rat}(h:c≠0)(a:Rat):a*c⁻¹*c=a:=by rw [Rat.mul_assoc,Rat.inv_mul_cancel _ h,Rat.mul_one]
def half (u:V2):Int:=if u.2.num.sign>0\/u.2.num.sign=0/\u.1.num.sign>0 then 1 else if u.2.num.sign<0\/u.1.num.sign<0 then 2 else 0
def ang (u v:V2):Int:=if half u<half v then -1 else if half u>half v then 1 else -(cr u v).num.sign
theorem pE {q:Rat}:q.num.sign>0↔q>0:=by
 have:=Rat.num_nonneg (q:=-q);rw [Rat.neg_num] at this;rw [gt_iff_lt,Int.sign_pos_iff];have a:(0<=-q)↔¬q>0:=by constructor<;>intro h<;>grind
 rw [a] at this;by_cases h:q>0
 ·exact ⟨fun _=>h,fun _=>by
   have:¬0<=-q.num:=fun g=>this.1 g h;omega⟩
 ·exact ⟨fun g=>by have:=this.2 h;omega,fun g=>absurd g h⟩
theorem CS {q:Rat}:q.num.sign<0↔q<0:=by
 have:=@pE (-q);rw [Rat.neg_num,Int.sign_neg] at this;constructor
 ·intro h;have:=this.1 (by omega);grind
 ·intro h;have:=this.2 (by grind);omega
theorem bU (u:V2):half u=1/\up u\/half u=2/\dn u\/half u=0/\u.1=0/\u.2=0:=by
 unfold half up dn;split
 ·rename_i h;rw [pE,pE,eT] at h;exact .inl ⟨rfl,h⟩
 ·rename_i h;rw [pE,pE,eT] at h;split
  ·rename_i h';rw [CS,CS] at h';exact .inr (.inl ⟨rfl,by grind⟩)
  ·rename_i h';rw [CS,CS] at h';exact .inr (.inr ⟨rfl,by grind,by grind⟩)
theorem nh {u v:V2}:ang u v<0↔half u<half v\/half u=half v/\cr u v>0:=by
 have:=@pE (cr u v);unfold ang;by_cases a:half u<half v
 ·simp [a]
 ·by_cases b:half u>half v
  ·rw [if_neg a,if_pos b];omega
  ·rw [if_neg a,if_neg b];constructor
   ·intro h;exact .inr ⟨by omega,this.1 (by omega)⟩
   ·rintro (h|⟨h,h'⟩)
    ·omega
    ·have:=this.2 h';omega
theorem jA {u v:V2}:ang u v=0↔half u=half v/\cr u v=0:=by
 have:=@eT (cr u v);unfold ang;by_cases a:half u<half v
 ·rw [if_pos a];constructor
  ·intro h;omega
  ·rintro ⟨h,_⟩;omega
 ·by_cases b:half u>half v
  ·rw [if_neg a,if_pos b];constructor
   ·intro h;omega
   ·rintro ⟨h,_⟩;omega
  ·rw [if_neg a,if_neg b];constructor
   ·intro h;exact ⟨by omega,this.1 (by omega)⟩
   ·rintro ⟨_,h⟩;have:=this.2 h;omega
theorem tI (u v:V2):ang u v<0\/ang u v=0\/ang v u<0:=by
 rw [nh,jA,nh];have:=gw u v;rcases Int.lt_trichotomy (half u) (half v) with h|h|h
 ·exact .inl (.inl h)
 ·by_cases p:cr u v>0
  ·exact .inl (.inr ⟨h,p⟩)
  ·by_cases q:cr u v=0
   ·exact .inr (.inl ⟨h,q⟩)
   ·exact .inr (.inr (.inr ⟨h.symm,by grind⟩))
 ·exact .inr (.inr (.inl h))
theorem s_ (u v:V2)(h:ang u v<0):¬ang v u<0:=by
 rw [nh] at *;have:=gw u v;rintro (h'|⟨h',a⟩)<;>rcases h with h|⟨h,g⟩
 ·omega
 ·omega
 ·omega
 ·grind
theorem Ky {a b d:V2}(hab:half a=half b)(hbd:half b=half d)(h1:cr a b<=0)(h2:cr b d<=0):cr a d<=0:=by
 by_cases h:cr a d<=0
 ·exact h
 exfalso;have c:cr a d>0:=by grind
 have n:=Ny a d b;have o:=Em a d b;rcases bU b with ⟨e,hb⟩|⟨e,hb⟩|⟨e,hb⟩
 ·have g:up a:=by rcases bU a with ⟨f,h⟩|⟨f,h⟩|⟨f,h⟩<;>first|exact h|omega
  have i:up d:=by rcases bU d with ⟨f,h⟩|⟨f,h⟩|⟨f,h⟩<;>first|exact h|omega
  unfold up at g hb i;have k:=mn (show -(cr a b)≥0 by grind) (show d.2≥0 by grind);have l:=mn (show -(cr b d)≥0 by grind) (show a.2≥0 by grind);have m:=mn (show cr a d≥0 by grind) (show b.2≥0 by grind);have j:cr a d*b.2=0:=by grind
  have b2:b.2=0:=by rcases Rat.mul_eq_zero.1 j with h|h<;>grind
  have b1:b.1>0:=by grind
  have d2:d.2=0:=by
   by_cases q:d.2>0
   ·have:=mp b1 q;unfold cr at h2;rw [b2] at h2;grind
   ·grind
  have d1:d.1>0:=by grind
  have:=mn (show a.2≥0 by grind) (show d.1≥0 by grind);unfold cr at c;rw [d2] at c;grind
 ·have g:dn a:=by rcases bU a with ⟨f,h⟩|⟨f,h⟩|⟨f,h⟩<;>first|exact h|omega
  have i:dn d:=by rcases bU d with ⟨f,h⟩|⟨f,h⟩|⟨f,h⟩<;>first|exact h|omega
  unfold dn at g hb i;have k:=mn (show -(cr a b)≥0 by grind) (show -d.2≥0 by grind);have l:=mn (show -(cr b d)≥0 by grind) (show -a.2≥0 by grind);have m:=mn (show cr a d≥0 by grind) (show -b.2≥0 by grind);have j:cr a d*b.2=0:=by grind
  have b2:b.2=0:=by rcases Rat.mul_eq_zero.1 j with h|h<;>grind
  have b1:-b.1>0:=by grind
  have d2:d.2=0:=by
   by_cases q:-d.2>0
   ·have:=mp b1 q;unfold cr at h2;rw [b2] at h2;grind
   ·grind
  have d1:d.1<0:=by grind
  have:=mn (show -a.2≥0 by grind) (show -d.1≥0 by grind);unfold cr at c;rw [d2] at c;grind
 ·have g:a.1=0/\a.2=0:=by rcases bU a with ⟨f,h⟩|⟨f,h⟩|⟨f,h⟩<;>first|exact h|omega
  unfold cr at c;rw [g.1,g.2] at c;grind
theorem MQ {u v:V2}:¬ang u v<0↔half v<half u\/half u=half v/\cr u v<=0:=by
 rw [nh];constructor
 ·intro h;rcases Int.lt_trichotomy (half u) (half v) with g|g|g
  ·exact absurd (.inl g) h
  ·exact .inr ⟨g,by by_cases p:cr u v>0;exact absurd (.inr ⟨g,p⟩) h;grind⟩
  ·exact .inl g
 ·rintro (h|⟨h,g⟩) (h'|⟨h',a⟩)
  ·omega
  ·omega
  ·omega
  ·grind
theorem tK (a b d:V2)(h:¬ang a b<0)(h':¬ang b d<0):¬ang a d<0:=by
 rw [MQ] at *;rcases h with h|⟨h,g⟩<;>rcases h' with h'|⟨h',g'⟩
 ·exact .inl (by omega)
 ·exact .inl (by omega)
 ·exact .inl (by omega)
 ·exact .inr ⟨by omega,Ky h h' g g'⟩
theorem MR {u v:V2}(hu:nz u)(hv:nz v):ang u v<0↔sf u v:=by
 have b:∀{w:V2},nz w->¬(w.1=0/\w.2=0):=fun h g=>by unfold nz at h;rcases h with h|h;exact h g.1;exact h g.2
 rw [nh];unfold sf;rcases bU u with ⟨e,h⟩|⟨e,h⟩|⟨e,h⟩
 ·rcases bU v with ⟨a,h'⟩|⟨a,h'⟩|⟨a,h'⟩
  ·rw [e,a];constructor
   ·rintro (g|⟨_,g⟩)
    ·omega
    ·exact .inr ⟨.inl ⟨h,h'⟩,g⟩
   ·rintro (⟨_,g⟩|⟨_,g⟩)
    ·exact (eH h' g).elim
    ·exact .inr ⟨rfl,g⟩
  ·rw [e,a];exact ⟨fun _=>.inl ⟨h,h'⟩,fun _=>.inl (by decide)⟩
  ·exact absurd h' (b hv)
 ·rcases bU v with ⟨a,h'⟩|⟨a,h'⟩|⟨a,h'⟩
  ·rw [e,a];constructor
   ·rintro (g|⟨g,_⟩)<;>omega
   ·rintro (⟨g,_⟩|⟨⟨g,_⟩|⟨_,g⟩,_⟩)
    ·exact (eH g h).elim
    ·exact (eH g h).elim
    ·exact (eH h' g).elim
  ·rw [e,a];constructor
   ·rintro (g|⟨_,g⟩)
    ·omega
    ·exact .inr ⟨.inr ⟨h,h'⟩,g⟩
   ·rintro (⟨g,_⟩|⟨_,g⟩)
    ·exact (eH g h).elim
    ·exact .inr ⟨rfl,g⟩
  ·exact absurd h' (b hv)
 ·exact absurd h (b hu)
theorem Bn {u v:V2}(hu:nz u)(h:ang u v=0):∃c:Rat,c>0/\u=(c*v.1,c*v.2):=by
 rw [jA] at h;obtain ⟨e,c⟩:=h;have fin:∀k:Rat,k>0->u.1=k*v.1->u.2=k*v.2->∃c:Rat,c>0/\u=(c*v.1,c*v.2):=fun k a b g=>⟨k,a,Prod.ext b g⟩
 have pos:∀x y:Rat,y≠0->x*y>0->x*y⁻¹>0:=fun x y j h=>by
  have e:=inv_mul j x;generalize x*y⁻¹=t at *;have n:t*(y*y)=x*y:=by grind
  have:=sq_pos (u:=(y,0)) (.inl j);unfold dt at this;by_cases q:t>0
  ·exact q
  ·have:=mn (show -t≥0 by grind) (show y*y≥0 by grind);grind
 unfold cr at c
 have two:v.2≠0->u.2*v.2>0->∃c:Rat,c>0/\u=(c*v.1,c*v.2):=fun a b=>by
  refine fin (u.2*v.2⁻¹) (pos _ _ a b) ?_ (inv_mul a _).symm;have:=inv_mul a u.1;have:u.1*v.2*v.2⁻¹=u.2*v.1*v.2⁻¹:=by rw [show u.1*v.2=u.2*v.1 by grind]
  grind
 have one:v.1≠0->u.1*v.1>0->v.2=0->u.2=0->∃c:Rat,c>0/\u=(c*v.1,c*v.2):=fun a b g m=>
  fin (u.1*v.1⁻¹) (pos _ _ a b) (inv_mul a _).symm (by rw [g,m];grind)
 rcases bU u with ⟨l,h⟩|⟨l,h⟩|⟨l,h⟩
 ·have h':up v:=by rcases bU v with ⟨d,h⟩|⟨d,h⟩|⟨d,h⟩<;>first|exact h|omega
  unfold up at h h';by_cases q:v.2>0
  ·refine two (by grind) ?_;by_cases f:u.2>0
   ·exact mp f q
   ·have i:u.2=0:=by grind
    have:=mp (show u.1>0 by grind) q;rw [i] at c;grind
  ·have v2:v.2=0:=by grind
   have v1:v.1>0:=by grind
   by_cases f:u.2>0
   ·have:=mp f v1;rw [v2] at c;grind
   ·exact one (by grind) (mp (by grind) v1) v2 (by grind)
 ·have h':dn v:=by rcases bU v with ⟨d,h⟩|⟨d,h⟩|⟨d,h⟩<;>first|exact h|omega
  unfold dn at h h';by_cases q:v.2<0
  ·refine two (by grind) ?_;by_cases f:u.2<0
   ·have:=mp (show -u.2>0 by grind) (show -v.2>0 by grind);grind
   ·have i:u.2=0:=by grind
    have:=mp (show -u.1>0 by grind) (show -v.2>0 by grind);rw [i] at c;grind
  ·have v2:v.2=0:=by grind
   have v1:-v.1>0:=by grind
   by_cases f:u.2<0
   ·have:=mp (show -u.2>0 by grind) v1;rw [v2] at c;grind
   ·refine one (by grind) ?_ v2 (by grind);have:=mp (show -u.1>0 by grind) v1;grind
 ·unfold nz at hu;grind
theorem Kn {a b d:V2}(h:ang a b=0)(h':ang b d=0):ang a d=0:=by
 have z:∀{u v:V2},ang u v=0↔¬ang u v<0/\¬ang v u<0:=by
  intro u v;constructor
  ·intro e;refine ⟨by omega,?_⟩;rw [jA] at e;have:=gw u v;rw [nh];rintro (g|⟨_,g⟩)
   ·omega
   ·grind
  ·rintro ⟨g,c⟩;rcases tI u v with e|e|e
   ·exact absurd e g
   ·exact e
   ·exact absurd e c
 rw [z] at *;exact ⟨tK _ _ _ h.1 h'.1,tK _ _ _ h'.2 h.2⟩
theorem tJ (a:V2):ang a a=0:=jA.2 ⟨rfl,by unfold cr;grind⟩
theorem Fj {a b d:V2}(h:¬ang b a<0)(h':ang b d<0):ang a d<0:=by
 by_cases q:ang a d<0
 ·exact q
 ·exact absurd h' (tK _ _ _ h q)
def eP (u v:V2):Bool:=decide (ang u v=0)
theorem BL:∀{r:List V2} {p:V2},(p::r).Pairwise (fun x y=>¬ang y x<0) ->
  (zT eP p r).Pairwise (fun x y=>ang x y<0)/\(∀x∈zT eP p r,ang p x<0)/\∀x∈p::r,∃y∈p::zT eP p r,ang y x=0
 | [],p,_=>⟨List.Pairwise.nil,(fun x h=>by cases h),fun x h=>⟨x,h,tJ x⟩⟩
 | a::r,p,h=>by
  obtain ⟨h1,h2⟩:=List.pairwise_cons.1 h;obtain ⟨i1,i2,i3⟩:=BL h2;have f:¬ang a p<0:=h1 a (List.mem_cons_self ..);unfold zT;by_cases e:ang a p=0
  ·have:eP a p=true:=decide_eq_true e;rw [if_pos this]
   have i:¬ang p a<0:=fun g=>by
    rcases jA.1 e with ⟨j,k⟩;rw [nh] at g;have:=gw a p;rcases g with g|⟨_,g⟩
    ·omega
    ·grind
   refine ⟨i1,fun x c=>Fj f (i2 x c),fun x c=>?_⟩;rcases List.mem_cons.1 c with rfl|c
   ·exact ⟨x,List.mem_cons_self ..,tJ x⟩
   ·obtain ⟨y,d,g⟩:=i3 x c;rcases List.mem_cons.1 d with rfl|d
    ·refine ⟨p,List.mem_cons_self ..,Kn (b:=y) ?_ g⟩;rcases tI p y with q|q|q
     ·exact absurd q i
     ·exact q
     ·exact absurd q f
    ·exact ⟨y,List.mem_cons_of_mem _ d,g⟩
  ·have:eP a p=false:=decide_eq_false e;rw [this]
   have lt:ang p a<0:=by
    rcases tI p a with q|q|q
    ·exact q
    ·exfalso;apply e;rw [jA] at *;have:=gw a p;exact ⟨q.1.symm,by grind⟩
    ·exact absurd q f
   refine ⟨List.pairwise_cons.2 ⟨i2,i1⟩,fun x c=>?_,fun x c=>?_⟩
   ·rcases List.mem_cons.1 c with rfl|c
    ·exact lt
    ·exact Fj (b:=a) f (i2 x c)
   ·rcases List.mem_cons.1 c with rfl|c
    ·exact ⟨x,List.mem_cons_self ..,tJ x⟩
    ·obtain ⟨y,d,g⟩:=i3 x c;exact ⟨y,List.mem_cons_of_mem _ d,g⟩
theorem H3 {m:List V2}(h:m.Pairwise (fun x y=>¬ang y x<0)):(wW eP m).Pairwise (fun x y=>ang x y<0)/\∀x∈m,∃y∈wW eP m,ang y x=0:=by
 cases m with
 | nil=>exact ⟨List.Pairwise.nil,fun x h=>by cases h⟩
 | cons p r=>
  obtain ⟨a,b,c⟩:=BL h;exact ⟨List.pairwise_cons.2 ⟨b,a⟩,c⟩
theorem NX {m:List V2}(h:m.Pairwise (fun x y=>¬ang y x<0))(hn:∀r∈m,nz r)(ho:∀r∈m,∃s∈m,T3 s r):LP (wW eP m)/\∀x∈m,∃y∈wW eP m,∃c:Rat,c>0/\y=(c*x.1,c*x.2):=by
 obtain ⟨i,j⟩:=H3 h;have sub:∀x∈wW eP m,x∈m:=H4
 have mem:∀x∈m,∃y∈wW eP m,∃c:Rat,c>0/\y=(c*x.1,c*x.2):=fun x l=>by
  obtain ⟨y,d,e⟩:=j x l;exact ⟨y,d,Bn (hn y (sub y d)) e⟩
 refine ⟨⟨fun r f=>hn r (sub r f),fun r f=>?_,?_⟩,mem⟩
 ·obtain ⟨s,n,k,o,p,q⟩:=ho r (sub r f);obtain ⟨y,d,c,t,e⟩:=mem s n;refine ⟨y,d,c*k,mp t o,?_,?_⟩
  ·rw [e];show c*s.1=_;rw [p];grind
  ·rw [e];show c*s.2=_;rw [q];grind
 ·refine List.Pairwise.imp_of_mem ?_ i;intro a b u hb g;exact (MR (hn a (sub a u)) (hn b (sub b hb))).1 g
section
variable {D:List V2} (h:LP D)
include h
theorem NK {i:Nat}{u w:V2}(hi:D[i]?=some u)(hw:D[(i+1)%D.length]?=some w):cr u w≥0:=by
 by_cases q:cr u w≥0
 ·exact q
 exfalso;have b:w∈D:=List.mem_of_getElem? hw;have hu:u∈D:=List.mem_of_getElem? hi;obtain ⟨s,c,d⟩:=h.cl w b;obtain ⟨k,f,_,g⟩:=Al d u;have p:cr u s>0:=by rw [g];have:=mp f (show -(cr u w)>0 by grind);grind
 obtain ⟨j,a⟩:=List.getElem?_of_mem c;refine LW (h.nz u hu) (h.nz w b) (h.nz s c) (Sq h hi hw a (fun e=>?_) (fun e=>?_)) p (by grind)
 ·rw [e,hi] at a;cases a;unfold cr at p;grind
 ·rw [e,hw] at a;cases a;grind
omit h in
def QS (f:V2->V2->V2)(D:List V2):List V2:=(List.range D.length).map fun i=>f (D.getD i (0,0)) (D.getD ((i+1)%D.length) (0,0))
theorem Lt {f:V2->V2->V2}(hf:∀u∈D,∀w∈D,cr u w≥0->Gb u w (f u w))(hD:D≠[]):Ri D (QS f D):=by
 have j:0<D.length:=List.length_pos_iff.2 hD
 have key:∀i u w,D[i]?=some u->D[(i+1)%D.length]?=some w->D.getD i (0,0)=u/\D.getD ((i+1)%D.length) (0,0)=w/\Gb u w (f u w):=fun i u w a hw=>
  ⟨by rw [List.getD_eq_getElem?_getD,a];rfl,by rw [List.getD_eq_getElem?_getD,hw];rfl,hf u (List.mem_of_getElem? a) w (List.mem_of_getElem? hw) (NK h a hw)⟩
 refine .inr ⟨hD,fun x k=>?_,fun i u w a hw=>?_⟩
 ·obtain ⟨i,a,rfl⟩:=List.mem_map.1 k;have a:=List.mem_range.1 a;have e:D[i]?=some D[i]:=List.getElem?_eq_getElem a;have g:D[(i+1)%D.length]?=some (D[(i+1)%D.length]'(Nat.mod_lt _ j)):=List.getElem?_eq_getElem _;obtain ⟨b,c,d⟩:=key i _ _ e g;exact ⟨i,_,_,e,g,by rw [b,c];exact d⟩
 ·obtain ⟨b,c,d⟩:=key i u w a hw;refine ⟨_,List.mem_map.2 ⟨i,List.mem_range.2 (List.getElem?_eq_some_iff.1 a).1,rfl⟩,?_⟩;rw [b,c];exact d
end
theorem th {a b c x y z:Int}(h1:a*y=b*x)(h2:a*z=c*x)(g:Nat.gcd (Nat.gcd x.natAbs y.natAbs) z.natAbs=1):x.natAbs∣a.natAbs:=by
 have d:a.natAbs*y.natAbs=b.natAbs*x.natAbs:=by rw [←Int.natAbs_mul,←Int.natAbs_mul,h1]
 have e:a.natAbs*z.natAbs=c.natAbs*x.natAbs:=by rw [←Int.natAbs_mul,←Int.natAbs_mul,h2]
 have d1:x.natAbs∣a.natAbs*Nat.gcd (Nat.gcd x.natAbs y.natAbs) z.natAbs:=by
  rw [←Nat.gcd_mul_left,←Nat.gcd_mul_left];exact Nat.dvd_gcd (Nat.dvd_gcd ⟨a.natAbs,by rw [Nat.mul_comm]⟩ ⟨b.natAbs,by rw [d,Nat.mul_comm]⟩) ⟨c.natAbs,by rw [e,Nat.mul_comm]⟩
 rwa [g,Nat.mul_one] at d1
theorem Hc {l m:L3}(ol:okL l=true)(om:okL m=true)(cl:cV l=l)(cm:cV m=m){x y:Rat}(hl:ai l x y=0)(hm:ai m x y=0)
  (hc:cr (dirL l) (dirL m)=0):l=m:=by
 unfold okL at ol om;rw [Bool.and_eq_true,decide_eq_true_iff,decide_eq_true_iff] at ol om
 have d:l.1*m.2.1=l.2.1*m.1:=by
  unfold cr dirL at hc;have:(l.1:Rat)*(m.2.1:Rat)=(l.2.1:Rat)*(m.1:Rat):=by grind
  exact_mod_cast this
 unfold ai at hl hm;have o:(l.1:Rat)*(m.2.1:Rat)=(l.2.1:Rat)*(m.1:Rat):=by exact_mod_cast d
 have e:l.1*m.2.2=l.2.2*m.1:=by
  have:(l.1:Rat)*(m.2.2:Rat)=(l.2.2:Rat)*(m.1:Rat):=by grind
  exact_mod_cast this
 have f:l.2.1*m.2.2=l.2.2*m.2.1:=by
  have:(l.2.1:Rat)*(m.2.2:Rat)=(l.2.2:Rat)*(m.2.1:Rat):=by grind
  exact_mod_cast this
 obtain ⟨p,j⟩:=ol;obtain ⟨q,k⟩:=om;unfold iu at j k;have r:Nat.gcd (Nat.gcd l.2.1.natAbs l.1.natAbs) l.2.2.natAbs=1:=by rw [Nat.gcd_comm l.2.1.natAbs];exact j
 have s:Nat.gcd (Nat.gcd m.2.1.natAbs m.1.natAbs) m.2.2.natAbs=1:=by rw [Nat.gcd_comm m.2.1.natAbs];exact k
 have u:l.1.natAbs=m.1.natAbs:=Nat.dvd_antisymm (th (a:=m.1) (b:=m.2.1) (c:=m.2.2) (by rw [Int.mul_comm,←d,Int.mul_comm]) (by rw [Int.mul_comm,←e,Int.mul_comm]) j) (th d e k);have v:l.2.1.natAbs=m.2.1.natAbs:=Nat.dvd_antisymm (th (a:=m.2.1) (b:=m.1) (c:=m.2.2) (by rw [Int.mul_comm,d,Int.mul_comm]) (by rw [Int.mul_comm,←f,Int.mul_comm]) r) (th (b:=l.1) (c:=l.2.2) d.symm f s)
 have sl:¬(l.1<0\/l.1=0/\l.2.1<0):=fun h=>by
  unfold cV at cl;rw [if_pos h] at cl;have g:-l.1=l.1:=congrArg (fun x:L3=>x.1) cl;have i:-l.2.1=l.2.1:=congrArg (fun x:L3=>x.2.1) cl;omega
 have sm:¬(m.1<0\/m.1=0/\m.2.1<0):=fun h=>by
  unfold cV at cm;rw [if_pos h] at cm;have g:-m.1=m.1:=congrArg (fun x:L3=>x.1) cm;have i:-m.2.1=m.2.1:=congrArg (fun x:L3=>x.2.1) cm;omega
 have g:l.1=m.1:=by omega
 by_cases z:l.1=0
 ·have i:l.2.1=m.2.1:=by omega
  have t:l.2.1≠0:=fun h=>p ⟨z,h⟩;have n:m.2.2=l.2.2:=Int.eq_of_mul_eq_mul_left t (by rw [f,i,Int.mul_comm]);exact Prod.ext g (Prod.ext i n.symm)
 ·have i:m.2.1=l.2.1:=Int.eq_of_mul_eq_mul_left z (by rw [d,g,Int.mul_comm]);have n:m.2.2=l.2.2:=Int.eq_of_mul_eq_mul_left z (by rw [e,g,Int.mul_comm]);exact Prod.ext g (Prod.ext i.symm n.symm)
end Go.Proofs.Tryz.Sec
namespace Go.Proofs.Tryz.Sec
def mx (x:Rat×Rat)(t:Rat):Rat:=x.1+t*(x.2-x.1)
theorem Ew {x:Rat×Rat}{t:Rat}(h1:x.1>0)(h2:x.2>0)(t0:t>0)(t1:t<=1):mx x t>0:=by
 have a:=mn (show 1-t≥0 by grind) (show x.1≥0 by grind);have b:=mp t0 h2;unfold mx;grind
theorem NG {x:Rat×Rat}{t s:Rat}(h1:x.1>0)(hs:mx x s≥0)(s0:s>0)(t0:t>0)(ts:t<=s):mx x t≥0:=by
 unfold mx at *;have e:s*(x.1+t*(x.2-x.1))=(s-t)*x.1+t*(x.1+s*(x.2-x.1)):=by grind
 have a:=mn (show s-t≥0 by grind) (show x.1≥0 by grind);have b:=mn (show t≥0 by grind) hs;by_cases h:x.1+t*(x.2-x.1)≥0
 ·exact h
 ·have:=mp s0 (show -(x.1+t*(x.2-x.1))>0 by grind);grind
theorem tC {y:Rat×Rat}(h1:y.1>0){s:Rat}(s0:s>0)(hs:mx y s<=0):∃t,t>0/\t<=s/\mx y t=0:=by
 have a:y.1-y.2>0:=by
  by_cases c:y.1-y.2>0
  ·exact c
  ·have:=mn (show s≥0 by grind) (show y.2-y.1≥0 by grind);unfold mx at hs;grind
 have e:=inv_mul (show y.1-y.2≠0 by grind) y.1;have p:=mp h1 (Rat.inv_pos.2 a);refine ⟨y.1*(y.1-y.2)⁻¹,p,?_,?_⟩
 ·generalize y.1*(y.1-y.2)⁻¹=t at *;by_cases c:t<=s
  ·exact c
  ·have:=mp (show t-s>0 by grind) a;unfold mx at hs;grind
 ·generalize y.1*(y.1-y.2)⁻¹=t at *;unfold mx;grind
theorem D_:∀(L:List (Rat×Rat)),(∀x∈L,x.1>0)->(∃x∈L,x.2<=0)->∃t,t>0/\t<=1/\(∀x∈L,mx x t≥0)/\∃x∈L,mx x t=0
 | [],_,h=>by obtain ⟨x,hx,_⟩:=h;cases hx
 | y::L,h0,h=>by
  have j:=h0 y (List.mem_cons_self ..);have f:=fun x hx=>h0 x (List.mem_cons_of_mem y hx);by_cases c:∃x∈L,x.2<=0
  ·obtain ⟨t,t0,t1,a,x,hx,e⟩:=D_ L f c;by_cases g:mx y t≥0
   ·exact ⟨t,t0,t1,fun z b=>by rcases List.mem_cons.1 b with rfl|b;exact g;exact a z b,x,List.mem_cons_of_mem _ hx,e⟩
   ·obtain ⟨s,d,st,es⟩:=tC j t0 (by grind);exact ⟨s,d,by grind,fun z b=>by rcases List.mem_cons.1 b with rfl|b;grind;exact NG (f z b) (a z b) t0 d st,y,List.mem_cons_self ..,es⟩
  ·obtain ⟨x,hx,i⟩:=h
   have:x=y:=by
    rcases List.mem_cons.1 hx with rfl|hx
    ·rfl
    ·exact absurd ⟨x,hx,i⟩ c
   subst this;obtain ⟨s,d,st,es⟩:=tC j (s:=1) (by decide) (by unfold mx;grind);refine ⟨s,d,st,fun z b=>?_,x,List.mem_cons_self ..,es⟩;rcases List.mem_cons.1 b with rfl|b
   ·grind
   ·have:z.2>0:=by
     by_cases q:z.2>0
     ·exact q
     ·exact absurd ⟨z,b,by grind⟩ c
    have:=Ew (f z b) this d st;grind
theorem vy:∀(L:List (Rat×Rat)),(∀x∈L,x.1>0)->∃s,s>0/\∀x∈L,x.1+s*x.2>0
 | [],_=>⟨1,by decide,fun x h=>by cases h⟩
 | y::L,h0=>by
  have hy:=h0 y (List.mem_cons_self ..);obtain ⟨s,d,h⟩:=vy L fun x f=>h0 x (List.mem_cons_of_mem y f);by_cases c:y.1+s*y.2>0
  ·exact ⟨s,d,fun z a=>by rcases List.mem_cons.1 a with rfl|a;exact c;exact h z a⟩
  ·have b:-y.2>0:=by
    by_cases q:y.2<0
    ·grind
    ·have:=mn (show s≥0 by grind) (show y.2≥0 by grind);grind
   have e:=inv_mul (show -y.2≠0 by grind) y.1;have p:=mp hy (Rat.inv_pos.2 b);generalize y.1*(-y.2)⁻¹=r at *
   have j:r<=s:=by
    by_cases q:r<=s
    ·exact q
    ·have:=mp (show r-s>0 by grind) b;grind
   refine ⟨r*(1 / 2),by grind,fun z a=>?_⟩;rcases List.mem_cons.1 a with rfl|a
   ·grind
   ·have g:=h0 z (List.mem_cons_of_mem _ a);have i:=h z a;by_cases q:z.2≥0
    ·have:=mn (show r*(1 / 2)≥0 by grind) q;grind
    ·have:=mn (show s-r*(1 / 2)≥0 by grind) (show -z.2≥0 by grind);grind
def pos (M:List L3)(p:V2):Prop:=∀m∈M,ai m p.1 p.2>0
def Es (M:List L3)(l:L3):Prop:=∃p:V2,ai l p.1 p.2=0/\∀m∈M,m≠l->ai m p.1 p.2>0
def RV (M:List L3):Prop:=∀l∈M,∀m∈M,l≠m->∀p:V2,ai l p.1 p.2=0->ai m p.1 p.2=0->cr (dirL l) (dirL m)≠0
theorem Lb {l m:L3}{w:V2}(hw:w.1≠0\/w.2≠0)(h1:nv l w=0)(h2:nv m w=0):cr (dirL l) (dirL m)=0:=by
 have a:cr (dirL l) (dirL m)*w.1=0:=by unfold nv at *;unfold cr dirL;grind
 have b:cr (dirL l) (dirL m)*w.2=0:=by unfold nv at *;unfold cr dirL;grind
 rcases hw with h|h
 ·rcases Rat.mul_eq_zero.1 a with g|g;exact g;exact absurd g h
 ·rcases Rat.mul_eq_zero.1 b with g|g;exact g;exact absurd g h
theorem Ft (u:V2):cr u u=0:=by unfold cr;grind
theorem pO (m:L3)(q p:V2)(t:Rat):ai m (q.1+t*(p.1-q.1)) (q.2+t*(p.2-q.2))=ai m q.1 q.2+t*(ai m p.1 p.2-ai m q.1 q.2):=by unfold ai;grind
theorem NI (m:L3)(q p:V2)(t:Rat):nv m (q.1+t*(p.1-q.1),q.2+t*(p.2-q.2))=nv m q+t*(nv m p-nv m q):=by unfold nv;grind
theorem NJ (m:L3)(q x:V2):nv m (q.1-x.1,q.2-x.2)=ai m q.1 q.2-ai m x.1 x.2:=by unfold nv ai;grind
theorem VL {M:List L3}(hd:RV M)(hn:∀m∈M,(dirL m).1≠0\/(dirL m).2≠0){q p:V2}(hq:pos M q)(hp:∀m∈M,Es M m->ai m p.1 p.2>0):pos M p:=by
 intro B C;by_cases c:ai B p.1 p.2>0
 ·exact c
 exfalso;let f:L3->Rat×Rat:=fun m=>(ai m q.1 q.2,ai m p.1 p.2);obtain ⟨t,t0,t1,ge,x,j,ex⟩:=D_ (M.map f) (fun x j=>by obtain ⟨m,hm,rfl⟩:=List.mem_map.1 j;exact hq m hm) ⟨f B,List.mem_map_of_mem C,by show ai B p.1 p.2<=0;grind⟩;obtain ⟨i,l,rfl⟩:=List.mem_map.1 j;let X:V2:=(q.1+t*(p.1-q.1),q.2+t*(p.2-q.2));have D:∀m,ai m X.1 X.2=mx (f m) t:=fun m=>pO m q p t;have N:∀m∈M,ai m X.1 X.2≥0:=fun m hm=>by rw [D];exact ge _ (List.mem_map_of_mem hm)
 have J:ai i X.1 X.2=0:=by rw [D];exact ex
 let u:V2:=(q.1-X.1,q.2-X.2);have K:∀m,nv m u=ai m q.1 q.2-ai m X.1 X.2:=fun m=>NJ m q X;let Z:=M.filter fun m=>decide (ai m X.1 X.2=0);have r:∀m,m∈Z↔m∈M/\ai m X.1 X.2=0:=fun m=>by simp [Z,List.mem_filter]
 have O:i∈Z:=(r i).2 ⟨l,J⟩;let d:=dirL i;have d0:nv i d=0:=by rw [FN];exact Ft _
 let g:L3->Rat×Rat:=fun m=>(nv m u,nv m d)
 obtain ⟨k,k0,k1,P,y,Q,R⟩:=D_ (Z.map g) (fun x j=>by
  obtain ⟨m,hm,rfl⟩:=List.mem_map.1 j;obtain ⟨S,T⟩:=(r m).1 hm;show nv m u>0;rw [K,T];have:=hq m S;grind) ⟨g i,List.mem_map_of_mem O,by show nv i d<=0;rw [d0];grind⟩
 obtain ⟨n,E,rfl⟩:=List.mem_map.1 Q;obtain ⟨F,G⟩:=(r n).1 E;let w:V2:=(u.1+k*(d.1-u.1),u.2+k*(d.2-u.2));have H:∀m,nv m w=mx (g m) k:=fun m=>NI m u d k;have L:nv n w=0:=by rw [H];exact R
 have U:w.1≠0\/w.2≠0:=by
  by_cases e:k=1
  ·have:=hn i l;have v:w.1=d.1:=by dsimp only [w];rw [e];grind
   have A:w.2=d.2:=by dsimp only [w];rw [e];grind
   rw [v,A];exact this
  ·have a:nv i w>0:=by
    rw [H];show nv i u+k*(nv i d-nv i u)>0;rw [d0];have:nv i u>0:=by rw [K,J];have:=hq i l;grind
    have:=mp (show 1-k>0 by grind) this;grind
   by_cases v:w.1=0
   ·by_cases A:w.2=0
    ·unfold nv at a;rw [v,A] at a;grind
    ·exact .inr A
   ·exact .inl v
 obtain ⟨s,V,W⟩:=vy ((M.filter fun m=>decide (ai m X.1 X.2>0)).map fun m=>(ai m X.1 X.2,nv m w)) (fun x j=>by
  obtain ⟨m,hm,rfl⟩:=List.mem_map.1 j;simpa using (List.mem_filter.1 hm).2)
 have es:Es M n:=by
  refine ⟨(X.1+s*w.1,X.2+s*w.2),?_,fun m hm I=>?_⟩
  ·rw [eU,G,L];grind
  ·rw [eU];by_cases z:ai m X.1 X.2=0
   ·have Y:=(r m).2 ⟨hm,z⟩;have g0:nv m w≥0:=by rw [H];exact P _ (List.mem_map_of_mem Y)
    have ne:nv m w≠0:=fun e=>hd n F m hm (fun h=>I h.symm) X G z (Lb U L e);have:=mp V (show nv m w>0 by grind);rw [z];grind
   ·have gz:=N m hm;have o:(ai m X.1 X.2,nv m w)∈((M.filter fun m=>decide (ai m X.1 X.2>0)).map fun m=>(ai m X.1 X.2,nv m w)):=List.mem_map.2 ⟨m,List.mem_filter.2 ⟨hm,by simp;grind⟩,rfl⟩;exact W _ o
 have a:=hp n F es;have b:=hq n F;have:=Ew (x:=f n) b a t0 t1;rw [←D,G] at this;grind
def FL (l:L3):V2:=((l.1:Rat),(l.2.1:Rat))
theorem UA {x y:Rat}(h:x≠0\/y≠0):x*x+y*y>0:=by
 have p:∀z:Rat,z≠0->z*z>0:=fun z a=>by
  by_cases c:z>0
  ·exact mp c c
  ·have:=mp (show -z>0 by grind) (show -z>0 by grind);grind
 have q:∀z:Rat,z*z≥0:=fun z=>by
  by_cases c:z≥0
  ·exact mn c c
  ·have:=mn (show -z≥0 by grind) (show -z≥0 by grind);grind
 rcases h with h|h
 ·have:=p x h;have:=q y;grind
 ·have:=p y h;have:=q x;grind
theorem I6 {l:L3}(h:(dirL l).1≠0\/(dirL l).2≠0):nv l (FL l)>0:=by
 have:nv l (FL l)=(l.1:Rat)*(l.1:Rat)+(l.2.1:Rat)*(l.2.1:Rat):=rfl;rw [this];refine UA ?_;rcases h with h|h
 ·exact .inr h
 ·left;intro e;apply h;show -(l.1:Rat)=0;rw [e];grind
theorem Fw {M:List L3}(hd:RV M)(hn:∀m∈M,(dirL m).1≠0\/(dirL m).2≠0){q:V2}(hq:pos M q)(h0:M≠[]):∃l∈M,Es M l:=by
 obtain ⟨l,a⟩:=List.exists_mem_of_ne_nil M h0;by_cases c:∃l∈M,Es M l
 ·exact c
 exfalso;have d:=I6 (hn l a);have e:=inv_mul (show nv l (FL l)≠0 by grind) (ai l q.1 q.2);have b:=VL hd hn hq (p:=(q.1+-(ai l q.1 q.2*(nv l (FL l))⁻¹)*(FL l).1,q.2+-(ai l q.1 q.2*(nv l (FL l))⁻¹)*(FL l).2)) (fun m hm he=>absurd ⟨m,hm,he⟩ c) l a;rw [eU] at b;grind
theorem qv {M:List L3}{l:L3}(hn:(dirL l).1≠0\/(dirL l).2≠0){x:V2}(hx:ai l x.1 x.2=0)(h:∀m∈M,m≠l->ai m x.1 x.2>0)(L:List L3)(hL:∀m∈L,ai m x.1 x.2>0):∃q:V2,pos M q/\ai l q.1 q.2>0/\pos L q:=by
 have c:=I6 hn
 obtain ⟨s,d,a⟩:=vy (((M.filter fun m=>decide (m≠l))++L).map fun m=>(ai m x.1 x.2,nv m (FL l))) (fun y f=>by
  obtain ⟨m,hm,rfl⟩:=List.mem_map.1 f;rcases List.mem_append.1 hm with hm|hm
  ·have:=List.mem_filter.1 hm;exact h m this.1 (by simpa using this.2)
  ·exact hL m hm)
 have b:ai l (x.1+s*(FL l).1) (x.2+s*(FL l).2)>0:=by rw [eU,hx];have:=mp d c;grind
 refine ⟨(x.1+s*(FL l).1,x.2+s*(FL l).2),fun m hm=>?_,b,fun m hm=>?_⟩
 ·by_cases e:m=l
  ·rw [e];exact b
  ·rw [eU];exact a (ai m x.1 x.2,nv m (FL l)) (List.mem_map.2 ⟨m,List.mem_append_left _ (List.mem_filter.2 ⟨hm,by simpa using e⟩),rfl⟩)
 ·rw [eU];exact a (ai m x.1 x.2,nv m (FL l)) (List.mem_map.2 ⟨m,List.mem_append_right _ hm,rfl⟩)
theorem oX {M:List L3}{l:L3}(hno:∀x:V2,ai l x.1 x.2=0->¬pos M x){q p:V2}(hq:pos M q)(hp:pos M p):ai l q.1 q.2>0->ai l p.1 p.2>0:=by
 intro h;by_cases c:ai l p.1 p.2>0
 ·exact c
 exfalso;obtain ⟨t,t0,t1,e⟩:=tC (y:=(ai l q.1 q.2,ai l p.1 p.2)) h (s:=1) (by decide) (by unfold mx;grind);refine hno (q.1+t*(p.1-q.1),q.2+t*(p.2-q.2)) ?_ fun m hm=>?_
 ·rw [pO];exact e
 ·rw [pO];exact Ew (x:=(ai m q.1 q.2,ai m p.1 p.2)) (hq m hm) (hp m hm) t0 t1
end Go.Proofs.Tryz.Sec
namespace Go.Proofs.Tryz
open Go.Eng Go.Big
def Sp.nF (s:Sp)(t:Rat):Prop:=(s.a=true\/s.lo<t)/\(s.b=true\/t<s.hi)
def GY (ss:List Sp)(t:Rat):Prop:=∃s∈ss,s.nF t
def Sp.iM (s:Sp):Prop:=s.can/\s.emp=false
def Sp.On (s t:Sp):Prop:=s.b=false/\t.a=false/\s.hi<t.lo
def Hw (ss:List Sp):Prop:=(∀s∈ss,s.iM)/\ss.Pairwise Sp.On
theorem pick (E:List Rat):∀l u:Rat,l<u->∃t,l<t/\t<u/\t∉E:=by
 induction E with
 | nil=>exact fun l u h=>⟨(l+u) / 2,by grind,by grind,by simp⟩
 | cons e r ih=>
  intro l u h;by_cases c:l<e/\e<u
  ·obtain ⟨t,a,b,d⟩:=ih l e c.1;refine ⟨t,a,by grind,fun hm=>?_⟩;rcases List.mem_cons.1 hm with rfl|hm
   ·grind
   ·exact d hm
  ·obtain ⟨t,a,b,d⟩:=ih l u h;refine ⟨t,a,b,fun hm=>?_⟩;rcases List.mem_cons.1 hm with rfl|hm
   ·exact c ⟨a,b⟩
   ·exact d hm
theorem Cm {s:Sp}(h:s.emp=false)(ha:s.a=false)(hb:s.b=false):s.lo<s.hi:=by
 rcases Sp.kx.1 h with h|h|h
 ·rw [ha] at h;cases h
 ·rw [hb] at h;cases h
 ·exact h
theorem Hw.tail {s:Sp}{r:List Sp}(h:Hw (s::r)):Hw r:=⟨fun x a=>h.1 x (by simp [a]),(List.pairwise_cons.1 h.2).2⟩
theorem Hw.On {s:Sp}{r:List Sp}(h:Hw (s::r)){x:Sp}(hx:x∈r):s.On x:=(List.pairwise_cons.1 h.2).1 x hx
set_option linter.unusedSectionVars false
section
variable {s s':Sp} {r r':List Sp} {E:List Rat} (h:Hw (s :: r)) (h':Hw (s' :: r')) (e:∀t,t ∉ E->GY (s :: r) t->GY (s' :: r') t)
include h h' e
end
theorem Sp.ext' {s t:Sp}(h1:s.a=t.a)(h2:s.b=t.b)(h3:s.lo=t.lo)(h4:s.hi=t.hi):s=t:=by
 cases s;cases t;simp at *;exact ⟨h3,h4,h1,h2⟩
end Go.Proofs.Tryz
namespace Go.Proofs.Tryz
open Go.Eng Go.Big
theorem AL:Sz 2 (((2:Int):Rat)):=⟨by show (2:Int).natAbs<_;decide,by show (1:Nat)<_;decide⟩
theorem mK:Sz 2 (((1:Int):Rat)):=⟨by show (1:Int).natAbs<_;decide,by show (1:Nat)<_;decide⟩
theorem nq {V:View}{v:Value}{x:Rat}(h:RQ V v x){k:Nat}(sx:Sz k x)(hk:k+2<274877906944) :
  Acts prog 147 #[v] V fun r V'=>RQ V' r (x*((2:Int):Rat)⁻¹):=by
 have b:=h;obtain ⟨_,_,_,_,_,_,rfl⟩:=h.shape;refine Dk _ _ _ _ _ _ _ V _ fun j c=>(eE 2 (by decide) (by decide)).mono ?_;rintro r V2 d g;have e:=g;obtain ⟨_,_,_,_,_,_,rfl⟩:=g.shape;refine ⟨_,_,_,_,_,_,_,rfl,fun l a=>(fS (b.le (c.trans (d.trans a))) (e.le a) (by show (2:Int)≠0;decide) sx AL hk).mono ?_⟩;rintro r m n q;have f:=q;obtain ⟨_,_,_,_,_,_,rfl⟩:=q.shape;exact ⟨_,_,_,_,_,_,_,rfl,fun o i=>f.le i⟩
theorem Gs {V:View}{v w:Value}{x y:Rat}(h:RQ V v x)(h':RQ V w y){k:Nat}(sx:Sz k x)(sy:Sz k y)(hk:4*k+4<274877906944) :
  Acts prog 129 #[v,w] V fun r V'=>RQ V' r ((x+y)*((2:Int):Rat)⁻¹):=by
 have c:=h;have a:=h';obtain ⟨_,_,_,_,_,_,rfl⟩:=h.shape;obtain ⟨_,_,_,_,_,_,rfl⟩:=h'.shape;refine E8 _ _ _ _ _ _ _ _ _ _ _ _ _ _ V _ fun j b=>(cS (c.le b) (a.le b) sx sy (by omega)).mono ?_;rintro r V2 l g;have d:=g;obtain ⟨_,_,_,_,_,_,rfl⟩:=g.shape;refine ⟨_,_,_,_,_,_,_,rfl,fun m e=>(nq (d.le e) (sx.add sy) (by omega)).mono ?_⟩;rintro r n o q;have f:=q;obtain ⟨_,_,_,_,_,_,rfl⟩:=q.shape;exact ⟨_,_,_,_,_,_,_,rfl,fun p i=>f.le i⟩
theorem F7 {s:Sp}{k:Nat}(ss:s.sz k):Sz (2*k+10) s.bX:=by
 have z:Sz (2*k+10) (0:Rat):=⟨by show (0:Int).natAbs<_;exact Nat.lt_of_lt_of_le (by decide) (Nat.one_le_two_pow),Nat.one_lt_two_pow (by omega)⟩;unfold Sp.bX;split
 ·split
  ·exact z
  ·exact (ss.2.sub mK).mono (by omega)
 ·split
  ·exact (ss.1.add mK).mono (by omega)
  ·exact ((ss.1.add ss.2).mul (dJ AL)).mono (by omega)
theorem tW {V:View}{v:Value}{s:Sp}(h:DG V v s){k:Nat}(ss:s.sz k)(hk:4*k+4<274877906944) :
  Acts prog 109 #[v] V fun r V'=>RQ V' r s.bX:=by
 obtain ⟨b,p,n,c,D,E,F,d,q,m,e,G,H,I,rfl,w,z⟩:=h;have J:s.a=true->s.b=true->s.bX=0:=fun x y=>by simp [Sp.bX,x,y]
 have K:s.a=true->s.b=false->s.bX=s.hi-((1:Int):Rat):=fun x y=>by simp [Sp.bX,x,y]
 have L:s.a=false->s.b=true->s.bX=s.lo+((1:Int):Rat):=fun x y=>by simp [Sp.bX,x,y]
 have M:s.a=false->s.b=false->s.bX=(s.lo+s.hi)*((2:Int):Rat)⁻¹:=fun x y=>by simp [Sp.bX,x,y]
 have no:∀{P:Prop},s.a=true->s.a=false->P:=fun x y=>by rw [x] at y;cases y
 refine sQ b p n c D E F d q m e G H I s.a s.b V _ ⟨fun f=>⟨fun hb N U=>?_,fun hb=>⟨fun _ V2 O=>(eE 1 (by decide) (by decide)).mono ?_,fun e=>no f e⟩⟩,fun f=>⟨fun e=>no e f,fun _=>⟨fun hb W Q=>(eE 1 (by decide) (by decide)).mono ?_,fun hb R i=>(Gs (w.le i) (z.le i) ss.1 ss.2 hk).mono ?_⟩⟩⟩
 ·rw [J f hb];have:=RQ.zero (V:=N);simpa using this
 ·rw [K f hb];rintro r S t g;have u:=g;obtain ⟨_,_,_,_,_,_,rfl⟩:=g.shape;refine ⟨_,_,_,_,_,_,_,rfl,fun T j=>(fT (z.le (O.trans (t.trans j))) (u.le j) ss.2 mK (by omega)).mono ?_⟩;rintro r A B q;have l:=q;obtain ⟨_,_,_,_,_,_,rfl⟩:=q.shape;exact ⟨_,_,_,_,_,_,_,rfl,fun C o=>l.le o⟩
 ·rw [L f hb];rintro r S t g;have u:=g;obtain ⟨_,_,_,_,_,_,rfl⟩:=g.shape;refine ⟨_,_,_,_,_,_,_,rfl,fun T j=>(cS (w.le (Q.trans (t.trans j))) (u.le j) ss.1 mK (by omega)).mono ?_⟩;rintro r A B q;have l:=q;obtain ⟨_,_,_,_,_,_,rfl⟩:=q.shape;exact ⟨_,_,_,_,_,_,_,rfl,fun C o=>l.le o⟩
 ·rw [M f hb];rintro r A B q;have l:=q;obtain ⟨_,_,_,_,_,_,rfl⟩:=q.shape;exact ⟨_,_,_,_,_,_,_,rfl,fun C o=>l.le o⟩
theorem mS {V:View}{v w:Value}{x y x' y':Rat}(h:RP V v x y)(h':RP V w x' y'){k:Nat}(s1:Sz k x)(s2:Sz k y)(s3:Sz k x')(s4:Sz k y')(hk:4*k+4<274877906944) :
  Acts prog 141 #[v,w] V fun r V'=>RQ V' r (x*y'-y*x'):=by
 obtain ⟨_,_,_,_,_,_,_,_,_,_,_,_,rfl,i,j⟩:=h;obtain ⟨_,_,_,_,_,_,_,_,_,_,_,_,rfl,l,m⟩:=h';refine vY _ _ _ _ _ _ _ _ _ _ _ _ _ _ _ _ _ _ _ _ _ _ _ _ _ _ _ _ V _ fun t a=>(aI (i.le a) (m.le a) s1 s4 (by omega)).mono ?_;rintro r V2 d g;have n:=g;obtain ⟨_,_,_,_,_,_,rfl⟩:=g.shape;refine ⟨_,_,_,_,_,_,_,rfl,fun u b=>(aI (j.le (a.trans (d.trans b))) (l.le (a.trans (d.trans b))) s2 s3 (by omega)).mono ?_⟩;rintro r z o e;have c:=e;obtain ⟨_,_,_,_,_,_,rfl⟩:=e.shape;refine ⟨_,_,_,_,_,_,_,rfl,fun A f=>(fT (n.le (b.trans (o.trans f))) (c.le f) (s1.mul s4) (s2.mul s3) (by omega)).mono ?_⟩;rintro r B C q;have p:=q;obtain ⟨_,_,_,_,_,_,rfl⟩:=q.shape;exact ⟨_,_,_,_,_,_,_,rfl,fun D s=>p.le s⟩
theorem Of.raw {V:View}{v:Value}{l:L3}{s:Sp}(h:Of V v l s)(ho:Xr l s){k:Nat}(sl:kX k l)(ss:s.sz k)(hk:k<=1000000):∃f:FW,Rd V v f/\f.ok=true/\f.ln=l/\f.sp=s/\f.short:=by
 obtain ⟨b1,I,J,K,b2,L,M,N,b3,O,P,Q,b,p,n,c,R,S,T,d,q,m,e,U,W,X,rfl,u,w⟩:=h;obtain ⟨_,_,_,_,_,_,_,_,_,el,x,y,A⟩:=u;have el:=congrArg Array.toList (Value.agg.inj el);simp only [List.cons.injEq,Value.bool.injEq,Value.slice.injEq,and_true] at el;obtain ⟨rfl,⟨rfl,rfl,rfl⟩,rfl,⟨rfl,rfl,rfl⟩,rfl,rfl,rfl,rfl⟩:=el;obtain ⟨_,_,_,_,_,_,_,_,_,_,_,_,_,_,es,B,C⟩:=w;have es:=congrArg Array.toList (Value.agg.inj es);simp only [List.cons.injEq,Value.bool.injEq,Value.slice.injEq,and_true] at es;obtain ⟨rfl,⟨rfl,rfl,rfl⟩,⟨rfl,rfl,rfl⟩,rfl,⟨rfl,rfl,rfl⟩,⟨rfl,rfl,rfl⟩⟩:=es;obtain ⟨ok,can,emp⟩:=ho;obtain ⟨Y,us,g,i,D,j,E⟩:=B.raw can.1;obtain ⟨Z,ws,o,r,F,t,G⟩:=C.raw can.2;have i1:=i;have i2:=r;obtain ⟨_,_,_,_,_,_,f1,-,-⟩:=i1;obtain ⟨_,_,_,_,_,_,f2,-,-⟩:=i2;have f1:=congrArg Array.toList (Value.agg.inj f1);have f2:=congrArg Array.toList (Value.agg.inj f2);simp only [List.cons.injEq,Value.bool.injEq,Value.slice.injEq,and_true] at f1 f2;obtain ⟨rfl,-⟩:=f1;obtain ⟨rfl,-⟩:=f2;have len:∀{z:Int},Sz k (z:Rat)->(af z.natAbs).length<=1000000:=fun h=>Nat.le_trans (ae h.1) hk;have d1:=E k ss.1;have d2:=G k ss.2;refine ⟨⟨decide (l.1<0),af l.1.natAbs,decide (l.2.1<0),af l.2.1.natAbs,decide (l.2.2<0),af l.2.2.natAbs,b,us,g,d,ws,o,s.a,s.b⟩,⟨_,_,_,_,_,_,_,_,_,_,_,_,_,_,_,_,_,_,_,_,_,rfl,⟨_,_,_,_,_,_,_,_,_,rfl,x,y,A⟩,⟨_,_,_,_,_,_,_,_,_,_,_,_,rfl,i,r⟩⟩,?_,?_,?_,⟨len sl.1,len sl.2.1,len sl.2.2,Nat.le_trans d1.1 hk,Nat.le_trans d1.2 hk,Nat.le_trans d2.1 hk,Nat.le_trans d2.2 hk⟩⟩
 ·have H:QU b us g d ws o s.a s.b=s:=by unfold QU;rw [j,t]
  unfold FW.ok okW;dsimp only;rw [Cy,D,F,H,emp];show okL l&&true=true;rw [ok];rfl
 ·unfold FW.ln WU;dsimp only;rw [aA,aA,aA]
 ·unfold FW.sp QU;dsimp only;rw [j,t]
end Go.Proofs.Tryz
namespace Go.Proofs.Tryz
open Go.Eng
set_option maxRecDepth 100000
end Go.Proofs.Tryz
namespace Go.Proofs.Tryz
open Go.Eng Go.Big
theorem zZ {c:List Rat}{i:Nat}(h:i<c.length):c.getD i 0=c[i]:=by rw [List.getD_eq_getElem?_getD,List.getElem?_eq_getElem h];rfl
def gX (cuts:List Rat)(i:Nat):Sp:=⟨if 0<i then cuts.getD (i-1) 0 else 0,if i<cuts.length then cuts.getD i 0 else 0,decide (i=0),decide (i=cuts.length)⟩
def II (out:List Sp)(s:Sp):List Sp:=out.dropLast++[⟨(out.getLastD Sp.zero).lo,s.hi,(out.getLastD Sp.zero).a,s.b⟩]
def fH (cuts:List Rat)(marks:List Bool):Nat->List Sp
 | 0=>[]
 | i+1=>if marks.getD i false=true then (if 0<i/\marks.getD (i-1) false=true/\0<(fH cuts marks i).length then II (fH cuts marks i) (gX cuts i) else fH cuts marks i++[gX cuts i]) else fH cuts marks i
end Go.Proofs.Tryz
namespace Go.Proofs.Tryz
open Go.Eng Go.Big
set_option linter.unusedSectionVars false
def asc (c:List Rat):Prop:=c.Pairwise (·< ·)
section
variable {c:List Rat} (h:asc c)
include h
theorem zz {i j:Nat}(KL:i<j)(hj:j<c.length):c.getD i 0<c.getD j 0:=by
 rw [zZ (by omega),zZ hj];exact List.pairwise_iff_getElem.1 h i j (by omega) hj KL
omit h
include h
theorem Ik {i:Nat}(hi:i<=c.length):(gX c i).iM:=by
 refine ⟨⟨fun e=>?_,fun e=>?_⟩,Sp.kx.2 ?_⟩
 ·have e:i=0:=of_decide_eq_true e;subst e;rfl
 ·have e:i=c.length:=of_decide_eq_true e;subst e;exact if_neg (Nat.lt_irrefl _)
 ·by_cases a:i=0
  ·exact .inl (decide_eq_true a)
  ·by_cases b:i=c.length
   ·exact .inr (.inl (decide_eq_true b))
   ·refine .inr (.inr ?_);show (if 0<i then c.getD (i-1) 0 else 0)<(if i<c.length then c.getD i 0 else 0);rw [if_pos (by omega),if_pos (by omega)];exact zz h (by omega) (by omega)
omit h
end
section
variable {c:List Rat} {ms:List Bool}
structure FI (c:List Rat) (ms:List Bool) (i:Nat):Prop where
 r:Hw (fH c ms i)
 mem:∀t,t∉c->(GY (fH c ms i) t↔∃j,j<i/\ms.getD j false=true/\(gX c j).nF t)
 top:0<i->i<=c.length->∀s∈fH c ms i,s.b=false/\s.hi<=c.getD (i-1) 0
 str:0<i->i<=c.length->ms.getD (i-1) false=false->∀s∈fH c ms i,s.hi<c.getD (i-1) 0
 last:0<i->i<=c.length->ms.getD (i-1) false=true->∃l0 l,fH c ms i=l0++[l]/\l.hi=c.getD (i-1) 0
theorem qK {ss:List Sp}{s:Sp}{t:Rat}:GY (ss++[s]) t↔GY ss t\/s.nF t:=by
 unfold GY;constructor
 ·rintro ⟨x,a,b⟩;rcases List.mem_append.1 a with a|a
  ·exact .inl ⟨x,a,b⟩
  ·obtain rfl:x=s:=by simpa using a
   exact .inr b
 ·rintro (⟨x,a,b⟩|b)
  ·exact ⟨x,by simp [a],b⟩
  ·exact ⟨s,by simp,b⟩
theorem CP {ss:List Sp}{s:Sp}(h:Hw ss)(hs:s.iM)(hb:∀x∈ss,x.On s):Hw (ss++[s]):=by
 refine ⟨fun x a=>?_,List.pairwise_append.2 ⟨h.2,by simp,fun x a y b=>?_⟩⟩
 ·rcases List.mem_append.1 a with a|a
  ·exact h.1 x a
  ·obtain rfl:x=s:=by simpa using a
   exact hs
 ·obtain rfl:y=s:=by simpa using b
  exact hb x a
theorem Jv {ss:List Sp}{s:Sp}(h:Hw (ss++[s])):Hw ss/\s.iM/\∀x∈ss,x.On s:=by
 obtain ⟨b,-,c⟩:=List.pairwise_append.1 h.2;exact ⟨⟨fun x a=>h.1 x (by simp [a]),b⟩,h.1 s (by simp),fun x a=>c x a s (by simp)⟩
theorem zY {P:Nat->Prop}{i:Nat}:(∃j,j<i+1/\P j)↔(∃j,j<i/\P j)\/P i:=by
 constructor
 ·rintro ⟨j,b,a⟩;rcases Nat.lt_or_ge j i with h|h
  ·exact .inl ⟨j,h,a⟩
  ·obtain rfl:j=i:=by omega
   exact .inr a
 ·rintro (⟨j,b,a⟩|a)
  ·exact ⟨j,by omega,a⟩
  ·exact ⟨i,by omega,a⟩
theorem KB (h:asc c){i:Nat}(hi:i<=c.length)(F:FI c ms i):FI c ms (i+1):=by
 have z:=Ik h hi;have A:i<c.length->(gX c i).hi=c.getD i 0:=fun j=>if_pos j;have B:0<i->(gX c i).lo=c.getD (i-1) 0:=fun j=>if_pos j;have C:0<i->(gX c i).a=false:=fun j=>decide_eq_false (by omega);have G:i<c.length->(gX c i).b=false:=fun j=>decide_eq_false (by omega);by_cases hm:ms.getD i false=true
 ·have w:¬ms.getD i false=false:=by rw [hm];decide
  by_cases j:0<i/\ms.getD (i-1) false=true
  ·obtain ⟨H,l,el,E⟩:=F.last j.1 hi j.2
   have e:fH c ms (i+1)=H++[⟨l.lo,(gX c i).hi,l.a,(gX c i).b⟩]:=by
    rw [fH,if_pos hm,if_pos ⟨j.1,j.2,by rw [el];simp⟩,el];simp [II]
   have I:=F.r;rw [el] at I;obtain ⟨f1,f2,f3⟩:=Jv I;have m:l.b=false:=(F.top j.1 hi l (by rw [el];simp)).1
   have u:(⟨l.lo,(gX c i).hi,l.a,(gX c i).b⟩:Sp).iM:=by
    refine ⟨⟨f2.1.1,z.1.2⟩,Sp.kx.2 ?_⟩;dsimp only
    cases ha:l.a with
    | true=>exact .inl rfl
    | false=>
     cases hb:(gX c i).b with
     | true=>exact .inr (.inl rfl)
     | false=>
      have n:=Cm f2.2 ha m;have q:=Cm z.2 (C j.1) hb;rw [B j.1] at q;exact .inr (.inr (by grind))
   refine ⟨?_,fun t v=>?_,fun _ d s f=>?_,fun _ d k=>?_,fun _ d _=>?_⟩
   ·rw [e];exact CP f1 u fun x k=>⟨(f3 x k).1,(f3 x k).2.1,(f3 x k).2.2⟩
   ·rw [e,zY,←F.mem t v,qK,el,qK,or_assoc];refine or_congr Iff.rfl ?_
    have hk:(gX c i).nF t↔c.getD (i-1) 0<t/\((gX c i).b=true\/t<(gX c i).hi):=by
     unfold Sp.nF;rw [C j.1,B j.1];simp
    have J:t≠c.getD (i-1) 0:=by
     rintro rfl;rw [zZ (by omega)] at v;exact v (List.getElem_mem _)
    rw [hk];show (l.a=true\/l.lo<t)/\((gX c i).b=true\/t<(gX c i).hi)↔((l.a=true\/l.lo<t)/\(l.b=true\/t<l.hi))\/_;rw [E,m]
    have n:l.a=true\/l.lo<c.getD (i-1) 0:=by
     cases ha:l.a with
     | true=>exact .inl rfl
     | false=>have:=Cm f2.2 ha m;rw [E] at this;exact .inr this
    have q:(gX c i).b=true\/c.getD (i-1) 0<(gX c i).hi:=by
     cases hb:(gX c i).b with
     | true=>exact .inl rfl
     | false=>have:=Cm z.2 (C j.1) hb;rw [B j.1] at this;exact .inr this
    constructor
    ·rintro ⟨D,o⟩;by_cases g:t<c.getD (i-1) 0
     ·exact .inl ⟨D,.inr g⟩
     ·exact .inr ⟨hm,by grind,o⟩
    ·rintro (⟨D,o⟩|⟨-,D,o⟩)
     ·have L:t<c.getD (i-1) 0:=by
       rcases o with o|o
       ·cases o
       ·exact o
      exact ⟨D,q.imp_right fun q=>by grind⟩
     ·exact ⟨n.imp_right fun n=>by grind,o⟩
   ·rw [e] at f;rw [Nat.add_sub_cancel];rcases List.mem_append.1 f with f|f
    ·have b:=f3 s f;refine ⟨b.1,?_⟩;have n:l.lo<c.getD (i-1) 0:=by have:=Cm f2.2 b.2.1 m;rwa [E] at this
     have q:=zz h (show i-1<i by omega) d;have:=b.2.2;grind
    ·obtain rfl:s=_:=by simpa using f
     refine ⟨G d,?_⟩;show (gX c i).hi<=_;rw [A d];grind
   ·rw [Nat.add_sub_cancel] at k;exact absurd k w
   ·rw [Nat.add_sub_cancel];exact ⟨H,_,e,A d⟩
  ·have e:fH c ms (i+1)=fH c ms i++[gX c i]:=by
    rw [fH,if_pos hm,if_neg (fun g=>j ⟨g.1,g.2.1⟩)]
   have hb:∀x∈fH c ms i,x.On (gX c i):=fun x k=>by
    by_cases p:0<i
    ·have K:ms.getD (i-1) false=false:=by
      cases hq:ms.getD (i-1) false with
      | false=>rfl
      | true=>exact absurd ⟨p,hq⟩ j
     exact ⟨(F.top p hi x k).1,C p,by rw [B p];exact F.str p hi K x k⟩
    ·obtain rfl:i=0:=by omega
     cases k
   refine ⟨?_,fun t v=>?_,fun _ d s f=>?_,fun _ d k=>?_,fun _ d _=>?_⟩
   ·rw [e];exact CP F.r z hb
   ·rw [e,zY,←F.mem t v,qK];exact or_congr Iff.rfl ⟨fun g=>⟨hm,g⟩,fun g=>g.2⟩
   ·rw [e] at f;rw [Nat.add_sub_cancel];rcases List.mem_append.1 f with f|f
    ·refine ⟨(hb s f).1,?_⟩;by_cases p:0<i
     ·have n:=(F.top p hi s f).2;have q:=zz h (show i-1<i by omega) d;grind
     ·obtain rfl:i=0:=by omega
      cases f
    ·obtain rfl:s=_:=by simpa using f
     refine ⟨G d,?_⟩;rw [A d];grind
   ·rw [Nat.add_sub_cancel] at k;exact absurd k w
   ·rw [Nat.add_sub_cancel];exact ⟨_,_,e,A d⟩
 ·have e:fH c ms (i+1)=fH c ms i:=by rw [fH,if_neg hm]
  have y:i<c.length->∀s∈fH c ms i,s.b=false/\s.hi<c.getD i 0:=fun d s f=>by
   by_cases p:0<i
   ·obtain ⟨n,q⟩:=F.top p hi s f;have M:=zz h (show i-1<i by omega) d;exact ⟨n,by grind⟩
   ·obtain rfl:i=0:=by omega
    cases f
  refine ⟨by rw [e];exact F.r,fun t v=>?_,fun _ d s f=>?_,fun _ d k s f=>?_,fun _ d k=>?_⟩
  ·rw [e,zY,F.mem t v];exact ⟨.inl,fun g=>g.elim id fun g=>absurd g.1 hm⟩
  ·rw [e] at f;rw [Nat.add_sub_cancel];obtain ⟨n,q⟩:=y d s f;exact ⟨n,by grind⟩
  ·rw [e] at f;rw [Nat.add_sub_cancel];exact (y d s f).2
  ·rw [Nat.add_sub_cancel] at k;exact absurd k hm
theorem fi (h:asc c):∀{i:Nat},i<=c.length+1->FI c ms i:=by
 intro i
 induction i with
 | zero=>exact fun _=>⟨⟨(fun _ h=>by cases h),List.Pairwise.nil⟩,(fun t _=>⟨(fun ⟨_,h,_⟩=>by cases h),(fun ⟨_,h,_⟩=>absurd h (Nat.not_lt_zero _))⟩),(fun h=>absurd h (Nat.lt_irrefl _)),(fun h=>absurd h (Nat.lt_irrefl _)),(fun h=>absurd h (Nat.lt_irrefl _))⟩
 | succ i ih=>exact fun a=>KB h (by omega) (ih (by omega))
end
end Go.Proofs.Tryz
namespace Go.Proofs.Tryz
open Go.Eng Go.Big
theorem Cr {s u:Sp}{t:Rat}:(s.meet u).nF t↔s.nF t/\u.nF t:=by
 have c:Cp s.lo u.lo<t↔s.lo<t/\u.lo<t:=by
  unfold Cp;rcases mq u.lo s.lo with ⟨h,e⟩|⟨h,e⟩|⟨h,e⟩<;>rw [e]<;>simp<;>grind
 have d:t<Cs s.hi u.hi↔t<s.hi/\t<u.hi:=by
  unfold Cs;rcases mq u.hi s.hi with ⟨h,e⟩|⟨h,e⟩|⟨h,e⟩<;>rw [e]<;>simp<;>grind
 unfold Sp.nF Sp.meet;cases s.a<;>cases s.b<;>cases u.a<;>cases u.b<;>simp [c,d]<;>grind
theorem lf {l:L3}(h:Nz l)(t:Rat):ai l (f_ l t) (gy l t)=0/\Ao l (f_ l t) (gy l t)=t:=by
 have a:=h.norm;have b:=Rat.mul_inv_cancel _ a;unfold ai Ao f_ gy;unfold fm at *;constructor<;>grind
theorem N_ {l m:L3}(h:br l m≠0):ai l (Mr l m) (Ms l m)=0/\ai m (Mr l m) (Ms l m)=0:=by
 have a:=Rat.mul_inv_cancel _ h;unfold ai Mr Ms;constructor
 ·have e:(l.1:Rat)*(((l.2.1:Rat)*(m.2.2:Rat)-(l.2.2:Rat)*(m.2.1:Rat))*(br l m)⁻¹)+(l.2.1:Rat)*(((l.2.2:Rat)*(m.1:Rat)-(l.1:Rat)*(m.2.2:Rat))*(br l m)⁻¹)+(l.2.2:Rat)=(l.2.2:Rat)*(1-br l m*(br l m)⁻¹):=by
   generalize hc:(br l m)⁻¹=c;unfold br;grind
  rw [e,a];grind
 ·have e:(m.1:Rat)*(((l.2.1:Rat)*(m.2.2:Rat)-(l.2.2:Rat)*(m.2.1:Rat))*(br l m)⁻¹)+(m.2.1:Rat)*(((l.2.2:Rat)*(m.1:Rat)-(l.1:Rat)*(m.2.2:Rat))*(br l m)⁻¹)+(m.2.2:Rat)=(m.2.2:Rat)*(1-br l m*(br l m)⁻¹):=by
   generalize hc:(br l m)⁻¹=c;unfold br;grind
  rw [e,a];grind
theorem Fp (l:L3):cV (cV l)=cV l:=by
 unfold cV;by_cases h:l.1<0\/l.1=0/\l.2.1<0
 ·rw [if_pos h,if_neg];unfold revL;dsimp only;omega
 ·rw [if_neg h,if_neg h]
theorem I9 {l:L3}(h:okL l=true):okL (cV l)=true:=by
 unfold cV;split
 ·unfold okL revL iu at *;simp only [Int.natAbs_neg];rw [Bool.and_eq_true,decide_eq_true_iff,decide_eq_true_iff] at h ⊢;exact ⟨fun e=>h.1 ⟨by omega,by omega⟩,h.2⟩
 ·exact h
theorem jT {l:L3}(h:okL l=true):¬(l.1=0/\l.2.1=0):=by
 unfold okL at h;rw [Bool.and_eq_true,decide_eq_true_iff] at h;exact h.1
theorem mr {s:Sp}:s.emp=false↔∃t,s.nF t:=by
 constructor
 ·intro h;obtain ⟨c,d⟩:=Sp.FX h;refine ⟨s.bX,?_,?_⟩
  ·cases ha:s.a
   ·exact .inr (c ha)
   ·exact .inl rfl
  ·cases hb:s.b
   ·exact .inr (d hb)
   ·exact .inl rfl
 ·rintro ⟨t,c,d⟩;rw [Sp.kx];rcases c with c|c
  ·exact .inl c
  ·rcases d with d|d
   ·exact .inr (.inl d)
   ·exact .inr (.inr (by grind))
theorem iW {l:L3}{s:Sp}{m:L3} :
  (dq l s m=true->∀t,(cN l s m).nF t↔s.nF t/\0<ai m (f_ l t) (gy l t))/\(s.emp=false->dq l s m=false->∀t,s.nF t->¬0<ai m (f_ l t) (gy l t)):=by
 have key:dC m l≠0->∀t,(cN l s m).nF t↔s.nF t/\0<jB m l+dC m l*t:=fun a t=>by
  have j:=Rat.mul_inv_cancel _ a;unfold cN;rcases kN (dC m l) with ⟨h,e⟩|⟨h,e⟩|⟨h,e⟩
  ·exact absurd h a
  ·rw [e];show (s.meet ⟨dB m l,0,false,true⟩).nF t↔_;rw [Cr];have f:dC m l*(t-dB m l)=jB m l+dC m l*t:=by unfold dB;grind
   have:(⟨dB m l,0,false,true⟩:Sp).nF t↔dB m l<t:=by unfold Sp.nF;simp
   rw [this,←f];refine and_congr_right fun _=>⟨fun h'=>Rat.mul_pos h (by grind),fun h'=>?_⟩;by_cases c:dB m l<t
   ·exact c
   ·have:=Rat.mul_nonneg (show 0<=dC m l by grind) (show 0<=dB m l-t by grind);grind
  ·rw [e];show (s.meet ⟨0,dB m l,true,false⟩).nF t↔_;rw [Cr];have f:-dC m l*(dB m l-t)=jB m l+dC m l*t:=by unfold dB;grind
   have:(⟨0,dB m l,true,false⟩:Sp).nF t↔t<dB m l:=by unfold Sp.nF;simp
   rw [this,←f];refine and_congr_right fun _=>⟨fun h'=>Rat.mul_pos (by grind) (by grind),fun h'=>?_⟩;by_cases c:t<dB m l
   ·exact c
   ·have:=Rat.mul_nonneg (show 0<=-dC m l by grind) (show 0<=t-dB m l by grind);grind
 by_cases a:dC m l=0
 ·have g:cN l s m=s:=by unfold cN;rw [a];rfl
  have b:dq l s m=decide ((jB m l).num.sign>0):=by unfold dq;rw [a];rfl
  constructor
  ·intro hb t;rw [g,vH,a];rw [b] at hb;have hb:(jB m l).num.sign>0:=by simpa using hb
   have:0<jB m l:=by
    rcases kN (jB m l) with ⟨h,e⟩|⟨h,e⟩|⟨h,e⟩
    ·omega
    ·exact h
    ·omega
   exact ⟨fun h=>⟨h,by grind⟩,fun h=>h.1⟩
  ·intro _ hb t _ d;rw [vH,a] at d;rw [b] at hb;have hb:¬(jB m l).num.sign>0:=by simpa using hb
   rcases kN (jB m l) with ⟨h,e⟩|⟨h,e⟩|⟨h,e⟩
   ·grind
   ·omega
   ·grind
 ·have b:dq l s m=!(cN l s m).emp:=by
   unfold dq;rcases kN (dC m l) with ⟨h,e⟩|⟨h,e⟩|⟨h,e⟩
   ·exact absurd h a
   ·rw [e];rfl
   ·rw [e];rfl
  constructor
  ·intro _ t;rw [vH];exact key a t
  ·intro _ hb t i d;rw [vH] at d;rw [b] at hb;have:=mr.2 ⟨t,(key a t).2 ⟨i,d⟩⟩;rw [this] at hb;cases hb
theorem jK {l:L3}{s:Sp}{m:L3}(hs:s.iM)(hb:dq l s m=true):(cN l s m).iM:=⟨H7 hs.1,H6 hs.2 hb⟩
abbrev Sd:=L3×Sp
def bG:List Sd->L3->Sp->Option Sp
 | [],_,v=>some v
 | s::c,l,v=>if dq l v s.1 then bG c l (cN l v s.1) else none
theorem qN:∀{c:List Sd} {l:L3} {v w:Sp},v.iM->bG c l v=some w->w.iM/\∀t,w.nF t↔v.nF t/\∀s∈c,0<ai s.1 (f_ l t) (gy l t)
 | [],_,v,w,h,e=>by cases e;exact ⟨h,fun t=>⟨fun g=>⟨g,fun s hs=>by cases hs⟩,fun g=>g.1⟩⟩
 | s::c,l,v,w,h,e=>by
  unfold bG at e;split at e
  ·rename_i hb;obtain ⟨g1,g2⟩:=qN (jK h hb) e;refine ⟨g1,fun t=>?_⟩;rw [g2,(iW.1 hb t)];simp only [List.forall_mem_cons,and_assoc]
  ·cases e
theorem qM:∀{c:List Sd} {l:L3} {v:Sp},v.iM->bG c l v=none->∀t,v.nF t->¬∀s∈c,0<ai s.1 (f_ l t) (gy l t)
 | [],_,v,h,e=>by cases e
 | s::c,l,v,h,e=>by
  intro t ht hall;unfold bG at e;split at e
  ·rename_i hb;exact qM (jK h hb) e t ((iW.1 hb t).2 ⟨ht,hall s (List.mem_cons_self ..)⟩) fun u hu=>hall u (List.mem_cons_of_mem _ hu)
  ·rename_i hb;exact iW.2 h.2 (by simpa using hb) t ht (hall s (List.mem_cons_self ..))
theorem t_ (l:L3):cV l=l\/cV l=revL l:=by unfold cV;split;exact .inr rfl;exact .inl rfl
theorem rev_rev (l:L3):revL (revL l)=l:=by unfold revL;simp
theorem Fu (l:L3):Sec.dirL (revL l)=(-(Sec.dirL l).1,-(Sec.dirL l).2):=by unfold Sec.dirL revL;simp only [Rat.intCast_neg]
theorem uW {l:L3}(h:okL l=true):(Sec.dirL l).1≠0\/(Sec.dirL l).2≠0:=by
 have:=jT h;unfold Sec.dirL;by_cases e:l.2.1=0
 ·right;intro a;have:(l.1:Rat)=0:=by grind
  exact jT h ⟨by exact_mod_cast this,e⟩
 ·left;show (l.2.1:Rat)≠0;exact_mod_cast e
theorem JA {l m:L3}(ol:okL l=true)(om:okL m=true){p:Sec.V2}(h1:ai l p.1 p.2=0)(h2:ai m p.1 p.2=0)(hc:Sec.cr (Sec.dirL l) (Sec.dirL m)=0):l=m\/l=revL m:=by
 have a:∀{x:L3},ai x p.1 p.2=0->ai (cV x) p.1 p.2=0:=fun {x} h=>by
  rcases t_ x with e|e<;>rw [e]
  ·exact h
  ·rw [val_rev];grind
 have b:Sec.cr (Sec.dirL (cV l)) (Sec.dirL (cV m))=0:=by
  unfold Sec.cr at *;rcases t_ l with e|e<;>rcases t_ m with e'|e'<;>rw [e,e']<;>(try rw [Fu l])<;>(try rw [Fu m])<;>(try dsimp only)<;>grind
 have:=Sec.Hc (I9 ol) (I9 om) (Fp l) (Fp m) (a h1) (a h2) b;rcases t_ l with e|e<;>rcases t_ m with e'|e'<;>rw [e,e'] at this
 ·exact .inl this
 ·exact .inr this
 ·right;rw [←this,rev_rev]
 ·left;have:=congrArg revL this;rwa [rev_rev,rev_rev] at this
theorem D6 {M:List L3}(hk:∀m∈M,okL m=true){q:Sec.V2}(hq:Sec.pos M q):Sec.RV M:=by
 intro l d m hm c p f g h;rcases JA (hk l d) (hk m hm) f g h with e|e
 ·exact c e
 ·have a:=hq l d;have b:=hq m hm;rw [e,val_rev] at a;grind
theorem oW {l:L3}(h:Nz l){x y:Rat}(hp:ai l x y=0):∃t,x=f_ l t/\y=gy l t:=by
 have a:=Rat.mul_inv_cancel _ h.norm;unfold ai at hp;refine ⟨Ao l x y,?_,?_⟩
 ·unfold f_ Ao fm at *;grind
 ·unfold gy Ao fm at *;grind
def fullSp:Sp:=⟨0,0,true,true⟩
theorem fU:fullSp.iM:=⟨⟨fun _=>rfl,fun _=>rfl⟩,rfl⟩
theorem oK (t:Rat):fullSp.nF t:=⟨.inl rfl,.inl rfl⟩
structure CanC (M:List L3) (c:List Sd):Prop where
 pos:∃q,Sec.pos M q
 mem:∀s∈c,s.1∈M/\s.2.iM/\∀t,s.2.nF t↔∀m∈M,m≠s.1->0<ai m (f_ s.1 t) (gy s.1 t)
 all:∀l∈M,Sec.Es M l->∃v,(l,v)∈c
 asc:c.Pairwise fun s u=>Sec.ang (Sec.dirL s.1) (Sec.dirL u.1)<0
def lG (x:Sd):List Sd->List Sd
 | []=>[x]
 | s::r=>if Sec.ang (Sec.dirL s.1) (Sec.dirL x.1)<0 then s::lG x r else x::s::r
def k_ (c:List Sd)(l:L3):List Sd:=c.filterMap fun s=>if dq s.1 s.2 l then some (s.1,cN s.1 s.2 l) else none
def cK:List Sd->L3->Int
 | [],_=>-1
 | s::c,l=>if (ai l (f_ s.1 s.2.bX) (gy s.1 s.2.bX)).num.sign≠0 then (ai l (f_ s.1 s.2.bX) (gy s.1 s.2.bX)).num.sign else if s.1=l then 1 else cK c l
def clipC (c:List Sd)(l:L3):Option (List Sd):=
 match bG c l fullSp with
 | some v=>some (lG (l,v) (k_ c l))
 | none=>if 0<cK c l then some c else none
theorem jM {x y:Sd}:∀{r:List Sd},y∈lG x r↔y=x\/y∈r
 | []=>by simp [lG]
 | s::r=>by
  unfold lG;split
  ·rw [List.mem_cons,jM,List.mem_cons];exact or_left_comm
  ·rw [List.mem_cons]
theorem zw {a b d:Sec.V2}(h:Sec.ang a b<0)(h':Sec.ang b d<0):Sec.ang a d<0:=by
 by_cases q:Sec.ang a d<0
 ·exact q
 ·exact absurd h (Sec.tK _ _ _ q (Sec.s_ _ _ h'))
theorem Cc {x:Sd}:∀{r:List Sd},(r.Pairwise fun s u=>Sec.ang (Sec.dirL s.1) (Sec.dirL u.1)<0)->(∀s∈r,Sec.ang (Sec.dirL s.1) (Sec.dirL x.1)≠0)->(lG x r).Pairwise fun s u=>Sec.ang (Sec.dirL s.1) (Sec.dirL u.1)<0
 | [],_,_=>List.pairwise_singleton ..
 | s::r,h,hn=>by
  obtain ⟨h1,h2⟩:=List.pairwise_cons.1 h;unfold lG;split
  ·rename_i b;refine List.pairwise_cons.2 ⟨fun y a=>?_,Cc h2 fun u hu=>hn u (List.mem_cons_of_mem _ hu)⟩;rcases jM.1 a with rfl|a
   ·exact b
   ·exact h1 y a
  ·rename_i b
   have c:Sec.ang (Sec.dirL x.1) (Sec.dirL s.1)<0:=by
    rcases Sec.tI (Sec.dirL s.1) (Sec.dirL x.1) with g|g|g
    ·exact absurd g b
    ·exact absurd g (hn s (List.mem_cons_self ..))
    ·exact g
   refine List.pairwise_cons.2 ⟨fun y a=>?_,h⟩;rcases List.mem_cons.1 a with rfl|a
   ·exact c
   ·exact zw c (h1 y a)
theorem ug {c:List Sd}{l:L3}{y:Sd}:y∈k_ c l↔∃s∈c,dq s.1 s.2 l=true/\y=(s.1,cN s.1 s.2 l):=by
 unfold k_;rw [List.mem_filterMap];constructor
 ·rintro ⟨s,a,e⟩;split at e
  ·rename_i hb;cases e;exact ⟨s,a,hb,rfl⟩
  ·cases e
 ·rintro ⟨s,a,hb,rfl⟩;exact ⟨s,a,by rw [if_pos hb]⟩
theorem BM {c:List Sd}{l:L3}(h:c.Pairwise fun s u=>Sec.ang (Sec.dirL s.1) (Sec.dirL u.1)<0):(k_ c l).Pairwise fun s u=>Sec.ang (Sec.dirL s.1) (Sec.dirL u.1)<0:=by
 unfold k_;refine List.Pairwise.filterMap _ ?_ h;intro a b d x e y f;split at e
 ·split at f
  ·cases e;cases f;exact d
  ·cases f
 ·cases e
theorem CC {l s:L3}(hl:Sec.nz (Sec.dirL s))(h:Sec.ang (Sec.dirL s) (Sec.dirL l)=0){p r:Sec.V2}(p0:ai l p.1 p.2=0)(p1:0<ai s p.1 p.2)(r0:ai s r.1 r.2=0)(r1:0<ai l r.1 r.2):False:=by
 obtain ⟨c,b,e⟩:=Sec.Bn hl h;have d:(s.2.1:Rat)=c*(l.2.1:Rat):=congrArg Prod.fst e;have a:-(s.1:Rat)=c*-(l.1:Rat):=congrArg Prod.snd e;have a:(s.1:Rat)=c*(l.1:Rat):=by grind
 have key:∀x:Sec.V2,ai s x.1 x.2=c*(ai l x.1 x.2-(l.2.2:Rat))+(s.2.2:Rat):=fun x=>by unfold ai;rw [d,a];grind
 have k:=Sec.mp b r1;rw [key] at p1 r0;rw [p0] at p1;generalize ai l r.1 r.2=z at *;grind
section
variable {M:List L3} {c:List Sd} (h:CanC M c) (hk:∀m ∈ M,okL m=true)
include h hk
theorem CanC.int {p:Sec.V2}(hp:∀s∈c,0<ai s.1 p.1 p.2):Sec.pos M p:=by
 obtain ⟨q,a⟩:=h.pos;refine Sec.VL (D6 hk a) (fun m hm=>uW (hk m hm)) a fun m hm he=>?_;obtain ⟨v,b⟩:=h.all m hm he;exact hp _ b
theorem Gw {l:L3}(hl:okL l=true){v:Sp}(e:bG c l fullSp=some v):CanC (l::M) (lG (l,v) (k_ c l)):=by
 have J:Nz l:=jT hl;obtain ⟨A,B⟩:=qN fU e;have C:∀t,v.nF t↔Sec.pos M (f_ l t,gy l t):=fun t=>⟨fun g=>h.int hk ((B t).1 g).2,fun g=>(B t).2 ⟨oK t,fun s f=>g s.1 (h.mem s f).1⟩⟩;obtain ⟨t0,u⟩:=mr.1 A.2;have y:=(C t0).1 u;have D:=(lf J t0).1;have E:l∉M:=fun hm=>by have:=y l hm;dsimp only at this;grind
 have ne:∀m∈M,m≠l:=fun m hm e=>E (e▸hm);obtain ⟨q,K,L,-⟩:=Sec.qv (M:=M) (x:=(f_ l t0,gy l t0)) (uW hl) D (fun m hm _=>y m hm) [] (fun m hm=>by cases hm)
 have F:∀s∈k_ c l,s.1∈M/\s.2.iM/\∀t,s.2.nF t↔∀m∈l::M,m≠s.1->0<ai m (f_ s.1 t) (gy s.1 t):=fun s f=>by
  obtain ⟨N,O,hb,rfl⟩:=ug.1 f;obtain ⟨i,k,n⟩:=h.mem N O;refine ⟨i,jK k hb,fun t=>?_⟩;dsimp only;rw [iW.1 hb t,n t,List.forall_mem_cons];exact ⟨fun g=>⟨fun _=>g.2,g.1⟩,fun g=>⟨g.2,g.1 (fun e=>ne _ i e.symm)⟩⟩
 refine ⟨⟨q,List.forall_mem_cons.2 ⟨L,K⟩⟩,fun s f=>?_,fun o d he=>?_,Cc (BM h.asc) fun s f P=>?_⟩
 ·rcases jM.1 f with rfl|f
  ·refine ⟨List.mem_cons_self ..,A,fun t=>?_⟩;rw [C t,List.forall_mem_cons];exact ⟨fun g=>⟨fun h=>absurd rfl h,fun m hm _=>g m hm⟩,fun g m hm=>g.2 m hm (ne m hm)⟩
  ·obtain ⟨a,b⟩:=F s f;exact ⟨List.mem_cons_of_mem _ a,b⟩
 ·rcases List.mem_cons.1 d with rfl|d
  ·exact ⟨v,jM.2 (.inl rfl)⟩
  ·obtain ⟨p,G,z⟩:=he;obtain ⟨w,hw⟩:=h.all o d ⟨p,G,fun m hm j=>z m (List.mem_cons_of_mem _ hm) j⟩;obtain ⟨i,k,n⟩:=h.mem _ hw;obtain ⟨t,H,I⟩:=oW (jT (hk o d)) G
   have hb:dq o w l=true:=by
    cases hb:dq o w l
    ·exfalso;refine iW.2 k.2 hb t ((n t).2 fun m hm j=>?_) ?_
     ·dsimp only;rw [←H,←I];exact z m (List.mem_cons_of_mem _ hm) j
     ·rw [←H,←I];exact z l (List.mem_cons_self ..) (fun e=>E (e▸d))
    ·rfl
   exact ⟨cN o w l,jM.2 (.inr (ug.2 ⟨_,hw,hb,rfl⟩))⟩
 ·obtain ⟨i,k,n⟩:=F s f;obtain ⟨t,Q⟩:=mr.1 k.2;have R:=(n t).1 Q l (List.mem_cons_self ..) (fun e=>ne _ i e.symm);exact CC (uW (hk _ i)) P (p:=(f_ l t0,gy l t0)) (r:=(f_ s.1 t,gy s.1 t)) D (y _ i) (lf (jT (hk _ i)) t).1 R
omit h in
theorem qt {l:L3}(hl:okL l=true)(hno:∀x:Sec.V2,ai l x.1 x.2=0->¬Sec.pos M x){q:Sec.V2}(hq:Sec.pos M q){s:L3}(hs:s∈M){x:Sec.V2}(xz:ai s x.1 x.2=0)(hx:∀m∈M,m≠s->0<ai m x.1 x.2) :
  (0<ai l q.1 q.2->0<ai l x.1 x.2\/s=l)/\(ai l q.1 q.2<0->ai l x.1 x.2<0\/ai l x.1 x.2=0/\s≠l):=by
 have side:∀g:L3,(∀x:Sec.V2,ai g x.1 x.2=0->¬Sec.pos M x)->0<ai g q.1 q.2->∀y:Sec.V2,ai s y.1 y.2=0->(∀m∈M,m≠s->0<ai m y.1 y.2)->¬ai g y.1 y.2<0:=fun g hno k y n b i=>by
  obtain ⟨C,o,-,c⟩:=Sec.qv (uW (hk s hs)) n b [revL g] (fun m hm=>by rcases List.mem_singleton.1 hm with rfl;rw [val_rev];grind);have c:=c _ (List.mem_singleton.2 rfl);rw [val_rev] at c;have:=Sec.oX hno hq o k;grind
 constructor
 ·intro a;by_cases f:0<ai l x.1 x.2
  ·exact .inl f
  right;have z:ai l x.1 x.2=0:=by have:=side l hno a x xz hx;grind
  by_cases e:s=l
  ·exact e
  exfalso
  have p:Sec.cr (Sec.dirL l) (Sec.dirL s)≠0:=fun t=>by
   rcases JA hl (hk s hs) z xz t with g|g
   ·exact e g.symm
   ·rw [g,val_rev] at a;have:=hq s hs;grind
  have step:∀d:Sec.V2,Sec.nv s d=0->Sec.nv l d<0->False:=fun d d0 d1=>by
   obtain ⟨r,u,v⟩:=Sec.vy ((M.filter fun m=>decide (m≠s)).map fun m=>(ai m x.1 x.2,Sec.nv m d)) (fun y b=>by
    obtain ⟨m,hm,rfl⟩:=List.mem_map.1 b;have:=List.mem_filter.1 hm;exact hx m this.1 (by simpa using this.2))
   refine side l hno a (x.1+r*d.1,x.2+r*d.2) ?_ (fun m hm h=>?_) ?_
   ·rw [Sec.eU,xz,d0];grind
   ·rw [Sec.eU];exact v (ai m x.1 x.2,Sec.nv m d) (List.mem_map.2 ⟨m,List.mem_filter.2 ⟨hm,by simpa using h⟩,rfl⟩)
   ·rw [Sec.eU,z];have:=Sec.mp u (show -Sec.nv l d>0 by grind);grind
  have j:Sec.nv s (Sec.dirL s)=0:=by rw [Sec.FN];exact Sec.Ft _
  have ls:Sec.nv l (Sec.dirL s)≠0:=by rw [Sec.FN];exact p
  by_cases w:Sec.nv l (Sec.dirL s)<0
  ·exact step _ j w
  ·have A:Sec.nv s (-(Sec.dirL s).1,-(Sec.dirL s).2)=-Sec.nv s (Sec.dirL s):=by unfold Sec.nv;dsimp only;grind
   have B:Sec.nv l (-(Sec.dirL s).1,-(Sec.dirL s).2)=-Sec.nv l (Sec.dirL s):=by unfold Sec.nv;dsimp only;grind
   exact step (-(Sec.dirL s).1,-(Sec.dirL s).2) (by rw [A,j];grind) (by rw [B];grind)
 ·intro a;have:=side (revL l) (fun x hx=>hno x (by rw [val_rev] at hx;grind)) (by rw [val_rev];grind) x xz hx;rw [val_rev] at this;by_cases f:ai l x.1 x.2<0
  ·exact .inl f
  ·refine .inr ⟨by grind,fun e=>?_⟩;have:=hq s hs;rw [e] at this;grind
theorem je {s:Sd}(hs:s∈c):ai s.1 (f_ s.1 s.2.bX) (gy s.1 s.2.bX)=0/\∀m∈M,m≠s.1->0<ai m (f_ s.1 s.2.bX) (gy s.1 s.2.bX):=by
 obtain ⟨d,e,f⟩:=h.mem s hs;refine ⟨(lf (jT (hk _ d)) _).1,(f _).1 ?_⟩;obtain ⟨g,i⟩:=Sp.FX e.2;constructor
 ·cases ha:s.2.a
  ·exact .inr (g ha)
  ·exact .inl rfl
 ·cases hb:s.2.b
  ·exact .inr (i hb)
  ·exact .inl rfl
theorem yT {l:L3}(hl:okL l=true)(hno:∀x:Sec.V2,ai l x.1 x.2=0->¬Sec.pos M x){q:Sec.V2}(hq:Sec.pos M q)(hp:0<ai l q.1 q.2)(h0:c≠[]):cK c l=1:=by
 cases hc:c with
 | nil=>exact absurd hc h0
 | cons s r=>
  have b:s∈c:=by rw [hc];exact List.mem_cons_self ..
  obtain ⟨d,f⟩:=je h hk b;have:=(qt hk hl hno hq (h.mem s b).1 (x:=(f_ s.1 s.2.bX,gy s.1 s.2.bX)) d f).1 hp;unfold cK;dsimp only at this;by_cases e:0<ai l (f_ s.1 s.2.bX) (gy s.1 s.2.bX)
  ·rw [Sec.AE.2 e];rfl
  ·have a:s.1=l:=this.resolve_left e
   have z:ai l (f_ s.1 s.2.bX) (gy s.1 s.2.bX)=0:=by
    have h:=d;rw [a] at h ⊢;exact h
   rw [Sec.eT.2 z,if_neg (by simp),if_pos a]
theorem yS {l:L3}(hl:okL l=true)(hno:∀x:Sec.V2,ai l x.1 x.2=0->¬Sec.pos M x){q:Sec.V2}(hq:Sec.pos M q)(hp:ai l q.1 q.2<0):cK c l=-1:=by
 have:∀r:List Sd,(∀s∈r,s∈c)->cK r l=-1:=by
  intro r
  induction r with
  | nil=>intro _;rfl
  | cons s r ih=>
   intro a;have b:=a s (List.mem_cons_self ..);obtain ⟨d,e⟩:=je h hk b;have:=(qt hk hl hno hq (h.mem s b).1 (x:=(f_ s.1 s.2.bX,gy s.1 s.2.bX)) d e).2 hp;dsimp only at this;unfold cK;rcases this with g|⟨g,f⟩
   ·rw [Sec.vq.2 g];rfl
   ·rw [Sec.eT.2 g,if_neg (by simp),if_neg f];exact ih fun u hu=>a u (List.mem_cons_of_mem _ hu)
 exact this c fun _ h=>h
theorem clip_ok {l:L3}(hl:okL l=true):(∀c',clipC c l=some c'->CanC (l::M) c')/\(clipC c l=none->¬∃q,Sec.pos (l::M) q):=by
 unfold clipC
 cases e:bG c l fullSp with
 | some v=>exact ⟨fun c' f=>by cases f;exact Gw h hk hl e,fun f=>by cases f⟩
 | none=>
  dsimp only
  have d:∀x:Sec.V2,ai l x.1 x.2=0->¬Sec.pos M x:=fun x E n=>by
   obtain ⟨t,o,r⟩:=oW (jT hl) E;refine qM fU e t (oK t) fun s u=>?_;rw [←o,←r];exact n s.1 (h.mem s u).1
  have F:c≠[]:=fun G=>by rw [G] at e;cases e
  obtain ⟨q,j⟩:=h.pos;by_cases w:0<ai l q.1 q.2
  ·rw [yT h hk hl d j w F];refine ⟨fun c' f=>?_,fun f=>by cases f⟩;cases f;refine ⟨⟨q,List.forall_mem_cons.2 ⟨w,j⟩⟩,fun s u=>?_,fun y A he=>?_,h.asc⟩
   ·obtain ⟨B,H,I⟩:=h.mem s u;refine ⟨List.mem_cons_of_mem _ B,H,fun t=>?_⟩;rw [I t,List.forall_mem_cons];refine ⟨fun g=>⟨fun i=>?_,g⟩,fun g=>g.2⟩;exact ((qt hk hl d j B (x:=(f_ s.1 t,gy s.1 t)) (lf (jT (hk _ B)) t).1 g).1 w).resolve_right fun e=>i e.symm
   ·obtain ⟨p,D,n⟩:=he;by_cases hm:y∈M
    ·exact h.all y hm ⟨p,D,fun m hm i=>n m (List.mem_cons_of_mem _ hm) i⟩
    ·exfalso;have o:y=l:=(List.mem_cons.1 A).resolve_right hm;refine d p (o▸D) fun m k=>n m (List.mem_cons_of_mem _ k) fun r=>hm (r▸k)
  ·have J:ai l q.1 q.2<0:=by
    by_cases z:ai l q.1 q.2=0
    ·exact absurd j (d q z)
    ·grind
   rw [yS h hk hl d j J];refine ⟨fun c' f=>(by cases f),fun _=>?_⟩;rintro ⟨K,C⟩;obtain ⟨a,b⟩:=List.forall_mem_cons.1 C;have:=Sec.oX d (fun m hm=>b m hm) j a;grind
end
theorem CanC.nil:CanC [] []:=⟨⟨(0,0),fun m hm=>by cases hm⟩,(fun s a=>by cases a),(fun l b=>by cases b),List.Pairwise.nil⟩
def dA:List L3->List L3->List Sd->Option (List Sd)
 | [],_,c=>some c
 | l::r,M,c=>match clipC c l with
  | some c'=>dA r (l::M) c'
  | none=>none
theorem BH:∀{ls M:List L3} {c:List Sd},CanC M c->(∀m∈M,okL m=true)->(∀m∈ls,okL m=true)->(∀c',dA ls M c=some c'->CanC (ls.reverse++M) c')/\(dA ls M c=none->¬∃q,Sec.pos (ls.reverse++M) q)
 | [],M,c,h,hk,hl=>⟨fun c' e=>by cases e;exact h,fun e=>by cases e⟩
 | l::r,M,c,h,hk,hl=>by
  obtain ⟨h1,h2⟩:=clip_ok h hk (hl l (List.mem_cons_self ..));rw [List.reverse_cons,List.append_assoc];unfold dA
  cases e:clipC c l with
  | some c'=>exact BH (h1 c' e) (List.forall_mem_cons.2 ⟨hl l (List.mem_cons_self ..),hk⟩) fun m hm=>hl m (List.mem_cons_of_mem _ hm)
  | none=>
   refine ⟨fun c' a=>(by cases a),fun _=>?_⟩;rintro ⟨q,b⟩;exact h2 e ⟨q,fun m hm=>b m (List.mem_append_right _ hm)⟩
theorem oz:∀{a b:List L3},(a.Pairwise fun l m=>Sec.ang (Sec.dirL l) (Sec.dirL m)<0)->(b.Pairwise fun l m=>Sec.ang (Sec.dirL l) (Sec.dirL m)<0)->(∀x,x∈a↔x∈b)->a=b
 | [],b,_,_,h=>by
  cases b with
  | nil=>rfl
  | cons y b=>have:=(h y).2 (List.mem_cons_self ..);cases this
 | x::a,[],_,_,h=>by have:=(h x).1 (List.mem_cons_self ..);cases this
 | x::a,y::b,ha,hb,h=>by
  obtain ⟨d,i⟩:=List.pairwise_cons.1 ha;obtain ⟨b1,b2⟩:=List.pairwise_cons.1 hb
  have e:x=y:=by
   rcases List.mem_cons.1 ((h x).1 (List.mem_cons_self ..)) with e|j
   ·exact e
   ·rcases List.mem_cons.1 ((h y).2 (List.mem_cons_self ..)) with e|k
    ·exact e.symm
    ·exact absurd (d y k) (Sec.s_ _ _ (b1 x j))
  subst e;have f:∀z:L3,¬Sec.ang (Sec.dirL z) (Sec.dirL z)<0:=fun z c=>Sec.s_ _ _ c c;congr 1;refine oz i b2 fun z=>⟨fun c=>?_,fun c=>?_⟩
  ·rcases List.mem_cons.1 ((h z).1 (List.mem_cons_of_mem _ c)) with e|g
   ·exact absurd (d z c) (e▸f z)
   ·exact g
  ·rcases List.mem_cons.1 ((h z).2 (List.mem_cons_of_mem _ c)) with e|g
   ·exact absurd (b1 z c) (e▸f z)
   ·exact g
end Go.Proofs.Tryz
namespace Go.Proofs.Tryz
open Go.Eng Go.Big
theorem qo (l m:L3):br l m=-dC m l:=by unfold br dC;grind
theorem MX (m l:L3):Sec.cr (Sec.dirL m) (Sec.dirL l)=dC m l:=by unfold Sec.cr Sec.dirL dC;grind
def kG (l m:L3):Rat:=Ao l (Mr l m) (Ms l m)
theorem CB {l m:L3}(hl:Nz l)(h:br l m≠0):kG l m=dB m l:=by
 obtain ⟨v1,v2⟩:=N_ h;obtain ⟨t,a,b⟩:=oW hl v1;have c:kG l m=t:=by unfold kG;rw [a,b];exact (lf hl t).2
 rw [a,b,vH] at v2;rw [c];have d:dC m l≠0:=fun e=>h (by rw [qo,e];grind);have f:=Rat.mul_inv_cancel _ d;unfold dB;grind
def oI (l m:L3)(s:Sp):Option Sp:=
 if br l m=0 then (if (ai m (f_ l 0) (gy l 0)).num.sign<=0 then none else some s)
 else
  let s':Sp:=if 0<(dC m l).num.sign then (if s.a=true\/s.lo<kG l m then ⟨kG l m,s.hi,false,s.b⟩ else s) else (if s.b=true\/kG l m<s.hi then ⟨s.lo,kG l m,s.a,false⟩ else s)
  if s'.a=false/\s'.b=false/\s'.hi<=s'.lo then none else some s'
theorem Ia {s:Sp}:s.emp=true↔s.a=false/\s.b=false/\s.hi<=s.lo:=by
 cases h:s.emp
 ·have:=Sp.kx.1 h;constructor
  ·intro h;cases h
  ·rintro ⟨f,i,j⟩;rw [f,i] at this;rcases this with h|h|h
   ·cases h
   ·cases h
   ·exfalso;grind
 ·refine ⟨fun _=>?_,fun _=>rfl⟩;have d:¬(s.a=true\/s.b=true\/s.lo<s.hi):=fun g=>by rw [←Sp.kx] at g;rw [h] at g;cases g
  refine ⟨?_,?_,?_⟩
  ·cases e:s.a
   ·rfl
   ·exact absurd (.inl e) d
  ·cases e:s.b
   ·rfl
   ·exact absurd (.inr (.inl e)) d
  ·by_cases c:s.lo<s.hi
   ·exact absurd (.inr (.inr c)) d
   ·grind
theorem uq {l m:L3}{s:Sp}(hl:Nz l)(hs:s.iM):oI l m s=if dq l s m=true then some (cN l s m) else none:=by
 unfold oI;by_cases c:br l m=0
 ·have d:dC m l=0:=by rw [qo] at c;grind
  have k:cN l s m=s:=by unfold cN;rw [d];rfl
  have f:dq l s m=decide ((jB m l).num.sign>0):=by unfold dq;rw [d];rfl
  rw [if_pos c,k,f];show (if (jB m l).num.sign<=0 then none else some s)=_;by_cases g:(jB m l).num.sign<=0
  ·rw [if_pos g,if_neg (by rw [decide_eq_true_iff];omega)]
  ·rw [if_neg g,if_pos (by rw [decide_eq_true_iff];omega)]
 ·have d:dC m l≠0:=fun e=>c (by rw [qo,e];grind);rw [if_neg c,CB hl c]
  have es:(if 0<(dC m l).num.sign then (if s.a=true\/s.lo<dB m l then (⟨dB m l,s.hi,false,s.b⟩:Sp) else s) else (if s.b=true\/dB m l<s.hi then ⟨s.lo,dB m l,s.a,false⟩ else s))=cN l s m:=by
   obtain ⟨i,j⟩:=hs.1;obtain ⟨lo,hi,a,b⟩:=s;dsimp only at i j ⊢;unfold cN;rcases kN (dC m l) with ⟨h,e⟩|⟨h,e⟩|⟨h,e⟩
   ·exact absurd h d
   ·rw [e,if_pos (by decide)];show _=Sp.meet ⟨lo,hi,a,b⟩ ⟨dB m l,0,false,true⟩;unfold Sp.meet Cp;rcases mq (dB m l) lo with ⟨g,e⟩|⟨g,e⟩|⟨g,e⟩<;>rw [e]<;>cases a<;>cases b<;>simp at i j⊢<;> grind
   ·rw [e,if_neg (by decide)];show _=Sp.meet ⟨lo,hi,a,b⟩ ⟨0,dB m l,true,false⟩;unfold Sp.meet Cs;rcases mq (dB m l) hi with ⟨g,e⟩|⟨g,e⟩|⟨g,e⟩<;>rw [e]<;>cases a<;>cases b<;>simp at i j⊢<;> grind
  have f:dq l s m=!(cN l s m).emp:=by
   unfold dq;rcases kN (dC m l) with ⟨h,e⟩|⟨h,e⟩|⟨h,e⟩
   ·exact absurd h d
   ·rw [e];rfl
   ·rw [e];rfl
  dsimp only;rw [es,f];by_cases g:(cN l s m).a=false/\(cN l s m).b=false/\(cN l s m).hi<=(cN l s m).lo
  ·rw [if_pos g,Ia.2 g,if_neg (by decide)]
  ·rw [if_neg g];cases h:(cN l s m).emp
   ·rw [if_pos (by decide)]
   ·exact absurd (Ia.1 h) g
def edgeG (l:L3):List L3->Sp->Option Sp
 | [],s=>some s
 | m::r,s=>if m=l then edgeG l r s else match oI l m s with
  | some s'=>edgeG l r s'
  | none=>none
theorem qu {l:L3}(hl:Nz l):∀{c:List L3} {s w:Sp},s.iM->edgeG l c s=some w->w.iM/\∀t,w.nF t↔s.nF t/\∀m∈c,m≠l->0<ai m (f_ l t) (gy l t)
 | [],s,w,h,e=>by cases e;exact ⟨h,fun t=>⟨fun g=>⟨g,fun m hm=>by cases hm⟩,fun g=>g.1⟩⟩
 | m::c,s,w,h,e=>by
  unfold edgeG at e;by_cases hm:m=l
  ·rw [if_pos hm] at e;obtain ⟨g1,g2⟩:=qu hl h e;refine ⟨g1,fun t=>(g2 t).trans (and_congr_right fun _=>?_)⟩;rw [List.forall_mem_cons];exact ⟨fun g=>⟨fun a=>absurd hm a,g⟩,fun g=>g.2⟩
  ·rw [if_neg hm,uq hl h] at e;by_cases hb:dq l s m=true
   ·rw [if_pos hb] at e;obtain ⟨g1,g2⟩:=qu hl (jK h hb) e;refine ⟨g1,fun t=>?_⟩;rw [g2,iW.1 hb t,List.forall_mem_cons,and_assoc];exact and_congr_right fun _=>and_congr_left fun _=>⟨fun g _=>g,fun g=>g hm⟩
   ·rw [if_neg hb] at e;cases e
theorem qp {l:L3}(hl:Nz l):∀{c:List L3} {s:Sp},s.iM->edgeG l c s=none->∀t,s.nF t->¬∀m∈c,m≠l->0<ai m (f_ l t) (gy l t)
 | [],s,h,e=>by cases e
 | m::c,s,h,e=>by
  intro t ht hall;obtain ⟨ha,hr⟩:=List.forall_mem_cons.1 hall;unfold edgeG at e;by_cases hm:m=l
  ·rw [if_pos hm] at e;exact qp hl h e t ht hr
  ·rw [if_neg hm,uq hl h] at e;by_cases hb:dq l s m=true
   ·rw [if_pos hb] at e;exact qp hl (jK h hb) e t ((iW.1 hb t).2 ⟨ht,ha hm⟩) hr
   ·exact iW.2 h.2 (by simpa using hb) t ht (ha hm)
theorem tj {l:L3}(hl:Nz l){c:List L3}:(edgeG l c fullSp).isSome=true↔Sec.Es c l:=by
 constructor
 ·intro h;obtain ⟨w,hw⟩:=Option.isSome_iff_exists.1 h;obtain ⟨b,d⟩:=qu hl fU hw;obtain ⟨t,e⟩:=mr.1 b.2;exact ⟨(f_ l t,gy l t),(lf hl t).1,((d t).1 e).2⟩
 ·rintro ⟨p,f,a⟩;obtain ⟨t,g,i⟩:=oW hl f
  cases h:edgeG l c fullSp with
  | some w=>rfl
  | none=>
   rw [g,i] at a;exact absurd a (qp hl fU h t (oK t))
def insD (l:L3):List L3->List L3
 | []=>[l]
 | u::r=>if Sec.ang (Sec.dirL u) (Sec.dirL l)<0 then u::insD l r else if u=l then u::r else l::u::r
def refC (c:List L3):List L3->List L3->List L3
 | [],out=>out
 | l::r,out=>refC c r (if (edgeG l c fullSp).isSome=true then insD l out else out)
theorem insD_mem {l x:L3}:∀{r:List L3},x∈insD l r↔x=l\/x∈r
 | []=>by simp [insD]
 | u::r=>by
  unfold insD;split
  ·rw [List.mem_cons,insD_mem,List.mem_cons];exact or_left_comm
  split
  ·rename_i e;subst e;rw [List.mem_cons];exact ⟨.inr,fun h=>h.elim .inl id⟩
  ·rw [List.mem_cons]
theorem Ce {l:L3}:∀{r:List L3},(r.Pairwise fun s u=>Sec.ang (Sec.dirL s) (Sec.dirL u)<0)->(∀s∈r,Sec.ang (Sec.dirL s) (Sec.dirL l)=0->s=l)->(insD l r).Pairwise fun s u=>Sec.ang (Sec.dirL s) (Sec.dirL u)<0
 | [],_,_=>List.pairwise_singleton _ _
 | u::r,h,hz=>by
  obtain ⟨h1,h2⟩:=List.pairwise_cons.1 h;unfold insD;split
  ·rename_i a;refine List.pairwise_cons.2 ⟨fun y b=>?_,Ce h2 (fun s f=>hz s (List.mem_cons_of_mem _ f))⟩;rcases insD_mem.1 b with rfl|b
   ·exact a
   ·exact h1 y b
  split
  ·exact h
  ·rename_i a d
   have c:Sec.ang (Sec.dirL l) (Sec.dirL u)<0:=by
    have i:Sec.ang (Sec.dirL u) (Sec.dirL l)≠0:=fun e=>d (hz u (List.mem_cons_self ..) e);rcases Sec.tI (Sec.dirL u) (Sec.dirL l) with g|g|g
    ·exact absurd g a
    ·exact absurd g i
    ·exact g
   refine List.pairwise_cons.2 ⟨fun y b=>?_,h⟩;rcases List.mem_cons.1 b with rfl|b
   ·exact c
   ·exact zw c (h1 y b)
theorem M6 {c:List L3}(hk:∀m∈c,okL m=true){l m:L3}(hl:l∈c)(hm:m∈c)(el:Sec.Es c l)(em:Sec.Es c m)(h:Sec.ang (Sec.dirL l) (Sec.dirL m)=0):l=m:=by
 by_cases e:l=m
 ·exact e
 exfalso;obtain ⟨p,a,b⟩:=em;obtain ⟨r,d,f⟩:=el;exact CC (uW (hk l hl)) h a (b l hl e) d (f m hm fun g=>e g.symm)
theorem Az {c:List L3}(hk:∀m∈c,okL m=true):∀{r out:List L3},(∀m∈r,m∈c)->(∀m∈out,m∈c/\Sec.Es c m)->(out.Pairwise fun s u=>Sec.ang (Sec.dirL s) (Sec.dirL u)<0) ->
  ((refC c r out).Pairwise fun s u=>Sec.ang (Sec.dirL s) (Sec.dirL u)<0)/\∀x,x∈refC c r out↔x∈out\/x∈r/\Sec.Es c x
 | [],out,_,_,h=>⟨h,fun x=>by simp [refC]⟩
 | l::r,out,hr,ho,h=>by
  obtain ⟨hl,hr⟩:=List.forall_mem_cons.1 hr;unfold refC;by_cases he:Sec.Es c l
  ·rw [if_pos ((tj (jT (hk l hl))).2 he)]
   obtain ⟨a,b⟩:=Az hk (r:=r) (out:=insD l out) hr (fun m hm=>by
    rcases insD_mem.1 hm with rfl|hm
    ·exact ⟨hl,he⟩
    ·exact ho m hm) (Ce h fun s d e=>M6 hk (ho s d).1 hl (ho s d).2 he e)
   refine ⟨a,fun x=>?_⟩;rw [b,insD_mem,List.mem_cons];constructor
   ·rintro ((rfl|h)|h)
    ·exact .inr ⟨.inl rfl,he⟩
    ·exact .inl h
    ·exact .inr ⟨.inr h.1,h.2⟩
   ·rintro (h|⟨rfl|h,e⟩)
    ·exact .inl (.inr h)
    ·exact .inl (.inl rfl)
    ·exact .inr ⟨h,e⟩
  ·rw [if_neg fun g=>he ((tj (jT (hk l hl))).1 g)];obtain ⟨a,b⟩:=Az hk (r:=r) (out:=out) hr ho h;refine ⟨a,fun x=>?_⟩;rw [b,List.mem_cons];constructor
   ·rintro (h|h)
    ·exact .inl h
    ·exact .inr ⟨.inr h.1,h.2⟩
   ·rintro (h|⟨rfl|h,e⟩)
    ·exact .inl h
    ·exact absurd e he
    ·exact .inr ⟨h,e⟩
theorem Es.of {M N:List L3}(h:∀x,x∈M->x∈N){l:L3}(e:Sec.Es N l):Sec.Es M l:=by
 obtain ⟨p,a,b⟩:=e;exact ⟨p,a,fun m hm=>b m (h m hm)⟩
theorem oG {ls:List L3}(hk:∀m∈ls,okL m=true):(∀c,dA ls [] []=some c->refC ls ls []=c.map Prod.fst/\CanC ls.reverse c/\(ls=[]\/refC ls ls []≠[]))/\(dA ls [] []=none->refC ls ls []=[]/\ls≠[]/\¬∃q,Sec.pos ls q):=by
 obtain ⟨u,w⟩:=BH (ls:=ls) CanC.nil (fun m hm=>by cases hm) hk;rw [List.append_nil] at u w;obtain ⟨z,i⟩:=Az hk (r:=ls) (out:=[]) (fun m hm=>hm) (fun m hm=>by cases hm) List.Pairwise.nil;have i:∀x,x∈refC ls ls []↔x∈ls/\Sec.Es ls x:=fun x=>(i x).trans ⟨fun h=>h.elim (fun h=>by cases h) id,.inr⟩;have d:∀q,Sec.pos ls q↔Sec.pos ls.reverse q:=fun q=>⟨fun h m hm=>h m (List.mem_reverse.1 hm),fun h m hm=>h m (List.mem_reverse.2 hm)⟩;constructor
 ·intro c e;have j:=u c e;obtain ⟨q,f⟩:=j.pos;have f:=(d q).2 f;refine ⟨?_,j,?_⟩
  ·refine oz z (List.pairwise_map.2 j.asc) fun x=>?_;rw [i,List.mem_map];constructor
   ·rintro ⟨a,b⟩;obtain ⟨v,A⟩:=j.all x (List.mem_reverse.2 a) (Es.of (fun y B=>List.mem_reverse.1 B) b);exact ⟨_,A,rfl⟩
   ·rintro ⟨s,C,rfl⟩;obtain ⟨k,D,E⟩:=j.mem s C;obtain ⟨t,F⟩:=mr.1 D.2;have k:=List.mem_reverse.1 k;exact ⟨k,⟨(f_ s.1 t,gy s.1 t),(lf (jT (hk _ k)) t).1,fun m hm o=>(E t).1 F m (List.mem_reverse.2 hm) o⟩⟩
  ·by_cases n:ls=[]
   ·exact .inl n
   right;obtain ⟨l,G,he⟩:=Sec.Fw (D6 hk f) (fun m hm=>uW (hk m hm)) f n;exact List.ne_nil_of_mem ((i l).2 ⟨G,he⟩)
 ·intro e;have g:¬∃q,Sec.pos ls q:=fun ⟨q,f⟩=>w e ⟨q,(d q).1 f⟩;refine ⟨?_,fun n=>g ⟨(0,0),fun m hm=>by rw [n] at hm;cases hm⟩,g⟩;refine List.eq_nil_iff_forall_not_mem.2 fun x H=>?_;obtain ⟨a,p,I,J⟩:=(i x).1 H;obtain ⟨q,f,-⟩:=Sec.qv (uW (hk x a)) I J [] (fun m hm=>by cases hm);exact g ⟨q,f⟩
theorem ok_rev {l:L3}(h:okL l=true):okL (revL l)=true:=by
 unfold okL revL iu at *;simp only [Int.natAbs_neg];rw [Bool.and_eq_true,decide_eq_true_iff,decide_eq_true_iff] at h ⊢;exact ⟨fun e=>h.1 ⟨by omega,by omega⟩,h.2⟩
theorem GQ {c:List L3}(hk:∀m∈c,okL m=true):(c=[]\/∃l∈c,Sec.Es c l)↔∃q,Sec.pos c q:=by
 constructor
 ·rintro (rfl|⟨l,d,p,e,f⟩)
  ·exact ⟨(0,0),fun m hm=>by cases hm⟩
  ·obtain ⟨q,a,-⟩:=Sec.qv (uW (hk l d)) e f [] (fun m hm=>by cases hm);exact ⟨q,a⟩
 ·rintro ⟨q,a⟩;by_cases b:c=[]
  ·exact .inl b
  ·exact .inr (Sec.Fw (D6 hk a) (fun m hm=>uW (hk m hm)) a b)
section
variable {M:List L3} {c:List Sd} (h:CanC M c) (hk:∀m ∈ M,okL m=true)
include h hk
theorem lK {l:L3}(hl:okL l=true):(bG c l fullSp).isSome=true↔∃x:Sec.V2,ai l x.1 x.2=0/\Sec.pos M x:=by
 constructor
 ·intro e;obtain ⟨v,a⟩:=Option.isSome_iff_exists.1 e;obtain ⟨b,d⟩:=qN fU a;obtain ⟨t,f⟩:=mr.1 b.2;exact ⟨(f_ l t,gy l t),(lf (jT hl) t).1,h.int hk ((d t).1 f).2⟩
 ·rintro ⟨x,g,i⟩;obtain ⟨t,j,k⟩:=oW (jT hl) g
  cases e:bG c l fullSp with
  | some v=>rfl
  | none=>exact absurd (fun s m=>by rw [←j,←k];exact i _ (h.mem s m).1) (qM fU e t (oK t))
theorem CE {l:L3}(hl:okL l=true):((bG c l fullSp).isSome=true↔(∃q,Sec.pos M q/\0<ai l q.1 q.2)/\∃q,Sec.pos M q/\ai l q.1 q.2<0) /\
  ((bG c l fullSp).isSome=false->(cK c l=1/\∃q,Sec.pos M q/\0<ai l q.1 q.2)\/cK c l=-1/\¬∃q,Sec.pos M q/\0<ai l q.1 q.2):=by
 constructor
 ·rw [lK h hk hl];constructor
  ·rintro ⟨x,f,g⟩;obtain ⟨q,a,j,-⟩:=Sec.qv (M:=M) (uW hl) f (fun m hm _=>g m hm) [] (fun m hm=>by cases hm);obtain ⟨r,i,b,-⟩:=Sec.qv (M:=M) (l:=revL l) (x:=x) (uW (ok_rev hl)) (by rw [val_rev,f];rfl) (fun m hm _=>g m hm) [] (fun m hm=>by cases hm);rw [val_rev] at b;exact ⟨⟨q,a,j⟩,r,i,by grind⟩
  ·rintro ⟨⟨q,a,j⟩,r,i,b⟩;by_cases o:∃x:Sec.V2,ai l x.1 x.2=0/\Sec.pos M x
   ·exact o
   ·have:=Sec.oX (fun x f g=>o ⟨x,f,g⟩) a i j;grind
 ·intro e
  have d:∀x:Sec.V2,ai l x.1 x.2=0->¬Sec.pos M x:=fun x f g=>by
   rw [(lK h hk hl).2 ⟨x,f,g⟩] at e;cases e
  obtain ⟨q,a⟩:=h.pos;have k:c≠[]:=fun p=>by subst p;unfold bG at e;cases e
  by_cases n:0<ai l q.1 q.2
  ·exact .inl ⟨yT h hk hl d a n k,q,a,n⟩
  ·have s:ai l q.1 q.2≠0:=fun z=>d q z a;refine .inr ⟨yS h hk hl d a (by grind),?_⟩;rintro ⟨r,i,b⟩;exact n (Sec.oX d i a b)
theorem zQ {p:Sec.V2}(hp:∀s∈c,0<=ai s.1 p.1 p.2):∀m∈M,0<=ai m p.1 p.2:=by
 intro m hm;obtain ⟨q,d⟩:=h.pos
 have key:∀t:Rat,0<=t->t<1->Sec.pos M (q.1+t*(p.1-q.1),q.2+t*(p.2-q.2)):=fun t t0 t1=>h.int hk fun s f=>by
  dsimp only;rw [Sec.pO];have a:=d s.1 (h.mem s f).1;have j:=Sec.mn t0 (hp s f);have k:=Sec.mp (show 1-t>0 by grind) a;grind
 by_cases g:0<=ai m p.1 p.2
 ·exact g
 exfalso;have a:=d m hm;obtain ⟨t,t0,t1,e⟩:=Sec.tC (y:=(ai m q.1 q.2,ai m p.1 p.2)) a (s:=1) (by decide) (by unfold Sec.mx;grind)
 have b:t<1:=by
  by_cases i:t=1
  ·subst i;unfold Sec.mx at e;dsimp only at e;grind
  ·grind
 have:=key t (by grind) b m hm;dsimp only at this;rw [Sec.pO] at this;unfold Sec.mx at e;dsimp only at e;grind
theorem BJ (p:Sec.V2):((∀s∈c,0<=ai s.1 p.1 p.2)↔∀m∈M,0<=ai m p.1 p.2)/\((∀s∈c,0<ai s.1 p.1 p.2)↔∀m∈M,0<ai m p.1 p.2):=
 ⟨⟨fun g=>zQ h hk g,fun g s a=>g _ (h.mem s a).1⟩,fun g=>h.int hk g,fun g s a=>g _ (h.mem s a).1⟩
theorem zi (q:Sec.V2):Sec.pos (c.map Prod.fst) q↔Sec.pos M q:=by
 constructor
 ·intro g;exact h.int hk fun s a=>g _ (List.mem_map.2 ⟨s,a,rfl⟩)
 ·intro g m hm;obtain ⟨s,a,rfl⟩:=List.mem_map.1 hm;exact g _ (h.mem s a).1
theorem F0 {s:Sd}(hs:s∈c):∃x:Sec.V2,ai s.1 x.1 x.2=0/\∀m∈M,m≠s.1->0<ai m x.1 x.2:=
 ⟨(f_ s.1 s.2.bX,gy s.1 s.2.bX),je h hk hs⟩
end
end Go.Proofs.Tryz
namespace Go.Proofs.Tryz
open Go.Eng Go.Big
section
variable {M:List L3} {c:List Sd} (h:CanC M c) (hk:∀m ∈ M,okL m=true)
include h hk
end
end Go.Proofs.Tryz
namespace Go.Proofs.Tryz
open Go.Eng Go.Big
namespace Sec
end Sec
section
variable {M:List L3} {c:List Sd} (h:CanC M c) (hk:∀m ∈ M,okL m=true)
include h hk
end
end Go.Proofs.Tryz
namespace Go.Proofs.Tryz
open Go.Eng Go.Big
namespace Sec
end Sec
section
variable {M:List L3} {c:List Sd} (h:CanC M c) (hk:∀m ∈ M,okL m=true)
include h hk
end
end Go.Proofs.Tryz
namespace Go.Proofs.Tryz
open Go.Eng Go.Big
section
variable {M:List L3} {c:List Sd} (h:CanC M c) (hk:∀m ∈ M,okL m=true) (hb:∀s ∈ c,s.2.a=false/\s.2.b=false)
include h hk hb
end
end Go.Proofs.Tryz
namespace Go.Proofs.Tryz
open Go.Eng Go.Big
section
variable {M:List L3} {c:List Sd} (h:CanC M c) (hk:∀m ∈ M,okL m=true) (hb:∀s ∈ c,s.2.a=false/\s.2.b=false)
include h hk hb
end
end Go.Proofs.Tryz
