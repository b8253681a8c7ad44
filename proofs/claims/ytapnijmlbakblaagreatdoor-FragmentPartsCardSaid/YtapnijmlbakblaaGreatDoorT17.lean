import Derived.Test.YtapnijmlbakblaaGreatDoorT16
import Derived.Test.YtapnijmlbakblaaGreatDoorT6
import Derived.WalkKit
import Derived.LaidEql
import Derived.Stop.Asserts
import Derived.RowKitTokens
import Derived.Test.YtapnijmlbakblaaGreatDoorT15
import Derived.Test.YtapnijmlbakblaaGreatDoorT12
import Derived.Test.YtapnijmlbakblaaGreatDoorT9
import Derived.Test.YtapnijmlbakblaaGreatDoorT14
import Derived.Test.YtapnijmlbakblaaGreatDoorT11
set_option linter.unusedVariables false
open Go.IntKind (i64 u64 u32)
namespace Go.Proofs.Tryz
open Go.Eng Go.Big
section
variable {α:Type} (e:α->α->Bool)
def kd:α->List α->List α
 | _,[]=>[]
 | p,a::r=>if e a p then kd a r else a::kd a r
def gC:List α->List α
 | []=>[]
 | a::r=>a::kd e a r
variable {e}
theorem yT {d:α}:∀{r:List α} {p a:α},kd e p (r++[a])=kd e p r++if e a ((p::r).getD r.length d) then [] else [a]
 | [],p,a=>by simp [kd]
 | b::r,p,a=>by
  have ih:=yT (d:=d) (r:=r) (p:=b) (a:=a);have c:(p::b::r).getD (b::r).length d=(b::r).getD r.length d:=rfl;rw [c,List.cons_append];simp only [kd];split
  ·exact ih
  ·rw [ih];rfl
theorem mR {d:α}{l:List α}{k:Nat}(hk:k+1<l.length):gC e (l.take (k+2))=gC e (l.take (k+1))++if e (l.getD (k+1) d) (l.getD k d) then [] else [l.getD (k+1) d]:=by
 cases l with
 | nil=>simp at hk
 | cons a r=>
  have b:k<r.length:=by simpa using hk
  have c:(a::r).take (k+2)=a::(r.take k++[r[k]]):=by
   rw [List.take_succ_cons,List.take_append_getElem b]
  have f:(a::r).take (k+1)=a::r.take k:=List.take_succ_cons;rw [c,f];simp only [gC];rw [yT (d:=d)];have g:(a::r).getD (k+1) d=r[k]:=by rw [List.getD_cons_succ,List.getD_eq_getElem?_getD,List.getElem?_eq_getElem b];rfl
  have h:(a::r.take k).getD (r.take k).length d=(a::r).getD k d:=by
   have i:(r.take k).length=k:=by rw [List.length_take];omega
   rw [i]
   cases k with
   | zero=>rfl
   | succ k=>
    rw [List.getD_cons_succ,List.getD_cons_succ,List.getD_eq_getElem?_getD,List.getD_eq_getElem?_getD,List.getElem?_take,if_pos (by omega)]
  rw [g,h,List.cons_append]
theorem uQ:∀{r:List α} {p:α},∀x∈kd e p r,x∈r
 | [],p,x,h=>h
 | b::r,p,x,h=>by
  unfold kd at h;split at h
  ·exact List.mem_cons_of_mem _ (uQ x h)
  ·rcases List.mem_cons.1 h with rfl|h
   ·exact List.mem_cons_self ..
   ·exact List.mem_cons_of_mem _ (uQ x h)
theorem Iz {l:List α}:∀x∈gC e l,x∈l:=by
 cases l with
 | nil=>exact fun x h=>h
 | cons a r=>
  intro x h;rcases List.mem_cons.1 h with rfl|h
  ·exact List.mem_cons_self ..
  ·exact List.mem_cons_of_mem _ (uQ x h)
theorem BZ:∀{r:List α} {p:α},(kd e p r).length<=r.length
 | [],p=>Nat.le_refl _
 | b::r,p=>by
  have:=BZ (r:=r) (p:=b);unfold kd;split<;>simp<;>omega
theorem BU {l:List α}:(gC e l).length<=l.length:=by
 cases l with
 | nil=>exact Nat.le_refl _
 | cons a r=>have:=BZ (e:=e) (r:=r) (p:=a);simp [gC];omega
theorem Ln {d:α}{l:List α}{k:Nat}(hk:k+1<l.length)(he:e (l.getD (k+1) d) (l.getD k d)=true):(gC e l).length<l.length:=by
 have key:∀j,k+2+j<=l.length->(gC e (l.take (k+2+j))).length<k+2+j:=by
  intro j
  induction j with
  | zero=>
   intro _;rw [Nat.add_zero,mR (d:=d) hk,he,if_pos rfl,List.append_nil];have:=BU (e:=e) (l:=l.take (k+1));rw [List.length_take] at this;omega
  | succ j ih=>
   intro a;have:=ih (by omega);rw [show k+2+(j+1)=k+1+j+2 by omega,mR (d:=d) (by omega),List.length_append,show k+1+j+1=k+2+j by omega];split<;>simp<;>omega
 have:=key (l.length-(k+2)) (by omega)
 rwa [show k+2+(l.length-(k+2))=l.length by omega,List.take_length] at this
theorem BV {l:List α}(h:l.length<=1):gC e l=l:=by
 match l,h with
 | [],_=>rfl
 | [a],_=>rfl
 | _::_::_,h=>simp at h
end
end Go.Proofs.Tryz
namespace Go.Eng
open Go.Proofs.Tryz
section
variable {α:Type} {sz:Nat} {R:View->Value->α->Prop} {V:View} {d:α}
theorem Row.Ll {vs zs:List Value}{al:List α}(h:Row sz R V vs al){k:Nat}(hk:k<=al.length)(hs:0<sz):Row sz R V (vs.take (k*sz)++zs) (al.take k):=by
 have l:=h.fT hs;refine ⟨fun i b=>?_⟩;rw [List.length_take] at b;obtain ⟨xs,c,d,e⟩:=h.at_ i (by omega);refine ⟨xs,c,by rw [List.getElem_take];exact d,fun j x a=>?_⟩;have f:=(List.getElem?_eq_some_iff.1 a).1;have g:(i+1)*sz<=k*sz:=Nat.mul_le_mul_right _ (by omega);have m:k*sz<=al.length*sz:=Nat.mul_le_mul_right _ hk;rw [Nat.succ_mul] at g;rw [List.getElem?_append_left (by rw [List.length_take];omega),List.getElem?_take,if_pos (by omega)];exact e j x a
end
end Go.Eng
namespace Go.Proofs.Tryz.br
abbrev V2:=Rat×Rat
def cr (u v:V2):Rat:=u.1*v.2-u.2*v.1
def dt (u v:V2):Rat:=u.1*v.1+u.2*v.2
def RH (u:V2):V2:=(-u.2,u.1)
def up (u:V2):Prop:=u.2>0\/u.2=0/\u.1>0
def dn (u:V2):Prop:=u.2<0\/u.2=0/\u.1<0
def nz (u:V2):Prop:=u.1≠0\/u.2≠0
def sP (u v:V2):Prop:=(up u/\dn v)\/((up u/\up v\/dn u/\dn v)/\cr u v>0)
def KR (a:Rat)(u:V2)(b:Rat)(w:V2):V2:=(a*u.1+b*w.1,a*u.2+b*w.2)
def Ul (s r:V2):Prop:=∃c:Rat,c>0/\s.1=-(c*r.1)/\s.2=-(c*r.2)
theorem mJ {u:V2}(h:nz u):up u\/dn u:=by unfold nz at h;unfold up dn;grind
theorem eE {u:V2}(h:up u)(h':dn u):False:=by unfold up at h;unfold dn at h';grind
theorem gu (u v:V2):cr v u=-cr u v:=by unfold cr;grind
theorem Ox (u w r:V2):cr u r*w.1+cr r w*u.1=cr u w*r.1:=by unfold cr;grind
theorem ED (u w r:V2):cr u r*w.2+cr r w*u.2=cr u w*r.2:=by unfold cr;grind
theorem Ei (r:V2)(a:Rat)(u:V2)(b:Rat)(w:V2):cr r (KR a u b w)=a*cr r u+b*cr r w:=by unfold cr KR;grind
theorem N4 (r u:V2):cr r (RH u)=dt r u:=by unfold cr RH dt;grind
theorem AD {s r:V2}(h:Ul s r)(z:V2):∃c:Rat,c>0/\cr s z=-(c*cr r z)/\cr z s=-(c*cr z r):=by
 obtain ⟨c,d,a,b⟩:=h;exact ⟨c,d,by unfold cr;rw [a,b];grind,by unfold cr;rw [a,b];grind⟩
theorem mp {a b:Rat}(ha:a>0)(hb:b>0):a*b>0:=Rat.mul_pos ha hb
theorem mn {a b:Rat}(ha:a≥0)(hb:b≥0):a*b≥0:=Rat.mul_nonneg ha hb
theorem b1 {u w r:V2}(hu:up u)(hw:dn w)(hr:up r)(a:cr u r>0)(b:cr r w<=0)(c:cr u w≥0):False:=by
 have e:=ED u w r;unfold up at hu hr;unfold dn at hw;have f:cr u r*(-w.2)≥0:=mn (by grind) (by grind);have g:(-(cr r w))*u.2≥0:=mn (by grind) (by grind);have i:cr u w*r.2≥0:=mn c (by grind);have d:cr u r*w.2=0:=by grind
 have j:w.2=0:=by rcases Rat.mul_eq_zero.1 d with h|h<;>grind
 have k:w.1<0:=by grind
 have l:cr r w=-(r.2*w.1):=by unfold cr;grind
 have m:r.2=0:=by
  by_cases h:r.2>0
  ·have:=mp h (show -w.1>0 by grind);grind
  ·grind
 have n:r.1>0:=by grind
 have o:cr u r=-(u.2*r.1):=by unfold cr;grind
 have:=mn (show u.2≥0 by grind) (show r.1≥0 by grind);grind
theorem b2 {u w r:V2}(hu:up u)(hw:dn w)(hr:dn r)(a:cr u r<=0)(b:cr r w>0)(c:cr u w≥0):False:=by
 have e:=ED u w r;unfold up at hu;unfold dn at hw hr;have g:(-(cr u r))*(-w.2)≥0:=mn (by grind) (by grind);have i:cr r w*u.2≥0:=mn (by grind) (by grind);have j:cr u w*(-r.2)≥0:=mn c (by grind);have d:cr r w*u.2=0:=by grind
 have k:u.2=0:=by rcases Rat.mul_eq_zero.1 d with h|h<;>grind
 have f:u.1>0:=by grind
 have l:cr u w=u.1*w.2:=by unfold cr;grind
 have m:w.2=0:=by
  by_cases h:w.2<0
  ·have:=mp f (show -w.2>0 by grind);grind
  ·grind
 have n:w.1<0:=by grind
 have o:cr r w=-(r.2*w.1):=by unfold cr;grind
 have:=mn (show -r.2≥0 by grind) (show -w.1≥0 by grind);grind
theorem b3 {u w r:V2}(hu:dn u)(hw:up w)(hr:dn r)(a:cr u r>0)(b:cr r w<=0)(c:cr u w≥0):False:=by
 have e:=ED u w r;unfold dn at hu hr;unfold up at hw;have g:cr u r*w.2≥0:=mn (by grind) (by grind);have i:(-(cr r w))*(-u.2)≥0:=mn (by grind) (by grind);have j:cr u w*(-r.2)≥0:=mn c (by grind);have d:cr u r*w.2=0:=by grind
 have k:w.2=0:=by rcases Rat.mul_eq_zero.1 d with h|h<;>grind
 have f:w.1>0:=by grind
 have l:cr r w=-(r.2*w.1):=by unfold cr;grind
 have m:r.2=0:=by
  by_cases h:r.2<0
  ·have:=mp f (show -r.2>0 by grind);grind
  ·grind
 have n:r.1<0:=by grind
 have o:cr u r=-(u.2*r.1):=by unfold cr;grind
 have:=mn (show -u.2≥0 by grind) (show -r.1≥0 by grind);grind
theorem b4 {u w r:V2}(hu:dn u)(hw:up w)(hr:up r)(a:cr u r<=0)(b:cr r w>0)(c:cr u w≥0):False:=by
 have e:=ED u w r;unfold dn at hu;unfold up at hw hr;have f:(-(cr u r))*w.2≥0:=mn (by grind) (by grind);have g:cr r w*(-u.2)≥0:=mn (by grind) (by grind);have i:cr u w*r.2≥0:=mn c (by grind);have d:cr r w*u.2=0:=by grind
 have j:u.2=0:=by rcases Rat.mul_eq_zero.1 d with h|h<;>grind
 have k:u.1<0:=by grind
 have l:cr u w=u.1*w.2:=by unfold cr;grind
 have m:w.2=0:=by
  by_cases h:w.2>0
  ·have:=mp h (show -u.1>0 by grind);grind
  ·grind
 have n:w.1>0:=by grind
 have o:cr r w=-(r.2*w.1):=by unfold cr;grind
 have:=mn (show r.2≥0 by grind) (show w.1≥0 by grind);grind
structure MQ (D:List V2):Prop where
 nz:∀r∈D,nz r
 cl:∀r∈D,∃s∈D,Ul s r
 asc:D.Pairwise sP
def ss (a b:Rat):Prop:=(b>0->a>0)/\(b<0->a<0)
theorem jD {u v:V2}(hu:up u)(hv:up v):sP u v->cr u v>0:=by
 rintro (⟨_,h⟩|⟨_,h⟩)
 ·exact (eE hv h).elim
 ·exact h
theorem iC {u v:V2}(hu:dn u)(hv:dn v):sP u v->cr u v>0:=by
 rintro (⟨h,_⟩|⟨_,h⟩)
 ·exact (eE h hu).elim
 ·exact h
theorem eN {u v:V2}(hu:dn u)(hv:up v):¬sP u v:=by
 rintro (⟨h,_⟩|⟨⟨h,_⟩|⟨_,h⟩,_⟩)
 ·exact eE h hu
 ·exact eE h hu
 ·exact eE hv h
section
variable {D:List V2} (h:MQ D) {v:V2} (hv:∀r ∈ D,cr r v≠0)
include h hv
omit hv in
theorem zu {i j:Nat}{a b:V2}(hi:D[i]?=some a)(hj:D[j]?=some b)(DO:i<j):sP a b:=by
 obtain ⟨c,d⟩:=List.getElem?_eq_some_iff.1 hi;obtain ⟨e,f⟩:=List.getElem?_eq_some_iff.1 hj;have:=List.pairwise_iff_getElem.1 h.asc i j c e DO
 rwa [d,f] at this
end
theorem Q7 {r:V2}(h:nz r){c:Rat}(h1:c*r.1=0)(h2:c*r.2=0):c=0:=by
 rcases Rat.mul_eq_zero.1 h1 with e|e
 ·exact e
 ·rcases Rat.mul_eq_zero.1 h2 with a|a
  ·exact a
  ·unfold nz at h;grind
theorem sq_pos {u:V2}(h:nz u):dt u u>0:=by
 have a:∀x:Rat,x*x≥0:=fun x=>by
  by_cases b:x≥0
  ·exact mn b b
  ·have:=mn (show -x≥0 by grind) (show -x≥0 by grind);grind
 have:=a u.1;have:=a u.2;unfold dt;by_cases c:u.1*u.1+u.2*u.2>0
 ·exact c
 ·unfold nz at h;have d:u.1*u.1=0:=by grind
  have f:u.2*u.2=0:=by grind
  rcases Rat.mul_eq_zero.1 d with e|e<;>rcases Rat.mul_eq_zero.1 f with e'|e'<;>grind
def Gv (u w v':V2):Prop:=cr u w>0/\(∃a b:Rat,a>0/\b>0/\v'=KR a u b w)\/cr u w<=0/\∃a:Rat,a>0/\v'=KR a (RH u) 0 w
section
variable {D:List V2} (h:MQ D)
include h
end
theorem PF {u w s:V2}(nu:nz u)(nw:nz w)(ns:nz s)(o:sP s u/\sP u w\/sP u w/\sP w s\/sP w s/\sP s u)
  (a:cr u s>0)(b:cr s w>0)(c:cr u w>0):False:=by
 have l:=ED u w s;have m:=Ox u w s;have s1:=gu u s;have s2:=gu s w;rcases mJ nu with hu|hu<;>rcases mJ nw with hw|hw<;>rcases mJ ns with hs|hs
 ·rcases o with ⟨p,q⟩|⟨p,q⟩|⟨p,q⟩
  ·have:=jD hs hu p;grind
  ·have:=jD hw hs q;grind
  ·have:=jD hw hs p;grind
 ·unfold up at hu hw;unfold dn at hs;have i:=mn (show cr u s≥0 by grind) (show w.2≥0 by grind);have j:=mn (show cr s w≥0 by grind) (show u.2≥0 by grind);have k:=mn (show cr u w≥0 by grind) (show -s.2≥0 by grind);have d:cr u s*w.2=0:=by grind
  have e:cr s w*u.2=0:=by grind
  have f:w.2=0:=by rcases Rat.mul_eq_zero.1 d with h|h<;>grind
  have g:u.2=0:=by rcases Rat.mul_eq_zero.1 e with h|h<;>grind
  unfold cr at c;rw [f,g] at c;grind
 ·rcases o with ⟨p,q⟩|⟨p,q⟩|⟨p,q⟩
  ·have:=jD hs hu p;grind
  ·exact eN hw hs q
  ·exact eN hw hs p
 ·rcases o with ⟨p,q⟩|⟨p,q⟩|⟨p,q⟩
  ·exact eN hs hu p
  ·have:=iC hw hs q;grind
  ·exact eN hs hu q
 ·rcases o with ⟨p,q⟩|⟨p,q⟩|⟨p,q⟩
  ·exact eN hu hw q
  ·exact eN hu hw p
  ·have:=jD hw hs p;grind
 ·rcases o with ⟨p,q⟩|⟨p,q⟩|⟨p,q⟩
  ·exact eN hu hw q
  ·exact eN hu hw p
  ·have:=iC hs hu q;grind
 ·unfold dn at hu hw;unfold up at hs;have i:=mn (show cr u s≥0 by grind) (show -w.2≥0 by grind);have j:=mn (show cr s w≥0 by grind) (show -u.2≥0 by grind);have k:=mn (show cr u w≥0 by grind) (show s.2≥0 by grind);have d:cr u s*w.2=0:=by grind
  have e:cr s w*u.2=0:=by grind
  have f:w.2=0:=by rcases Rat.mul_eq_zero.1 d with h|h<;>grind
  have g:u.2=0:=by rcases Rat.mul_eq_zero.1 e with h|h<;>grind
  unfold cr at c;rw [f,g] at c;grind
 ·rcases o with ⟨p,q⟩|⟨p,q⟩|⟨p,q⟩
  ·have:=iC hs hu p;grind
  ·have:=iC hw hs q;grind
  ·have:=iC hw hs p;grind
theorem MZ {u w s:V2}(nu:nz u)(nw:nz w)(ns:nz s)(o:sP s u/\sP u w\/sP u w/\sP w s\/sP w s/\sP s u)
  (a:cr u s>0)(c:cr u w<=0):False:=by
 have s1:=gu u s;rcases mJ nu with hu|hu<;>rcases mJ ns with hs|hs
 ·rcases o with ⟨p,q⟩|⟨p,q⟩|⟨p,q⟩
  ·have:=jD hs hu p;grind
  ·rcases mJ nw with hw|hw
   ·have:=jD hu hw p;grind
   ·exact eN hw hs q
  ·have:=jD hs hu q;grind
 ·rcases o with ⟨p,q⟩|⟨p,q⟩|⟨p,q⟩
  ·exact eN hs hu p
  ·rcases mJ nw with hw|hw
   ·have:=jD hu hw p;grind
   ·exact b2 hu hs hw c (iC hw hs q) (by grind)
  ·exact eN hs hu q
 ·rcases o with ⟨p,q⟩|⟨p,q⟩|⟨p,q⟩
  ·rcases mJ nw with hw|hw
   ·exact eN hu hw q
   ·have:=iC hu hw q;grind
  ·rcases mJ nw with hw|hw
   ·exact eN hu hw p
   ·have:=iC hu hw p;grind
  ·rcases mJ nw with hw|hw
   ·exact b4 hu hs hw c (jD hw hs p) (by grind)
   ·exact eN hw hs p
 ·rcases o with ⟨p,q⟩|⟨p,q⟩|⟨p,q⟩
  ·have:=iC hs hu p;grind
  ·rcases mJ nw with hw|hw
   ·exact eN hu hw p
   ·have:=iC hu hw p;grind
  ·have:=iC hs hu q;grind
section
variable {D:List V2} (h:MQ D)
include h
theorem Tn {i k:Nat}{u w s:V2}(hi:D[i]?=some u)(hw:D[(i+1)%D.length]?=some w)(hk:D[k]?=some s)
  (n1:k≠i)(n2:k≠(i+1)%D.length):sP s u/\sP u w\/sP u w/\sP w s\/sP w s/\sP s u:=by
 have li:i<D.length:=(List.getElem?_eq_some_iff.1 hi).1;have c:k<D.length:=(List.getElem?_eq_some_iff.1 hk).1;by_cases b:i+1<D.length
 ·rw [Nat.mod_eq_of_lt b] at hw n2;by_cases a:k<i
  ·exact .inl ⟨zu h hk hi a,zu h hi hw (by omega)⟩
  ·exact .inr (.inl ⟨zu h hi hw (by omega),zu h hw hk (by omega)⟩)
 ·have:i+1=D.length:=by omega
  rw [this,Nat.mod_self] at hw n2;exact .inr (.inr ⟨zu h hw hk (by omega),zu h hk hi (by omega)⟩)
theorem O3 {i:Nat}{u w v':V2}(hi:D[i]?=some u)(hw:D[(i+1)%D.length]?=some w)(hs:Gv u w v') :
  ∀r∈D,cr r v'≠0:=by
 intro r f z;have hu:u∈D:=List.mem_of_getElem? hi;have m:w∈D:=List.mem_of_getElem? hw;have n:=sq_pos (h.nz u hu);have o:=sq_pos (h.nz r f);rcases hs with ⟨c,a,b,a0,b0,rfl⟩|⟨c,a,a0,rfl⟩
 ·
  have key:∀s∈D,cr s (KR a u b w)=0->cr u s>0->False:=fun s hs z p=>by
   have s1:=gu u s;rw [Ei,s1] at z
   have q:cr s w>0:=by
    by_cases q:cr s w>0
    ·exact q
    ·have:=mp a0 p;have:=mn (show b≥0 by grind) (show -(cr s w)≥0 by grind);grind
   obtain ⟨k,d⟩:=List.getElem?_of_mem hs;refine PF (h.nz u hu) (h.nz w m) (h.nz s hs) (Tn h hi hw d (fun e=>?_) (fun e=>?_)) p q c
   ·rw [e,hi] at d;cases d;unfold cr at p;grind
   ·rw [e,hw] at d;cases d;unfold cr at q;grind
  by_cases p:cr u r>0
  ·exact key r f z p
  ·obtain ⟨s,hs,g⟩:=h.cl r f;obtain ⟨k,j,t,l⟩:=AD g u;obtain ⟨A,v,x,_⟩:=AD g (KR a u b w);by_cases q:cr u r=0
   ·have s1:=gu u r;rw [Ei,s1,q] at z;have:b*cr r w=0:=by grind
    have y:cr r w=0:=by rcases Rat.mul_eq_zero.1 this with e|e<;>grind
    have B:=Ox u w r;have C:=ED u w r;have:=Q7 (h.nz r f) (c:=cr u w) (by grind) (by grind);grind
   ·refine key s hs (by rw [x,z];grind) ?_;rw [l];have:=mp j (show -(cr u r)>0 by grind);grind
 ·have key:∀s∈D,cr u s>0->False:=fun s hs p=>by
   obtain ⟨k,d⟩:=List.getElem?_of_mem hs;refine MZ (h.nz u hu) (h.nz w m) (h.nz s hs) (Tn h hi hw d (fun e=>?_) (fun e=>?_)) p c
   ·rw [e,hi] at d;cases d;unfold cr at p;grind
   ·rw [e,hw] at d;cases d;grind
  rw [Ei,N4] at z
  have d0:dt r u=0:=by
   have:a*dt r u=0:=by grind
   rcases Rat.mul_eq_zero.1 this with e|e<;>grind
  have E:cr u r≠0:=fun e=>by
   have:cr u r*cr u r+dt r u*dt r u=dt u u*dt r r:=by unfold cr dt;grind
   have:=mp n o;grind
  by_cases p:cr u r>0
  ·exact key r f p
  ·obtain ⟨s,hs,g⟩:=h.cl r f;obtain ⟨k,j,t,l⟩:=AD g u;refine key s hs ?_;rw [l];have:=mp j (show -(cr u r)>0 by grind);grind
def Se (D S:List V2):Prop:=(D=[]/\S=[(1,0)])\/D≠[]/\(∀x∈S,∃i u w,D[i]?=some u/\D[(i+1)%D.length]?=some w/\Gv u w x) /\
 ∀i u w,D[i]?=some u->D[(i+1)%D.length]?=some w->∃x∈S,Gv u w x
theorem Mt {S:List V2}(hS:Se D S):∀x∈S,∀r∈D,cr r x≠0:=by
 rcases hS with ⟨rfl,rfl⟩|⟨_,d,_⟩
 ·intro x _ r e;cases e
 ·intro x f;obtain ⟨i,u,w,a,b,c⟩:=d x f;exact O3 h a b c
end
end Go.Proofs.Tryz.br
namespace Go.Proofs.Tryz
open Go.Eng
def NQ (V:View)(g:Nat)(y:Value):Prop:=V.at ⟨g,0,none⟩ y
theorem NQ.le {V V':View}{g:Nat}{y:Value}(h:NQ V g y)(l:V.Le V'):NQ V' g y:=l.at h
section
open Go.RowKit Go.Extern.Stop Go.Stop Go.Extern
end
end Go.Proofs.Tryz
namespace Go.Proofs.Tryz
open Go.Eng Go.Big
def KZ (V:View)(v:Value)(l:L3):Prop:=RL V v l.1 l.2.1 l.2.2\/lR l=false/\∃b1 p n c xs b2 q m e ys b3 s i j zs,v=.agg #[.bool b1,.slice p n c,.bool b2,.slice q m e,.bool b3,.slice s i j]/\RD V p n c xs/\RD V q m e ys/\RD V s i j zs /\
 vJ b1 xs b2 ys b3 zs=false/\(xs.length<=1000000/\ys.length<=1000000/\zs.length<=1000000)/\Sz 1000000 (aW b1 xs:Rat)/\Sz 1000000 (aW b2 ys:Rat)/\Sz 1000000 (aW b3 zs:Rat)
theorem KZ.le {V V':View}{v:Value}{l:L3}(h:KZ V v l)(e:V.Le V'):KZ V' v l:=by
 rcases h with h|⟨a,b1,p,n,c,xs,b2,q,m,b,d,b3,s,i,j,f,hv,g,k,o,r⟩
 ·exact .inl (h.le e)
 ·exact .inr ⟨a,b1,p,n,c,xs,b2,q,m,b,d,b3,s,i,j,f,hv,g.le e,k.le e,o.le e,r⟩
theorem KZ.ok {V:View}{v:Value}{l:L3}(h:KZ V v l)(ho:lR l=true):RL V v l.1 l.2.1 l.2.2:=by
 rcases h with h|⟨h,-⟩
 ·exact h
 ·rw [ho] at h;cases h
def NR (V:View)(vs:List Value)(l:List Nd):Prop:=∀(i:Nat)(d:Nd),l[i]?=some d->∃(b1:Bool)(p1:OA)(n1 c1:Nat)(b2:Bool)(p2:OA)(n2 c2:Nat)(b3:Bool)(p3:OA)(n3 c3:Nat),
 (∀j v,([.bool b1,.slice p1 n1 c1,.bool b2,.slice p2 n2 c2,.bool b3,.slice p3 n3 c3,.int .i64 d.left,.int .i64 d.right]:List Value)[j]?=some v->vs[i*8+j]?=some v) /\
 KZ V (.agg #[.bool b1,.slice p1 n1 c1,.bool b2,.slice p2 n2 c2,.bool b3,.slice p3 n3 c3]) d.ln
theorem NR.le {V V':View}{vs:List Value}{l:List Nd}(h:NR V vs l)(hl:V.Le V'):NR V' vs l:=fun i d a=>by
 obtain ⟨b1,b,c,e,b2,f,g,j,b3,k,m,n,o,p⟩:=h i d a;exact ⟨b1,b,c,e,b2,f,g,j,b3,k,m,n,o,p.le hl⟩
structure NS (V:View) (p:OA) (n c:Nat) (l:List Nd):Prop where
 len:n=l.length
 cap:n<=c
 row:∃vs,V.sl p vs/\NR V vs l
 Jx:p.isNone=true->c=0
theorem NS.le {V V':View}{p:OA}{n c:Nat}{l:List Nd}(h:NS V p n c l)(hl:V.Le V'):NS V' p n c l:=by
 obtain ⟨a,b,⟨d,e,f⟩,g⟩:=h;exact ⟨a,b,⟨d,hl.sl e,f.le hl⟩,g⟩
theorem NS.nil {V:View}:NS V none 0 0 []:=⟨rfl,Nat.le_refl _,⟨[],fun i v h=>by simp at h,fun i d h=>by simp at h⟩,fun _=>rfl⟩
theorem NS.rd {V:View}{p:OA}{n c:Nat}{l:List Nd}(h:NS V p n c l){k:Nat}{d:Nd}(hd:l[k]?=some d) :
  ∃(b1:Bool)(p1:OA)(n1 c1:Nat)(b2:Bool)(p2:OA)(n2 c2:Nat)(b3:Bool)(p3:OA)(n3 c3:Nat)(a:Addr),ah p (k*8)=some a /\
   V.at (a.add 0) (.bool b1)/\V.at (a.add 1) (.slice p1 n1 c1)/\V.at (a.add 2) (.bool b2)/\V.at (a.add 3) (.slice p2 n2 c2)/\V.at (a.add 4) (.bool b3)/\V.at (a.add 5) (.slice p3 n3 c3)/\V.at (a.add 6) (.int .i64 d.left)/\V.at (a.add 7) (.int .i64 d.right) /\
   KZ V (.agg #[.bool b1,.slice p1 n1 c1,.bool b2,.slice p2 n2 c2,.bool b3,.slice p3 n3 c3]) d.ln:=by
 obtain ⟨q,b,g⟩:=h.row;obtain ⟨b1,p1,n1,c1,b2,p2,n2,c2,b3,p3,n3,c3,f,i⟩:=g k d hd;obtain ⟨m,rfl,-⟩:=b _ _ (f 0 _ rfl)
 have key:∀j v,([.bool b1,.slice p1 n1 c1,.bool b2,.slice p2 n2 c2,.bool b3,.slice p3 n3 c3,.int .i64 d.left,.int .i64 d.right]:List Value)[j]?=some v->V.at ((m.add (k*8)).add j) v:=by
  intro j v hv;obtain ⟨r,e,o⟩:=b _ _ (f j v hv);cases e;rw [NV];exact o
 exact ⟨b1,p1,n1,c1,b2,p2,n2,c2,b3,p3,n3,c3,_,rfl,key 0 _ rfl,key 1 _ rfl,key 2 _ rfl,key 3 _ rfl,key 4 _ rfl,key 5 _ rfl,key 6 _ rfl,key 7 _ rfl,i⟩
theorem zJ {vs:List Value}{n b:Nat}(h:vs≠[]):vb vs n b=b:=by cases vs with|nil=>exact absurd rfl h|cons v r=>rfl
theorem NR.push {V:View}{vs sp:List Value}{l:List Nd}(h:NR V vs l)(hl:l.length*8<=vs.length){ln:L3}{x y:Int}{b1:Bool}{p1:OA}{n1 c1:Nat}{b2:Bool}{p2:OA}{n2 c2:Nat}{b3:Bool}{p3:OA}{n3 c3:Nat}
  (hL:RL V (.agg #[.bool b1,.slice p1 n1 c1,.bool b2,.slice p2 n2 c2,.bool b3,.slice p3 n3 c3]) ln.1 ln.2.1 ln.2.2) :
  NR V (vs.take (l.length*8)++[.bool b1,.slice p1 n1 c1,.bool b2,.slice p2 n2 c2,.bool b3,.slice p3 n3 c3,.int .i64 x,.int .i64 y]++sp) (l++[⟨ln,x,y⟩]):=by
 intro i d b;rcases Nat.lt_or_ge i l.length with c|c
 ·rw [List.getElem?_append_left c] at b;obtain ⟨e,r,f,g,k,s,t,m,n,u,w,o,z,A⟩:=h i d b;refine ⟨e,r,f,g,k,s,t,m,n,u,w,o,fun j v hv=>?_,A⟩
  have a:j<8:=by
   rcases Nat.lt_or_ge j 8 with a|a
   ·exact a
   ·rw [List.getElem?_eq_none (by simpa using a)] at hv;cases hv
  have:=z j v hv;rw [List.append_assoc,List.getElem?_append_left (by rw [List.length_take];omega),List.getElem?_take,if_pos (by omega)];exact this
 ·rw [List.getElem?_append_right c] at b
  have p:i=l.length:=by
   rcases Nat.lt_or_ge (i-l.length) 1 with q|q
   ·omega
   ·rw [List.getElem?_eq_none (by simpa using q)] at b;cases b
  subst p;simp only [Nat.sub_self,List.getElem?_cons_zero,Option.some.injEq] at b;subst b;refine ⟨b1,p1,n1,c1,b2,p2,n2,c2,b3,p3,n3,c3,fun j v hv=>?_,.inl hL⟩
  have a:j<8:=by
   rcases Nat.lt_or_ge j 8 with a|a
   ·exact a
   ·rw [List.getElem?_eq_none (by simpa using a)] at hv;cases hv
  rw [List.append_assoc,List.getElem?_append_right (by rw [List.length_take];omega),List.length_take,Nat.min_eq_left hl,Nat.add_sub_cancel_left,List.getElem?_append_left (by simpa using a)];exact hv
theorem NR.take {V:View}{vs:List Value}{l:List Nd}(h:NR V vs l):NR V (vs.take (l.length*8)) l:=by
 intro i d b;obtain ⟨b1,c,e,f,b2,g,k,m,b3,n,o,p,q,r⟩:=h i d b;refine ⟨b1,c,e,f,b2,g,k,m,b3,n,o,p,fun j v hv=>?_,r⟩
 have a:j<8:=by
  rcases Nat.lt_or_ge j 8 with a|a
  ·exact a
  ·rw [List.getElem?_eq_none (by simpa using a)] at hv;cases hv
 have s:i<l.length:=by
  rcases Nat.lt_or_ge i l.length with h|h
  ·exact h
  ·rw [List.getElem?_eq_none h] at b;cases b
 rw [List.getElem?_take,if_pos (by omega)];exact q j v hv
def AT (V:View)(v:Value)(root:Int)(l:List Nd):Prop:=∃q n c,v=.agg #[.int .i64 root,.slice q n c]/\NS V q n c l
theorem AT.le {V V':View}{v:Value}{root:Int}{l:List Nd}(h:AT V v root l)(hl:V.Le V'):AT V' v root l:=by
 obtain ⟨q,n,c,e,h⟩:=h;exact ⟨q,n,c,e,h.le hl⟩
theorem AT.zero {V:View}:AT V (.agg #[.int .i64 0,.slice none 0 0]) 0 []:=⟨_,_,_,rfl,NS.nil⟩
def Tr.depth:Tr->Nat
 | .leaf _=>0
 | .node _ a b=>1+max a.depth b.depth
def Tr.ins:Tr->Nat
 | .leaf i=>if i then 1 else 0
 | .node _ a b=>a.ins+b.ins
def Uc:Tr->Int
 | .leaf i=>if i then 0 else 1
 | .node ..=>0
theorem SK (k:Nat)(hk:0<k):Sz k (0:Rat):=⟨by show (0:Int).natAbs<_;exact Nat.lt_of_lt_of_le (by decide) (Nat.one_le_two_pow),Nat.one_lt_two_pow (by omega)⟩
theorem D2 {V:View}{v w:Value}{x y:Rat}(hx:RR V v x)(hy:RR V w y){k:Nat}(sx:Sz k x)(sy:Sz k y)(hk:2*k<1099511627776) :
  ae prog 201 #[v,w] V fun r V'=>RR V' r (EK x y):=by
 have g:=hx;have i:=hy;obtain ⟨a,b,c,rfl⟩:=hx.shape;obtain ⟨d,e,f,rfl⟩:=hy.shape;refine Df a b c d e f V _ fun o j=>(eI (i.le j) (g.le j) sy sx (by omega)).mono ?_;rintro r V2 l rfl;unfold EK;exact ⟨_,rfl,fun h p m=>by rw [if_pos (of_decide_eq_true h)];exact i.le (j.trans (l.trans m)),fun h q n=>by rw [if_neg (of_decide_eq_false h)];exact g.le (j.trans (l.trans n))⟩
theorem D3 {V:View}{v w:Value}{x y:Rat}(hx:RR V v x)(hy:RR V w y){k:Nat}(sx:Sz k x)(sy:Sz k y)(hk:2*k<1099511627776) :
  ae prog 202 #[v,w] V fun r V'=>RR V' r (EN x y):=by
 have g:=hx;have i:=hy;obtain ⟨a,b,c,rfl⟩:=hx.shape;obtain ⟨d,e,f,rfl⟩:=hy.shape;refine Dg a b c d e f V _ fun o j=>(eI (i.le j) (g.le j) sy sx (by omega)).mono ?_;rintro r V2 l rfl;unfold EN;exact ⟨_,rfl,fun h p m=>by rw [if_pos (of_decide_eq_true h)];exact i.le (j.trans (l.trans m)),fun h q n=>by rw [if_neg (of_decide_eq_false h)];exact g.le (j.trans (l.trans n))⟩
theorem Sp.Ax {v w:Sp}{k:Nat}(h1:v.sz k)(h2:w.sz k):(v.meet w).sz k:=by
 unfold Sp.meet Sp.sz EK EN;constructor<;>dsimp only
 ·split
  ·exact h2.1
  ·split
   ·exact h1.1
   ·split
    ·exact h2.1
    ·exact h1.1
 ·split
  ·exact h2.2
  ·split
   ·exact h1.2
   ·split
    ·exact h2.2
    ·exact h1.2
theorem yI {V:View}{v w:Value}{s t:Sp}(h:lU V v s)(h':lU V w t){k:Nat}(hs:s.sz k)(ht:t.sz k)(hk:2*k<1099511627776) :
  ae prog 161 #[v,w] V fun r V'=>∃u,r=.tuple #[u,.bool (!(s.meet t).emp)]/\lU V' u (s.meet t):=by
 obtain ⟨S,T,p,l,m,q,rfl,U,y⟩:=h;obtain ⟨W,X,o,Y,Z,j,rfl,g1,g2⟩:=h';have Uc:s.a=true->(s.meet t).lo=t.lo/\(s.meet t).a=t.a:=fun e=>by simp [Sp.meet,e]
 have C:s.a=false->t.a=false->(s.meet t).lo=EK s.lo t.lo:=fun e f=>by simp [Sp.meet,e,f]
 have D:s.a=false->t.a=true->(s.meet t).lo=s.lo:=fun e f=>by simp [Sp.meet,e,f]
 have W_:s.a=false->(s.meet t).a=s.a:=fun e=>by simp [Sp.meet,e]
 have n:s.b=true->(s.meet t).hi=t.hi/\(s.meet t).b=t.b:=fun e=>by simp [Sp.meet,e]
 have E:s.b=false->t.b=false->(s.meet t).hi=EN s.hi t.hi:=fun e f=>by simp [Sp.meet,e,f]
 have F:s.b=false->t.b=true->(s.meet t).hi=s.hi:=fun e f=>by simp [Sp.meet,e,f]
 have x:s.b=false->(s.meet t).b=s.b:=fun e=>by simp [Sp.meet,e]
 refine wu S T p l m q s.a s.b W X o Y Z j t.a t.b V _ ⟨fun z i=>RR i (.agg #[.int .i64 z.1,.int .i64 z.2.1,.pointer z.2.2.1]) (s.meet t).lo/\RR i (.agg #[.int .i64 z.2.2.2.1,.int .i64 z.2.2.2.2.1,.pointer z.2.2.2.2.2.1]) s.hi/\z.2.2.2.2.2.2.1=(s.meet t).a/\z.2.2.2.2.2.2.2=s.b,⟨fun c=>?_,fun c=>⟨fun d i G=>(D2 (U.le G) (g1.le G) hs.1 ht.1 hk).mono ?_,fun d=>?_⟩⟩,?_⟩
 ·refine ⟨(W,X,o,l,m,q,t.a,s.b),by and_intros<;>rfl,?_,y,(Uc c).2.symm,rfl⟩;rw [(Uc c).1];exact g1
 ·rintro r V2 l2 g;rw [Bool.not_eq_true'] at d;have H:=g;obtain ⟨I,J,K,rfl⟩:=g.shape;refine ⟨_,_,_,rfl,(I,J,K,l,m,q,s.a,s.b),by and_intros<;>rfl,?_,y.le (G.trans l2),(W_ c).symm,rfl⟩;rw [C c d];exact H
 ·rw [Bool.not_eq_false'] at d;refine ⟨(S,T,p,l,m,q,s.a,s.b),by and_intros<;>rfl,?_,y,(W_ c).symm,rfl⟩;rw [D c d];exact U
 ·rintro ⟨L,M,N,z4,z5,z6,z7,z8⟩ V3 O ⟨A,k2,k3,k4⟩;dsimp only at A k2 k3 k4;subst k3 k4;refine ⟨rfl,fun z i=>RR i (.agg #[.int .i64 z.1,.int .i64 z.2.1,.pointer z.2.2.1]) (s.meet t).lo/\RR i (.agg #[.int .i64 z.2.2.2.1,.int .i64 z.2.2.2.2.1,.pointer z.2.2.2.2.2.1]) (s.meet t).hi/\z.2.2.2.2.2.2.1=(s.meet t).a/\z.2.2.2.2.2.2.2=(s.meet t).b,⟨fun c=>?_,fun c=>⟨fun d V4 P=>(D3 (y.le (O.trans P)) (g2.le (O.trans P)) hs.2 ht.2 hk).mono ?_,fun d=>?_⟩⟩,?_⟩
  ·refine ⟨(L,M,N,Y,Z,j,(s.meet t).a,t.b),by and_intros<;>rfl,A,?_,rfl,(n c).2.symm⟩;rw [(n c).1];exact g2.le O
  ·rintro r V5 l5 g;rw [Bool.not_eq_true'] at d;have H:=g;obtain ⟨I,J,K,rfl⟩:=g.shape;refine ⟨_,_,_,rfl,(L,M,N,I,J,K,(s.meet t).a,s.b),by and_intros<;>rfl,A.le (P.trans l5),?_,rfl,(x c).symm⟩;rw [E c d];exact H
  ·rw [Bool.not_eq_false'] at d;refine ⟨(L,M,N,z4,z5,z6,(s.meet t).a,s.b),by and_intros<;>rfl,A,?_,rfl,(x c).symm⟩;rw [F c d];exact k2
  ·rintro ⟨l,m,y3,y4,y5,y6,y7,y8⟩ V6 l6 ⟨Q,R,j3,j4⟩;dsimp only at Q R j3 j4;subst j3 j4;refine ⟨rfl,fun V7 B=>(uD ⟨_,_,_,_,_,_,rfl,Q.le B,R.le B⟩ (Sp.Ax hs ht) hk).mono ?_⟩;rintro r V8 l8 rfl;exact ⟨_,rfl,fun V9 l9=>⟨_,rfl,_,_,_,_,_,_,rfl,Q.le (B.trans (l8.trans l9)),R.le (B.trans (l8.trans l9))⟩⟩
theorem ni {L M:L3}{k:Nat}(sl:eh k L)(sm:eh k M):Sz (4*k+3) (dotL M L):=bA sm.1 sm.2.1 sl.2.1 sl.1.neg
theorem Ic {L M:L3}:(((M.1:Rat)*((L.1:Rat)*(((-(L.2.2:Rat))*(((L.1:Rat)*(L.1:Rat))+((L.2.1:Rat)*(L.2.1:Rat)))⁻¹))))+((M.2.1:Rat)*((L.2.1:Rat)*(((-(L.2.2:Rat))*(((L.1:Rat)*(L.1:Rat))+((L.2.1:Rat)*(L.2.1:Rat)))⁻¹)))))+(M.2.2:Rat)=uz M L:=by
 unfold uz bg BB BC fD;grind
theorem nh {L M:L3}{k:Nat}(sl:eh k L)(sm:eh k M):Sz (50*k+49) (uz M L):=by
 rw [←Ic];exact Sz.mono (kz (k:=10*k+9) (sm.1.mono (by omega)) (sm.2.1.mono (by omega)) (sm.2.2.mono (by omega)) (df sl.1 sl.2.1 sl.2.2) (dg sl.1 sl.2.1 sl.2.2)) (by omega)
theorem uh {L M:L3}{k:Nat}(sl:eh k L)(sm:eh k M):Sz (60*k+60) (cutP M L):=Sz.mono ((nh sl sm).mul (jL (ni sl sm))).neg (by omega)
theorem Mz {L M:L3}{s:Sp}{k:Nat}(sl:eh k L)(hs:s.sz k)(sm:eh k M):(iJ L s M).sz (60*k+60):=by
 have a:s.sz (60*k+60):=⟨hs.1.mono (by omega),hs.2.mono (by omega)⟩;have z:=SK (60*k+60) (by omega);unfold iJ;split
 ·exact a
 ·split
  ·exact Sp.Ax a ⟨uh sl sm,z⟩
  ·exact Sp.Ax a ⟨z,uh sl sm⟩
theorem uE {V:View}{l v m:Value}{L:L3}{s:Sp}{M:L3}(hl:pg V l L)(hv:lU V v s)(hm:pg V m M){k:Nat}(sl:eh k L)(hs:s.sz k)(sm:eh k M)(hk:200*k+200<274877906944) :
  ae prog 92 #[l,v,m] V fun r V'=>∃w,r=.tuple #[w,.bool (lN L s M)]/\lU V' w (iJ L s M):=by
 have f:=hl;have b:=hv;have g:=hm;obtain ⟨_,_,_,_,_,_,_,_,_,rfl,-,-,-⟩:=hl;obtain ⟨_,_,_,_,_,_,rfl,-,-⟩:=hv;obtain ⟨_,_,_,_,_,_,_,_,_,rfl,-,-,-⟩:=hm;have h:s.sz (60*k+60):=⟨hs.1.mono (by omega),hs.2.mono (by omega)⟩;have z:=SK (60*k+60) (by omega);refine xW _ _ _ _ _ _ _ _ _ _ _ _ _ _ _ _ _ _ _ _ _ _ _ _ _ _ V _ fun V1 x=>(gQ (g.le x) sm.1 sm.2.1 sm.2.2 (by omega)).mono ?_;rintro r V2 X Y;have y:=Y;obtain ⟨_,_,_,_,_,_,rfl,-,-⟩:=Y;refine ⟨_,_,_,_,_,_,rfl,fun V3 A=>(kI (f.le (x.trans (X.trans A))) sl.1 sl.2.1 sl.2.2 (by omega)).mono ?_⟩;rintro r V4 Z g2;have B:=g2;obtain ⟨_,_,_,_,_,_,rfl,-,-⟩:=g2;refine ⟨_,_,_,_,_,_,rfl,fun V5 C=>(dL (y.le (A.trans (Z.trans C))) (B.le C) sm.1 sm.2.1 sl.2.1 sl.1.neg (by omega)).mono ?_⟩;rintro r D l6 g3;have E:RR D r (dotL M L):=g3;obtain ⟨_,_,_,rfl⟩:=g3.shape;have i:V.Le D:=x.trans (X.trans (A.trans (Z.trans (C.trans l6))));refine ⟨_,_,_,rfl,fun V7 F=>(nJ (f.le (i.trans F)) sl.1 sl.2.1 sl.2.2 (by omega)).mono ?_⟩;rintro r V8 l8 g4;have KN:=g4;obtain ⟨_,_,_,_,_,_,rfl,-,-⟩:=g4;refine ⟨_,_,_,_,_,_,rfl,fun V9 G=>(lY (k:=10*k+9) (g.le (i.trans (F.trans (l8.trans G)))) (KN.le G) (sm.1.mono (by omega)) (sm.2.1.mono (by omega)) (sm.2.2.mono (by omega)) (df sl.1 sl.2.1 sl.2.2) (dg sl.1 sl.2.1 sl.2.2) (by omega)).mono ?_⟩;rintro r hZ H I;rw [Ic] at I;have J:=I;obtain ⟨_,_,_,rfl⟩:=I.shape;have e:D.Le hZ:=F.trans (l8.trans (G.trans H));refine ⟨_,_,_,rfl,fun gN bL=>(pA (E.le (e.trans bL)) (ni sl sm) (by omega)).mono ?_⟩;rintro r jg cY rfl;have a:hZ.Le jg:=bL.trans cY;refine ⟨_,rfl,fun c ph cN=>(pA (J.le (a.trans cN)) (nh sl sm) (by omega)).mono ?_,fun c=>⟨fun K nG N=>(tX (J.le (a.trans N)) (E.le (e.trans (a.trans N))) (nh sl sm) (ni sl sm) (by omega)).mono ?_,fun K GA O=>(tX (J.le (a.trans O)) (E.le (e.trans (a.trans O))) (nh sl sm) (ni sl sm) (by omega)).mono ?_⟩⟩
 ·rintro r lC fo rfl;have j:lN L s M=decide ((uz M L).num.sign>0):=by unfold lN;rw [if_pos c]
  have d:iJ L s M=s:=by unfold iJ;rw [if_pos c]
  rw [j,d];exact ⟨_,rfl,fun lD dY=>⟨_,rfl,b.le (i.trans (e.trans (a.trans (cN.trans (fo.trans dY)))))⟩⟩
 ·have d:iJ L s M=s.meet ⟨cutP M L,0,false,true⟩:=by unfold iJ;rw [if_neg (by rw [c];exact Bool.false_ne_true),if_pos K]
  have j:lN L s M=!(s.meet ⟨cutP M L,0,false,true⟩).emp:=by rw [←d];unfold lN;rw [if_neg (by rw [c];exact Bool.false_ne_true)]
  rw [j,d];rintro r qH P n;have Q:=n;obtain ⟨_,_,_,rfl⟩:=n.shape;refine ⟨_,_,_,rfl,fun wY o=>(gg (Q.le o) ((nh sl sm).mul (jL (ni sl sm))) (by omega)).mono ?_⟩;rintro r R S p;have T:RR R r (cutP M L):=p;obtain ⟨_,_,_,rfl⟩:=p.shape;refine ⟨_,_,_,rfl,fun Bl q=>(yI (t:=⟨cutP M L,0,false,true⟩) (b.le (i.trans (e.trans (a.trans (N.trans (P.trans (o.trans (S.trans q)))))))) ⟨_,_,_,_,_,_,rfl,T.le q,RR.zero _⟩ h ⟨uh sl sm,z⟩ (by omega)).mono ?_⟩;rintro r Br jT ⟨w,rfl,u⟩;have U:=u;obtain ⟨_,_,_,_,_,_,rfl,-,-⟩:=u;exact ⟨_,_,_,_,_,_,_,_,_,rfl,fun DL W=>⟨_,rfl,U.le W⟩⟩
 ·have d:iJ L s M=s.meet ⟨0,cutP M L,true,false⟩:=by unfold iJ;rw [if_neg (by rw [c];exact Bool.false_ne_true),if_neg (by rw [K];exact Bool.false_ne_true)]
  have j:lN L s M=!(s.meet ⟨0,cutP M L,true,false⟩).emp:=by rw [←d];unfold lN;rw [if_neg (by rw [c];exact Bool.false_ne_true)]
  rw [j,d];rintro r qH P n;have Q:=n;obtain ⟨_,_,_,rfl⟩:=n.shape;refine ⟨_,_,_,rfl,fun wY o=>(gg (Q.le o) ((nh sl sm).mul (jL (ni sl sm))) (by omega)).mono ?_⟩;rintro r R S p;have T:RR R r (cutP M L):=p;obtain ⟨_,_,_,rfl⟩:=p.shape;refine ⟨_,_,_,rfl,fun Bl q=>(yI (t:=⟨0,cutP M L,true,false⟩) (b.le (i.trans (e.trans (a.trans (O.trans (P.trans (o.trans (S.trans q)))))))) ⟨_,_,_,_,_,_,rfl,RR.zero _,T.le q⟩ h ⟨z,uh sl sm⟩ (by omega)).mono ?_⟩;rintro r Br jT ⟨w,rfl,u⟩;have U:=u;obtain ⟨_,_,_,_,_,_,rfl,-,-⟩:=u;exact ⟨_,_,_,_,_,_,_,_,_,rfl,fun DL W=>⟨_,rfl,U.le W⟩⟩
structure kA (V:View) (p:OA) (n:Nat) (fs:List (L3×Sp)):Prop where
 len:n=fs.length
 at_:∀(i:Nat)(h:i<fs.length),∃ad,ah p (i*17)=some ad/\∃xs:List Value,lT V (.agg xs.toArray) fs[i].1 fs[i].2/\∀j x,xs[j]?=some x->V.at (ad.add j) x
theorem kA.le {V V':View}{p:OA}{n:Nat}{fs:List (L3×Sp)}(h:kA V p n fs)(e:V.Le V'):kA V' p n fs:=⟨h.len,fun i a=>by obtain ⟨b,c,xs,d,f⟩:=h.at_ i a;exact ⟨b,c,xs,d.le e,fun j x g=>e.at (f j x g)⟩⟩
theorem kA.nil {V:View}:kA V none 0 []:=⟨rfl,fun i a=>by simp at a⟩
theorem kA.one {V:View}{bk:Nat}{xs:List Value}{ty:TypeId}{l:L3}{s:Sp}(hb:V.bC bk (.cells xs.toArray ty (0,0)))(hf:lT V (.agg xs.toArray) l s):kA V (some ⟨bk,0,none⟩) 1 [(l,s)]:=by
 refine ⟨rfl,fun i a=>?_⟩;obtain rfl:i=0:=by simpa using a
 refine ⟨⟨bk,0,none⟩,by simp [ah,add_zero'],_,hf,fun j x b=>?_⟩;rw [add_zero'];exact eO hb b
def sideF (l:L3)(s:Sp)(m:L3):List (L3×Sp):=if lN l s m=true then [(l,iJ l s m)] else []
theorem rC {l:L3}{s:Sp}{m:L3}(h:lN l s m=true):sideF l s m=[(l,iJ l s m)]:=if_pos h
theorem rB {l:L3}{s:Sp}{m:L3}(h:lN l s m=false):sideF l s m=[]:=if_neg (by rw [h];exact Bool.false_ne_true)
theorem DY {V:View}{v w:Value}{L:L3}{s:Sp}{M:L3}(h:lT V v L s)(hm:pg V w M){k:Nat}(sl:eh k L)(hs:s.sz k)(sm:eh k M)(hk:200*k+200<274877906944) :
  ae prog 41 #[v,w] V fun r V'=>∃p n c q m e,r=.tuple #[.slice p n c,.slice q m e]/\kA V' p n (sideF L s M)/\kA V' q m (sideF L s (revL M)):=by
 have j:=hm;obtain ⟨_,_,_,_,_,_,_,_,_,_,_,_,_,_,_,rfl,E,J⟩:=h;obtain ⟨_,_,_,_,_,_,_,_,_,rfl,-,-,-⟩:=hm;refine tC _ _ _ _ _ _ _ _ _ _ _ _ _ _ _ _ _ _ _ _ _ _ _ _ _ _ V _ fun Z F=>(uE (E.le F) (J.le F) (j.le F) sl hs sm hk).mono ?_;rintro r V2 T ⟨u,rfl,S⟩;have B:=S;obtain ⟨_,_,_,_,_,_,rfl,-,-⟩:=S;have f:=F.trans T;have G:∀{V':View} {t:Sp} {x1 x2 p y1 y2 q},V.Le V'->lU V' (.agg #[.int .i64 x1,.int .i64 x2,.pointer p,.int .i64 y1,.int .i64 y2,.pointer q,.bool t.a,.bool t.b]) t->lT V' (.agg #[_,_,_,_,_,_,_,_,_,.int .i64 x1,.int .i64 x2,.pointer p,.int .i64 y1,.int .i64 y2,.pointer q,.bool t.a,.bool t.b]) L t:=fun l g=>⟨_,_,_,_,_,_,_,_,_,_,_,_,_,_,_,rfl,E.le l,g⟩;refine ⟨_,_,_,_,_,_,_,_,_,rfl,fun K V3 H=>(zm (j.le (f.trans H)) sm (by omega)).mono ?_,fun K V9 I=>(zm (j.le (f.trans I)) sm (by omega)).mono ?_⟩
 ·rw [rC K];rintro r U o C;have x:=C;obtain ⟨_,_,_,_,_,_,_,_,_,rfl,-,-,-⟩:=C;refine ⟨_,_,_,_,_,_,_,_,_,rfl,fun W i=>(uE (E.le (f.trans (H.trans (o.trans i)))) (J.le (f.trans (H.trans (o.trans i)))) (x.le i) sl hs sm.rev hk).mono ?_⟩;rintro r N O ⟨u,rfl,D⟩;have P:=D;obtain ⟨_,_,_,_,_,_,rfl,-,-⟩:=D;have y:V2.Le N:=H.trans (o.trans (i.trans O));refine ⟨_,_,_,_,_,_,_,_,_,rfl,fun z X A b1 b2 d Q=>?_,fun z Y R b1 d=>?_⟩
  ·rw [rC z];exact ⟨_,_,_,_,_,_,rfl,kA.one d (G (f.trans (y.trans A)) (B.le (y.trans A))),kA.one Q (G (f.trans (y.trans A)) (P.le A))⟩
  ·rw [rB z];exact ⟨_,_,_,_,_,_,rfl,kA.one d (G (f.trans (y.trans R)) (B.le (y.trans R))),kA.nil⟩
 ·rw [rB K];rintro r U o C;have x:=C;obtain ⟨_,_,_,_,_,_,_,_,_,rfl,-,-,-⟩:=C;refine ⟨_,_,_,_,_,_,_,_,_,rfl,fun W i=>(uE (E.le (f.trans (I.trans (o.trans i)))) (J.le (f.trans (I.trans (o.trans i)))) (x.le i) sl hs sm.rev hk).mono ?_⟩;rintro r N O ⟨u,rfl,D⟩;have P:=D;obtain ⟨_,_,_,_,_,_,rfl,-,-⟩:=D;have y:V2.Le N:=I.trans (o.trans (i.trans O));refine ⟨_,_,_,_,_,_,_,_,_,rfl,fun z X A b1 d=>?_,fun z Y R=>?_⟩
  ·rw [rC z];exact ⟨_,_,_,_,_,_,rfl,kA.nil,kA.one d (G (f.trans (y.trans A)) (P.le A))⟩
  ·rw [rB z];exact ⟨_,_,_,_,_,_,rfl,kA.nil,kA.nil⟩
theorem kE {V:View}{p:OA}{n c:Nat}{fs:List (L3×Sp)}(h:kA V p n fs)(hn:fs.length<=1000){k:Nat}(hs:∀f∈fs,eh k f.1/\f.2.sz k)(hk:k<=1099511627776) :
  ae prog 42 #[.slice p n c] V fun r V'=>∃q m e,r=.slice q m e/\oe V' q m fs:=by
 obtain rfl:=h.len
 refine tJ p _ c V _ ⟨fun z V'=>∃j:Nat,z.2.2.2=(j:Int)/\j<=fs.length/\z.1=j/\j<=z.2.1/\z.2.1*14<=z.2.2.1.length/\∀(i:Nat)(_:i<j)(l:i<fs.length),∃xs:List Value,xs.length=14/\xi V' (.agg xs.toArray) fs[i].1 fs[i].2/\∀q x,xs[q]?=some x->z.2.2.1[i*14+q]?=some x,
  fun z=>fs.length-z.2.2.2.toNat,⟨(0,0,[],0),by and_intros<;>rfl,0,rfl,Nat.zero_le _,rfl,Nat.le_refl _,Nat.le_refl _,fun i l=>absurd l (Nat.not_lt_zero i)⟩,?_⟩
 rintro ⟨b,O,u,z4⟩ V1 P ⟨j,H,Pu,I,J,hv,y⟩;dsimp only at H I J hv y;subst H I;refine ⟨rfl,fun d=>?_,fun d V4 Q A R=>?_⟩
 ·have d:(b:Int)<fs.length:=of_decide_eq_true d;have l:b<fs.length:=by omega
  obtain ⟨S,K,xs,L,a⟩:=(h.le P).at_ b l;have w:i64.wrap ((b:Int)+1)=(b:Int)+1:=aw (by omega);dsimp only;rw [Int.toNat_natCast,w];have B:=L;obtain ⟨_,_,_,_,_,_,_,_,_,_,_,_,_,_,_,ex,-,-⟩:=L;have ex:=congrArg Array.toList (Value.agg.inj ex);dsimp only at ex;subst ex;obtain ⟨s1,s2⟩:=hs _ (List.getElem_mem l);refine ⟨cB K,⟨by omega,by omega⟩,_,_,_,_,_,_,_,_,_,_,_,_,_,_,_,_,_,S,K,a 0 _ rfl,a 1 _ rfl,a 2 _ rfl,a 3 _ rfl,a 4 _ rfl,a 5 _ rfl,a 6 _ rfl,a 7 _ rfl,a 8 _ rfl,a 9 _ rfl,a 10 _ rfl,a 11 _ rfl,a 12 _ rfl,a 13 _ rfl,a 14 _ rfl,a 15 _ rfl,a 16 _ rfl,fun V2 M=>(BJ (B.le M) s1 s2 hk).mono ?_⟩;rintro r V3 T g;have U:=g;obtain ⟨_,_,_,_,_,_,_,_,_,_,_,_,_,_,_,_,_,_,_,_,_,_,_,_,_,_,rfl⟩:=dz g;refine ⟨_,_,_,_,_,_,_,_,_,_,_,_,_,_,_,_,_,_,_,_,_,_,_,_,_,_,_,_,rfl,by omega,J,hv,rfl,?_,?_⟩
  ·intro v hm;simp only [List.mem_cons,List.not_mem_nil,or_false] at hm;rcases hm with rfl|rfl|rfl|rfl|rfl|rfl|rfl|rfl|rfl|rfl|rfl|rfl|rfl|rfl<;>rfl
  ·intro sp W X h2;refine ⟨(b+1,W,_,(b:Int)+1),by dsimp only;omega,by and_intros<;>rfl,b+1,rfl,l,rfl,X,?_,?_⟩
   ·dsimp only;have t:(u.take (b*14)).length=b*14:=by rw [List.length_take];omega
    rw [List.length_append,List.length_append,t];simp only [List.length_cons,List.length_nil];omega
   ·intro i Y C;dsimp only;have t:(u.take (b*14)).length=b*14:=by rw [List.length_take];omega
    by_cases o:i=b
    ·subst o;refine ⟨_,rfl,U,fun q x s=>?_⟩;rw [List.append_assoc,List.getElem?_append_right (by rw [t];omega),t,Nat.add_sub_cancel_left];have:q<14:=(List.getElem?_eq_some_iff.1 s).1;rw [List.getElem?_append_left (by exact this)];exact s
    ·obtain ⟨D,N,E,F⟩:=y i (by omega) C;refine ⟨D,N,E.le (M.trans T),fun q x s=>?_⟩;have:q<14:=by have:=(List.getElem?_eq_some_iff.1 s).1;omega
     rw [List.append_assoc,List.getElem?_append_left (by rw [t];omega),List.getElem?_take,if_pos (by omega)];exact F q x s
 ·have d:¬(b:Int)<fs.length:=of_decide_eq_false d;obtain rfl:b=fs.length:=by omega
  refine ⟨_,_,_,rfl,rfl,fun i l=>?_⟩;have Z:O≠0:=by omega
  have G:u≠[]:=fun e=>by rw [e] at hv;simp at hv;omega
  obtain ⟨D,N,E,F⟩:=y i l l;refine ⟨⟨A,i*14,none⟩,by simp [mA,Z,ah,add_zero'],D,E.le Q,fun q x s=>?_⟩;have hj:(⟨A,i*14,none⟩:Addr).add q=⟨A,i*14+q,none⟩:=by rw [←add_zero',hJ,add_zero']
  rw [hj];exact eO (R G) (F q x s)
theorem zF (l:L3)(s:Sp)(m:L3):(sideF l s m).length<=1000:=by unfold sideF;split<;>simp
theorem qj {l:L3}{s:Sp}{m:L3}{k:Nat}(sl:eh k l)(hs:s.sz k)(sm:eh k m):∀f∈sideF l s m,eh (60*k+60) f.1/\f.2.sz (60*k+60):=by
 intro f a;unfold sideF at a;split at a
 ·rw [List.mem_singleton] at a;subst a;exact ⟨⟨sl.1.mono (by omega),sl.2.1.mono (by omega),sl.2.2.mono (by omega)⟩,Mz sl hs sm⟩
 ·simp at a
theorem Lg {V:View}{v w:Value}{l:L3}{s:Sp}{m:L3}(h:xi V v l s)(hm:RL V w m.1 m.2.1 m.2.2)(ho:HS l s)(Za:lR m=true){k:Nat}(sl:eh k l)(hs:s.sz k)(sm:eh k m)(hk:400*k+400<274877906944) :
  ae prog 12 #[v,w] V fun r V'=>∃p n c q i e,r=.tuple #[.slice p n c,.slice q i e,.nilIface]/\oe V' p n (sideF l s m)/\oe V' q i (sideF l s (revL m)):=by
 have B:=h;have a:=hm;obtain ⟨_,_,_,_,_,_,_,_,_,_,_,_,_,_,_,_,_,_,_,_,_,_,_,_,_,_,rfl⟩:=dz h;obtain ⟨_,_,_,_,_,_,_,_,_,_,_,_,rfl⟩:=gI hm;refine qw _ _ _ _ _ _ _ _ _ _ _ _ _ _ _ _ _ _ _ _ _ _ _ _ _ _ _ _ _ _ _ _ _ _ _ _ _ _ _ _ V _ fun H g=>(j8 (B.le g) ho sl hs (by omega)).mono ?_;rintro r V2 C ⟨u,rfl,j⟩;have b:=j;obtain ⟨_,_,_,_,_,_,_,_,_,_,_,_,_,_,_,rfl⟩:=Gu.ex j;refine ⟨_,_,_,_,_,_,_,_,_,_,_,_,_,_,_,_,_,_,rfl,fun I o=>(yJ (a.le (g.trans (C.trans o))) Za sm (by omega)).mono ?_⟩;rintro r J D ⟨u,rfl,t⟩;have d:=t;obtain ⟨_,_,_,_,_,_,_,_,_,rfl,-,-,-⟩:=t;refine ⟨_,_,_,_,_,_,_,_,_,_,rfl,(fun h=>nomatch h),fun _=>⟨(fun h=>nomatch h),fun _ K x=>(DY (b.le (o.trans (D.trans x))) (d.le x) sl hs sm (by omega)).mono ?_⟩⟩;rintro r L M ⟨p,n,c,q,i,e,rfl,f1,f2⟩;refine ⟨_,_,_,_,_,_,rfl,fun N y=>(kE (f1.le y) (zF _ _ _) (qj sl hs sm) (by omega)).mono ?_⟩;rintro r O f ⟨P,Q,R,rfl,E⟩;refine ⟨_,_,_,rfl,fun S z=>(kE (f2.le (y.trans (f.trans z))) (zF _ _ _) (qj sl hs sm.rev) (by omega)).mono ?_⟩;rintro r T F ⟨U,W,X,rfl,G⟩;exact ⟨_,_,_,rfl,fun Y A=>⟨_,_,_,_,_,_,rfl,E.le (z.trans (F.trans A)),G.le A⟩⟩
theorem Lt {L M:L3}:((L.1:Rat)=(M.1:Rat)/\(L.2.1:Rat)=(M.2.1:Rat)/\(L.2.2:Rat)=(M.2.2:Rat))↔L=M:=by
 constructor
 ·rintro ⟨a,b,c⟩;exact Prod.ext (Rat.intCast_inj.1 a) (Prod.ext (Rat.intCast_inj.1 b) (Rat.intCast_inj.1 c))
 ·rintro rfl;exact ⟨rfl,rfl,rfl⟩
theorem LP {V:View}{v w:Value}{L M:L3}(hl:pg V v L)(hm:pg V w M){k:Nat}(sl:eh k L)(sm:eh k M)(hk:k+k<1099511627776) :
  ae prog 126 #[v,w] V fun r V'=>r=.bool (decide (L=M)):=by
 refine (BL hl hm sl.1 sl.2.1 sl.2.2 sm.1 sm.2.1 sm.2.2 hk).mono ?_;rintro r V' l rfl;rw [decide_eq_decide.2 Lt]
end Go.Proofs.Tryz
namespace Go.Proofs.Tryz
open Go.Eng
set_option maxRecDepth 100000
end Go.Proofs.Tryz
namespace Go.Proofs.Tryz
open Go.Eng Go.Big
def sW (l m:L3):Int:=if (l.1-m.1).sign≠0 then (l.1-m.1).sign else if (l.2.1-m.2.1).sign≠0 then (l.2.1-m.2.1).sign else (l.2.2-m.2.2).sign
def N5:L3:=(0,0,0)
def Tg (a b:L3):Int:=sW a b
theorem pF {a b:L3}:sW a b<0↔(a.1<b.1\/a.1=b.1/\(a.2.1<b.2.1\/a.2.1=b.2.1/\a.2.2<b.2.2)):=by
 have s:∀{x y:Int},(x<y/\(x-y).sign=-1)\/(x=y/\(x-y).sign=0)\/(y<x/\(x-y).sign=1):=by
  intro x y;rcases Int.lt_trichotomy x y with h|h|h
  ·exact .inl ⟨h,Int.sign_eq_neg_one_of_neg (by omega)⟩
  ·exact .inr (.inl ⟨h,by rw [h,Int.sub_self];rfl⟩)
  ·exact .inr (.inr ⟨h,Int.sign_eq_one_of_pos (by omega)⟩)
 unfold sW;rcases @s a.1 b.1 with ⟨d,c⟩|⟨d,c⟩|⟨d,c⟩<;>rcases @s a.2.1 b.2.1 with ⟨h2,e2⟩|⟨h2,e2⟩|⟨h2,e2⟩<;>rcases @s a.2.2 b.2.2 with ⟨h3,e3⟩|⟨h3,e3⟩|⟨h3,e3⟩<;>rw [c,e2,e3]<;>simp<;>omega
theorem Nx:Ord Tg:=⟨fun a b h=>by unfold Tg at *;rw [pF] at *;omega,fun a b d h c=>by unfold Tg at *;rw [pF] at *;omega⟩
theorem JJ {a b:L3}:JI [cmpQ (a.1:Rat) (b.1:Rat),cmpQ (a.2.1:Rat) (b.2.1:Rat),cmpQ (a.2.2:Rat) (b.2.2:Rat)]=sW a b:=by
 have e:∀x y:Int,cmpQ (x:Rat) (y:Rat)=(x-y).sign:=fun x y=>by
  unfold cmpQ;rw [←Rat.intCast_sub,Rat.num_intCast]
 rw [e,e,e];unfold sW;generalize (a.1-b.1).sign=x;generalize (a.2.1-b.2.1).sign=y;generalize (a.2.2-b.2.2).sign=z;simp only [JI];by_cases c:x=0<;>by_cases d:y=0<;>by_cases f:z=0<;>simp [c,d,f]
def KG (V:View)(v:Value)(c:L3):Prop:=wW V v c.1 c.2.1 c.2.2/\Bd c
theorem KG.le {V V':View}{v:Value}{c:L3}(h:KG V v c)(l:V.Le V'):KG V' v c:=⟨h.1.le l,h.2⟩
theorem KG.shape {V:View}{v:Value}{c:L3}(h:KG V v c):∃(x y:Int)(p:OA)(xb yb:Int)(pb:OA)(xc yc:Int)(pc:OA),v=.agg #[.int .i64 x,.int .i64 y,.pointer p,.int .i64 xb,.int .i64 yb,.pointer pb,.int .i64 xc,.int .i64 yc,.pointer pc]:=by
 obtain ⟨⟨a,b,p,d,f,q,g,i,r,e,-⟩,-⟩:=h;exact ⟨_,_,_,_,_,_,_,_,_,e⟩
end Go.Proofs.Tryz
namespace Go.Proofs.Tryz
open Go.Big
section
variable {α:Type} {c:α->α->Int} {d:α}
structure PQ (c:α->α->Int) (d:α) (l0 l:List α) (a0 b0 a b:Nat):Prop where
 SH:lB d l0 l a0 b0
 ha:a0<=a
 wZ:a<=b
 hb:b<=b0
 lo:pf c d l a0 a
 hi:pf c d l b b0
 s1:Sep c d l a0 a b0
 s2:Sep c d l a0 b b0
 pre:0<a->∀k,a<=k->k<b->¬c (l.getD k d) (l.getD (a-1) d)<0
variable {l0 l m:List α} {a0 b0 a b mid:Nat}
theorem PQ.start {l:List α}(h:a<=b)(hp:0<a->∀k,a<=k->k<b->¬c (l.getD k d) (l.getD (a-1) d)<0):PQ c d l l a b a b:=
 ⟨.refl _ _ _,Nat.le_refl _,h,Nat.le_refl _,.short (by omega),.short (by omega),fun p q e f=>by omega,fun p q e f g i=>by omega,hp⟩
theorem PQ.change (h:PQ c d l0 l a0 b0 a b)(hs:lB d l m a b):PQ c d l0 m a0 b0 a b:=
 ⟨h.SH.trans (hs.wide h.ha h.hb),h.ha,h.wZ,h.hb,hs.asc h.lo (.inl (Nat.le_refl _)),hs.asc h.hi (.inr (Nat.le_refl _)),hs.sep h.s1 (.inr (.inl ⟨Nat.le_refl _,h.hb⟩)),hs.sep h.s2 (.inl ⟨h.ha,Nat.le_refl _⟩),fun f k g i=>by
  obtain ⟨j,n,o,e⟩:=hs.mem k g i;rw [e,hs.out (a-1) (by omega)];exact h.pre f j n o⟩
theorem PQ.fin (h:PQ c d l0 l a0 b0 a b)(hs:lB d l m a b)(ha:pf c d m a b):lB d l0 m a0 b0/\pf c d m a0 b0:=by
 have e:=h.change hs;refine ⟨e.SH,e.lo.join (ha.join e.hi fun p q j f g i=>e.s2 p q (by have:=h.ha;omega) f g i) e.s1⟩
theorem PQ.left (ho:Ord c)(h:PQ c d l0 l a0 b0 a b)(hm:a<=mid)(hm':mid<b)(h1:∀k,a<=k->k<mid->c (l.getD k d) (l.getD mid d)<0)(h2:∀k,mid<k->k<b->¬c (l.getD k d) (l.getD mid d)<0)
  (hs:lB d l m a mid)(ha:pf c d m a mid):PQ c d l0 m a0 b0 (mid+1) b:=by
 have n:=h.ha;have o:=h.hb;have em:m.getD mid d=l.getD mid d:=hs.out mid (by omega)
 have below:∀k,a<=k->k<mid->¬c (m.getD mid d) (m.getD k d)<0:=fun k f g=>by
  obtain ⟨r,i,j,e⟩:=hs.mem k f g;rw [em,e];exact ho.N0 _ _ (h1 r i j)
 have t1:=hs.sep h.s1 (.inr (.inl ⟨Nat.le_refl _,by omega⟩));have t2:=hs.sep h.s2 (.inl ⟨n,by omega⟩);have up:∀q,mid<q->q<b->¬c (m.getD q d) (m.getD mid d)<0:=fun q f g=>by rw [em,hs.out q (by omega)];exact h2 q f g
 refine ⟨h.SH.trans (hs.wide n (by omega)),by omega,by omega,o,(hs.asc h.lo (.inl (Nat.le_refl _))).join (m:=a) (fun p q f g i=>?_) fun p q f g i j=>t1 p q f g i (by omega),hs.asc h.hi (.inr (by omega)),fun p q f g i j=>?_,t2,fun _ k f g=>up k (by omega) g⟩
 ·by_cases e:q=mid
  ·subst e;exact below p f g
  ·exact ha p q f g (by omega)
 ·by_cases s:b<=q
  ·exact t2 p q f (by omega) s j
  ·by_cases t:p<a
   ·exact t1 p q f t (by omega) j
   ·have u:=up q (by omega) (by omega);by_cases e:p=mid
    ·subst e;exact u
    ·exact ho.tr _ _ _ u (below p (by omega) (by omega))
theorem PQ.right (ho:Ord c)(h:PQ c d l0 l a0 b0 a b)(hm:a<=mid)(hm':mid<b)(h1:∀k,a<=k->k<mid->c (l.getD k d) (l.getD mid d)<0)(h2:∀k,mid<k->k<b->¬c (l.getD k d) (l.getD mid d)<0)
  (hs:lB d l m (mid+1) b)(ha:pf c d m (mid+1) b):PQ c d l0 m a0 b0 a mid:=by
 have s:=h.ha;have r:=h.hb;have em:m.getD mid d=l.getD mid d:=hs.out mid (by omega)
 have up:∀q,mid<q->q<b->¬c (m.getD q d) (m.getD mid d)<0:=fun q g f=>by
  obtain ⟨t,i,j,e⟩:=hs.mem q (by omega) f;rw [em,e];exact h2 t (by omega) j
 have below:∀k,a<=k->k<mid->¬c (m.getD mid d) (m.getD k d)<0:=fun k g f=>by
  rw [em,hs.out k (by omega)];exact ho.N0 _ _ (h1 k g f)
 have t1:=hs.sep h.s1 (.inr (.inl ⟨by omega,r⟩));have t2:=hs.sep h.s2 (.inl ⟨by omega,Nat.le_refl _⟩);have t3:=hs.asc h.hi (.inr (Nat.le_refl _));refine ⟨h.SH.trans (hs.wide (by omega) r),s,hm,by omega,hs.asc h.lo (.inl (by omega)),fun p q g f i=>?_,t1,fun p q g f i j=>?_,fun v k g f=>?_⟩
 ·by_cases n:q<b
  ·by_cases e:p=mid
   ·subst e;exact up q f n
   ·exact ha p q (by omega) f n
  ·by_cases o:p<b
   ·exact t2 p q (by omega) o (by omega) i
   ·exact t3 p q (by omega) f i
 ·by_cases n:b<=q
  ·exact t2 p q g (by omega) n j
  ·by_cases o:p<a
   ·exact t1 p q g o (by omega) j
   ·have u:=below p (by omega) f;by_cases e:q=mid
    ·subst e;exact u
    ·exact ho.tr _ _ _ (up q (by omega) (by omega)) u
 ·rw [hs.out k (by omega),hs.out (a-1) (by omega)];exact h.pre v k g (by omega)
structure HQ (c:α->α->Int) (d:α) (l:List α) (f i n:Nat):Prop where
 hp:Hp c d l f 0 i none
 asc:pf c d l (f+i) (f+n)
 sep:Sep c d l f (f+i) (f+n)
theorem HQ.start {f n:Nat}(h:Hp c d l f 0 n none):HQ c d l f n n:=⟨h,.short (by omega),fun p q a b e g=>by omega⟩
theorem HQ.step (ho:Ord c){f k n:Nat}(h:HQ c d l f (k+1) n)(hk:k+1<=n)(hl:f+n<=l.length)(hs:lB d (nT d l f (f+k)) m f (f+k))(hm:Hp c d m f 0 k none):HQ c d m f k n:=by
 have a:=fun x=>oL (d:=d) (l:=l) (i:=f) (j:=f+k) (k:=x) (by omega) (by omega);have out:∀q,f+k<q->m.getD q d=l.getD q d:=fun q u=>by rw [hs.out q (by omega),a,if_neg (by omega),if_neg (by omega)]
 have top:m.getD (f+k) d=l.getD f d:=by rw [hs.out (f+k) (by omega),a,if_pos rfl]
 refine ⟨hm,fun p q r b g=>?_,fun p q r b g s=>?_⟩
 ·rw [out q (by omega)];by_cases e:p=f+k
  ·rw [e,top];exact h.sep f q (Nat.le_refl _) (by omega) (by omega) g
  ·rw [out p (by omega)];exact h.asc p q (by omega) b g
 ·have hp:∃j,j<k+1/\m.getD p d=l.getD (f+j) d:=by
   obtain ⟨o,v,w,e⟩:=hs.mem p r b;rw [e,a,if_neg (by omega)];split
   ·exact ⟨k,by omega,rfl⟩
   ·exact ⟨o-f,by omega,by rw [show f+(o-f)=o by omega]⟩
  obtain ⟨j,t,e⟩:=hp;rw [e];by_cases eq:q=f+k
  ·rw [eq,top];exact h.hp.top ho j t
  ·rw [out q (by omega)];exact h.sep (f+j) q (by omega) (by omega) (by omega) s
theorem HQ.fin {f n:Nat}(h:HQ c d l f 0 n):pf c d l f (f+n):=by have:=h.asc;simpa using this
structure PT (P:α->Prop) (d:α) (l:List α) (a b i j:Nat):Prop where
 hi:a<i
 DO:i<=j+1
 hj:j<b
 lo:∀k,a<k->k<i->P (l.getD k d)
 up:∀k,j<k->k<b->¬P (l.getD k d)
variable {P:α->Prop} {i j:Nat}
theorem PT.start (h:a+1<b):PT P d l a b (a+1) (b-1):=⟨by omega,by omega,by omega,fun k c e=>by omega,fun k c e=>by omega⟩
theorem PT.swap (h:PT P d l a b i j)(DO:i<=j)(hl:b<=l.length)(h1:¬P (l.getD i d))(h2:P (l.getD j d)):PT P d (nT d l i j) a b (i+1) (j-1)/\(nT d l i j).getD a d=l.getD a d/\lB d l (nT d l i j) a b:=by
 have n:=h.hi;have m:=h.hj;have ne:i≠j:=fun e=>h1 (e▸h2);have c:=fun x=>oL (d:=d) (l:=l) (i:=i) (j:=j) (k:=x) (by omega) (by omega);refine ⟨⟨by omega,by omega,by omega,fun k f g=>?_,fun k f g=>?_⟩,by rw [c,if_neg (by omega),if_neg (by omega)],lB.nT (by omega) (by omega) (by omega) m hl⟩
 ·rw [c,if_neg (by omega)];by_cases e:k=i
  ·rw [if_pos e];exact h2
  ·rw [if_neg e];exact h.lo k f (by omega)
 ·rw [c];by_cases e:k=j
  ·rw [if_pos e];exact h1
  ·rw [if_neg e,if_neg (by omega)];exact h.up k (by omega) g
theorem PT.fin (ho:Ord c)(h:PT (fun x=>c x (l.getD a d)<0) d l a b i j)(DO:¬i<=j)(hl:b<=l.length):lB d l (nT d l j a) a b/\a<=j/\j<b /\
  (∀k,a<=k->k<j->c ((nT d l j a).getD k d) ((nT d l j a).getD j d)<0)/\(∀k,j<k->k<b->¬c ((nT d l j a).getD k d) ((nT d l j a).getD j d)<0):=by
 have p:=h.hi;have q:=h.DO;have g:=h.hj;have f:=fun x=>oL (d:=d) (l:=l) (i:=j) (j:=a) (k:=x) (by omega) (by omega)
 have m:(nT d l j a).getD j d=l.getD a d:=by
  rw [f];by_cases e:j=a
  ·rw [if_pos e,e]
  ·rw [if_neg e,if_pos rfl]
 refine ⟨lB.nT (by omega) g (Nat.le_refl _) (by omega) hl,by omega,g,fun k n o=>?_,fun k n o=>?_⟩
 ·rw [m,f];by_cases e:k=a
  ·rw [if_pos e];exact h.lo j (by omega) (by omega)
  ·rw [if_neg e,if_neg (by omega)];exact h.lo k (by omega) (by omega)
 ·rw [m,f,if_neg (by omega),if_neg (by omega)];exact h.up k n o
end
end Go.Proofs.Tryz
namespace Go.Proofs.Tryz
open Go.Eng Go.Big
theorem Jg (V:View):V.Le V.shut:=fun _ _ h=>h
set_option maxRecDepth 10000 in
theorem Ld {V:View}(x:Nat)(hx:x<256):ae prog 215 #[.int .u64 (x:Int)] V fun r V'=>r=.int .i64 (bh x:Int):=by
 refine oW _ V _ ⟨fun z _=>z=((x:Int),0),⟨fun a=>absurd (of_decide_eq_true a) (by omega),fun _=>⟨_,⟨rfl,rfl⟩,rfl⟩⟩,?_⟩;rintro _ d e rfl;refine ⟨rfl,fun z _=>z=((x:Int),0),⟨fun a=>absurd (of_decide_eq_true a) (by dsimp only;omega),fun _=>⟨_,⟨rfl,rfl⟩,rfl⟩⟩,?_⟩;rintro _ V2 f rfl;refine ⟨rfl,fun z _=>z=((x:Int),0),⟨fun a=>absurd (of_decide_eq_true a) (by dsimp only;omega),fun _=>⟨_,⟨rfl,rfl⟩,rfl⟩⟩,?_⟩;rintro _ g h rfl;have hw:IntKind.u8.wrap (x:Int)=x:=IntWalk.u8_in _ (by omega);have b:(Cr.size:Int)=256:=rfl;dsimp only;rw [hw];refine ⟨rfl,⟨by omega,by show (x:Int)<(Cr.size:Int);rw [b];omega⟩,fun i j=>?_⟩;show Value.int .i64 (i64.wrap (0+i64.wrap ((Cr.data.toList.getD (x:Int).toNat 0).toNat:Int)))=_;congr 1;have key:∀y:Nat,y<256->(Cr.data.toList.getD y 0).toNat=bh y:=by decide +kernel
 have c:bh x<=8:=fw.2 (by omega);have:=key x hx;rw [Int.toNat_natCast,this];simp (disch:=omega) only [aw];omega
theorem kF {V:View}(x:Nat)(hx:x<256):ae prog 168 #[.int .u64 (x:Int)] V fun r V'=>r=.int .i64 (bh x:Int):=by
 refine rK _ V _ fun a b=>(Ld x hx).mono ?_;rintro r V2 c rfl;exact ⟨_,rfl,fun d e=>rfl⟩
structure MS (V:View) (n:Nat) (vs:List Value) (l:List L3):Prop where
 row:Row 9 KG V vs l
 len:n=l.length
 lP:l.length<50
theorem MS.le {V V':View}{n:Nat}{vs:List Value}{l:List L3}(h:MS V n vs l)(e:V.Le V'):MS V' n vs l:=⟨h.row.le fun _ _ g=>KG.le g e,h.len,h.lP⟩
theorem MS.get {V:View}{n:Nat}{vs:List Value}{l:List L3}(h:MS V n vs l){k:Nat}(hk:k<l.length):∃(x y:Int)(p:OA)(xb yb:Int)(pb:OA)(xc yc:Int)(pc:OA),
  ((0+k*9)+9<=vs.length/\(vs.drop (0+k*9)).take 9=[.int .i64 x,.int .i64 y,.pointer p,.int .i64 xb,.int .i64 yb,.pointer pb,.int .i64 xc,.int .i64 yc,.pointer pc])/\KG V (.agg #[.int .i64 x,.int .i64 y,.pointer p,.int .i64 xb,.int .i64 yb,.pointer pb,.int .i64 xc,.int .i64 yc,.pointer pc]) (l.getD k N5):=by
 obtain ⟨xs,-,b,c,f⟩:=h.row.get (d:=N5) hk (by decide);have a:=b;obtain ⟨x,y,p,xb,yb,pb,xc,yc,pc,e⟩:=b.shape;have e:=congrArg Array.toList (Value.agg.inj e);dsimp only at e;subst e;rw [Nat.zero_add];exact ⟨x,y,p,xb,yb,pb,xc,yc,pc,⟨c,f⟩,a⟩
theorem MS.swap {V:View}{n:Nat}{vs:List Value}{l:List L3}(h:MS V n vs l){i j:Nat}(hi:i<l.length)(hj:j<l.length){x y:Int}{p:OA}{xb yb:Int}{pb:OA}{xc yc:Int}{pc:OA}{x' y':Int}{p':OA}{Kz KB:Int}{pb':OA}{HR Pc:Int}{pc':OA}
  (h1:KG V (.agg #[.int .i64 x,.int .i64 y,.pointer p,.int .i64 xb,.int .i64 yb,.pointer pb,.int .i64 xc,.int .i64 yc,.pointer pc]) (l.getD i N5))(h2:KG V (.agg #[.int .i64 x',.int .i64 y',.pointer p',.int .i64 Kz,.int .i64 KB,.pointer pb',.int .i64 HR,.int .i64 Pc,.pointer pc']) (l.getD j N5)) :
  (0+i*9)+9<=vs.length/\(0+j*9)+9<=(aS vs (0+i*9) [.int .i64 x',.int .i64 y',.pointer p',.int .i64 Kz,.int .i64 KB,.pointer pb',.int .i64 HR,.int .i64 Pc,.pointer pc']).length /\
  MS V n (aS (aS vs (0+i*9) [.int .i64 x',.int .i64 y',.pointer p',.int .i64 Kz,.int .i64 KB,.pointer pb',.int .i64 HR,.int .i64 Pc,.pointer pc']) (0+j*9) [.int .i64 x,.int .i64 y,.pointer p,.int .i64 xb,.int .i64 yb,.pointer pb,.int .i64 xc,.int .i64 yc,.pointer pc]) (nT N5 l i j):=by
 obtain ⟨-,-,-,a,-⟩:=h.row.get (d:=N5) hi (by decide);obtain ⟨-,-,-,b,-⟩:=h.row.get (d:=N5) hj (by decide);rw [Nat.zero_add,Nat.zero_add];refine ⟨a,by rw [fl (by exact a)];exact b,h.row.swap hi hj (by decide) rfl rfl h1 h2,by rw [fF];exact h.len,by rw [fF];exact h.lP⟩
def lL (l:L3):L3:=if l.1<0\/l.1=0/\l.2.1<0 then revL l else l
def Tr.SC:Tr->List L3
 | .leaf _=>[]
 | .node l a b=>l::(a.SC++b.SC)
theorem Av {p:L3->Prop}:∀{t:Tr},t.KD p->∀x∈t.SC,p x
 | .leaf _,_,x,h=>by cases h
 | .node l a b,⟨h1,h2,h3⟩,x,h=>by
  rcases List.mem_cons.1 h with rfl|h
  ·exact h1
  ·rcases List.mem_append.1 h with h|h
   ·exact Av h2 x h
   ·exact Av h3 x h
theorem Bd.rev {l:L3}(h:Bd l):Bd (revL l):=by
 obtain ⟨a,b,c⟩:=h;unfold Bd revL;simp only [Int.natAbs_neg];exact ⟨a,b,c⟩
theorem Bd.can {l:L3}(h:Bd l):Bd (lL l):=by
 unfold lL;split
 ·exact h.rev
 ·exact h
end Go.Proofs.Tryz
namespace Go.Proofs.Tryz.br
open Go.Eng Go.Big
def nv (l:L3)(v:V2):Rat:=(l.1:Rat)*v.1+(l.2.1:Rat)*v.2
def bw (l:L3):V2:=((l.2.1:Rat),-(l.1:Rat))
theorem Nu (l:L3)(v:V2):nv l v=cr (bw l) v:=by unfold nv cr bw;grind
def O2 (l:L3)(p v:V2):Int:=if (bg l p.1 p.2).num.sign=0 then (nv l v).num.sign else (bg l p.1 p.2).num.sign
def C_:Tr->V2->V2->Bool×Bool
 | .leaf i,_,_=>(i,true)
 | .node l a b,p,v=>if O2 l p v=1 then C_ a p v else if O2 l p v=-1 then C_ b p v else (false,false)
def km:Tr->V2->List L3
 | .leaf _,_=>[]
 | .node l a b,p=>(if bg l p.1 p.2=0 then [l] else [])++((if bg l p.1 p.2≥0 then km a p else [])++(if bg l p.1 p.2<=0 then km b p else []))
theorem vE:∀{t:Tr} {p:V2} {l:L3},l∈km t p->bg l p.1 p.2=0/\l∈t.SC
 | .leaf _,_,_,h=>by cases h
 | .node m a b,p,l,h=>by
  unfold km at h;simp only [List.mem_append] at h;rcases h with h|h|h
  ·split at h
   ·rename_i e;rcases List.mem_singleton.1 h with rfl;exact ⟨e,List.mem_cons_self ..⟩
   ·cases h
  ·split at h
   ·have:=vE h;exact ⟨this.1,List.mem_cons_of_mem _ (List.mem_append_left _ this.2)⟩
   ·cases h
  ·split at h
   ·have:=vE h;exact ⟨this.1,List.mem_cons_of_mem _ (List.mem_append_right _ this.2)⟩
   ·cases h
theorem AQ {q:Rat}:q.num.sign=-1↔q<0:=by
 rw [Int.sign_eq_neg_one_iff_neg,←Int.not_le,←Rat.not_le,Rat.num_nonneg]
theorem E8 {q:Rat}:q.num.sign=1↔q>0:=by
 have h:=@AQ (-q);rw [Rat.neg_num,Int.sign_neg] at h;constructor
 ·intro e;have:=h.1 (by rw [e]);grind
 ·intro e;have:=h.2 (by grind);omega
theorem nf {q:Rat}:q.num.sign=0↔q=0:=by rw [Int.sign_eq_zero_iff_zero,Rat.num_eq_zero]
theorem wk:∀{t:Tr} {p v x:V2},(∀l∈km t p,nv l v≠0)->(∀l∈km t p,(nv l v>0->nv l x>0)/\(nv l v<0->nv l x<0)) ->
  C_ t p x=C_ t p v/\(C_ t p v).2=true
 | .leaf _,_,_,_,_,_=>⟨rfl,rfl⟩
 | .node l a b,p,v,x,h0,h1=>by
  have ha:bg l p.1 p.2≥0->C_ a p x=C_ a p v/\(C_ a p v).2=true:=fun e=>by
   have sub:∀m∈km a p,m∈km (.node l a b) p:=fun m hm=>by
    unfold km;rw [if_pos e];exact List.mem_append_right _ (List.mem_append_left _ hm)
   exact wk (fun m hm=>h0 m (sub m hm)) (fun m hm=>h1 m (sub m hm))
  have f:bg l p.1 p.2<=0->C_ b p x=C_ b p v/\(C_ b p v).2=true:=fun e=>by
   have sub:∀m∈km b p,m∈km (.node l a b) p:=fun m hm=>by
    unfold km;rw [if_pos e];exact List.mem_append_right _ (List.mem_append_right _ hm)
   exact wk (fun m hm=>h0 m (sub m hm)) (fun m hm=>h1 m (sub m hm))
  have i:bg l p.1 p.2=0->l∈km (.node l a b) p:=fun e=>by
   unfold km;rw [if_pos e];exact List.mem_append_left _ (List.mem_singleton.2 rfl)
  have key:O2 l p x=O2 l p v/\(O2 l p v=1/\bg l p.1 p.2≥0\/O2 l p v=-1/\bg l p.1 p.2<=0):=by
   unfold O2;by_cases e:bg l p.1 p.2=0
   ·have hm:=i e;rw [if_pos (nf.2 e),if_pos (nf.2 e)];obtain ⟨j,k⟩:=h1 l hm;have r:=h0 l hm;by_cases q:nv l v>0
    ·rw [E8.2 q,E8.2 (j q)];exact ⟨rfl,.inl ⟨rfl,by grind⟩⟩
    ·have c:nv l v<0:=by grind
     rw [AQ.2 c,AQ.2 (k c)];exact ⟨rfl,.inr ⟨rfl,by grind⟩⟩
   ·have d:¬(bg l p.1 p.2).num.sign=0:=fun h=>e (nf.1 h);rw [if_neg d,if_neg d];refine ⟨rfl,?_⟩;by_cases q:bg l p.1 p.2>0
    ·exact .inl ⟨E8.2 q,by grind⟩
    ·exact .inr ⟨AQ.2 (by grind),by grind⟩
  obtain ⟨n,o⟩:=key;simp only [C_,n];rcases o with ⟨e,g⟩|⟨e,g⟩
  ·rw [e,if_pos rfl,if_pos rfl];exact ha g
  ·rw [e,if_neg (by decide),if_pos rfl,if_neg (by decide),if_pos rfl];exact f g
def Pf (D:List V2)(M:List L3):Prop:=∀l∈M,∃r∈D,∃c:Rat,c>0/\r=(c*(bw l).1,c*(bw l).2)
theorem Eh {l:L3}{r:V2}{c:Rat}(c0:c>0)(e:r=(c*(bw l).1,c*(bw l).2))(v:V2):cr r v=c*nv l v:=by
 rw [Nu,e];unfold cr;grind
theorem F0 {c x:Rat}(c0:c>0):(c*x>0↔x>0)/\(c*x<0↔x<0)/\(c*x=0↔x=0):=by
 have p:x>0->c*x>0:=fun h=>mp c0 h;have n:x<0->c*x<0:=fun h=>by have:=mp c0 (show -x>0 by grind);grind
 have z:x=0->c*x=0:=fun h=>by rw [h];grind
 refine ⟨⟨fun h=>?_,p⟩,⟨fun h=>?_,n⟩,⟨fun h=>?_,z⟩⟩
 ·by_cases q:x>0
  ·exact q
  ·by_cases a:x<0
   ·have:=n a;grind
   ·have:=z (by grind);grind
 ·by_cases q:x<0
  ·exact q
  ·by_cases a:x>0
   ·have:=p a;grind
   ·have:=z (by grind);grind
 ·rcases Rat.mul_eq_zero.1 h with h|h
  ·grind
  ·exact h
theorem Pf.gen {D:List V2}{M:List L3}(h:Pf D M){v:V2}(hv:∀r∈D,cr r v≠0):∀l∈M,nv l v≠0:=by
 intro l a e;obtain ⟨r,b,c,d,f⟩:=h l a;exact hv r b (by rw [Eh d f,e];grind)
theorem Pf.same {D:List V2}{M:List L3}(h:Pf D M){v x:V2}(hv:∀r∈D,(cr r v>0->cr r x>0)/\(cr r v<0->cr r x<0)) :
  ∀l∈M,(nv l v>0->nv l x>0)/\(nv l v<0->nv l x<0):=by
 intro l d;obtain ⟨r,e,c,a,b⟩:=h l d;have:=hv r e;rw [Eh a b,Eh a b] at this;obtain ⟨f,g,_⟩:=@F0 c (nv l v) a;obtain ⟨b1,b2,_⟩:=@F0 c (nv l x) a;exact ⟨fun h=>b1.1 (this.1 (f.2 h)),fun h=>b2.1 (this.2 (g.2 h))⟩
def anyS (t:Tr)(p:V2)(S:List V2):Bool:=S.any fun v=>(C_ t p v).1
def K4 (t:Tr)(p:V2)(S:List V2):Bool:=S.all fun v=>(C_ t p v).1
theorem Gp (l:L3)(p v:V2)(s:Rat):bg l (p.1+s*v.1) (p.2+s*v.2)=bg l p.1 p.2+s*nv l v:=by unfold bg nv;grind
theorem inv_mul {c:Rat}(h:c≠0)(a:Rat):a*c⁻¹*c=a:=by rw [Rat.mul_assoc,Rat.inv_mul_cancel _ h,Rat.mul_one]
def half (u:V2):Int:=if u.2.num.sign>0\/u.2.num.sign=0/\u.1.num.sign>0 then 1 else if u.2.num.sign<0\/u.1.num.sign<0 then 2 else 0
def fM (u v:V2):Int:=if half u<half v then -1 else if half u>half v then 1 else -(cr u v).num.sign
theorem sE {q:Rat}:q.num.sign>0↔q>0:=by
 have:=Rat.num_nonneg (q:=-q);rw [Rat.neg_num] at this;rw [gt_iff_lt,Int.sign_pos_iff];have a:(0<=-q)↔¬q>0:=by constructor<;>intro h<;>grind
 rw [a] at this;by_cases h:q>0
 ·exact ⟨fun _=>h,fun _=>by
   have:¬0<=-q.num:=fun g=>this.1 g h;omega⟩
 ·exact ⟨fun g=>by have:=this.2 h;omega,fun g=>absurd g h⟩
theorem Gd {q:Rat}:q.num.sign<0↔q<0:=by
 have:=@sE (-q);rw [Rat.neg_num,Int.sign_neg] at this;constructor
 ·intro h;have:=this.1 (by omega);grind
 ·intro h;have:=this.2 (by grind);omega
theorem bY (u:V2):half u=1/\up u\/half u=2/\dn u\/half u=0/\u.1=0/\u.2=0:=by
 unfold half up dn;split
 ·rename_i h;rw [sE,sE,nf] at h;exact .inl ⟨rfl,h⟩
 ·rename_i h;rw [sE,sE,nf] at h;split
  ·rename_i a;rw [Gd,Gd] at a;exact .inr (.inl ⟨rfl,by grind⟩)
  ·rename_i a;rw [Gd,Gd] at a;exact .inr (.inr ⟨rfl,by grind,by grind⟩)
theorem oh {u v:V2}:fM u v<0↔half u<half v\/half u=half v/\cr u v>0:=by
 have:=@sE (cr u v);unfold fM;by_cases a:half u<half v
 ·simp [a]
 ·by_cases b:half u>half v
  ·rw [if_neg a,if_pos b];omega
  ·rw [if_neg a,if_neg b];constructor
   ·intro h;exact .inr ⟨by omega,this.1 (by omega)⟩
   ·rintro (h|⟨h,c⟩)
    ·omega
    ·have:=this.2 c;omega
theorem jY {u v:V2}:fM u v=0↔half u=half v/\cr u v=0:=by
 have:=@nf (cr u v);unfold fM;by_cases a:half u<half v
 ·rw [if_pos a];constructor
  ·intro h;omega
  ·rintro ⟨h,_⟩;omega
 ·by_cases b:half u>half v
  ·rw [if_neg a,if_pos b];constructor
   ·intro h;omega
   ·rintro ⟨h,_⟩;omega
  ·rw [if_neg a,if_neg b];constructor
   ·intro h;exact ⟨by omega,this.1 (by omega)⟩
   ·rintro ⟨_,h⟩;have:=this.2 h;omega
theorem DT (u v:V2):fM u v<0\/fM u v=0\/fM v u<0:=by
 rw [oh,jY,oh];have:=gu u v;rcases Int.lt_trichotomy (half u) (half v) with h|h|h
 ·exact .inl (.inl h)
 ·by_cases p:cr u v>0
  ·exact .inl (.inr ⟨h,p⟩)
  ·by_cases q:cr u v=0
   ·exact .inr (.inl ⟨h,q⟩)
   ·exact .inr (.inr (.inr ⟨h.symm,by grind⟩))
 ·exact .inr (.inr (.inl h))
theorem FB (u v:V2)(h:fM u v<0):¬fM v u<0:=by
 rw [oh] at *;have:=gu u v;rintro (a|⟨a,b⟩)<;>rcases h with h|⟨h,g⟩
 ·omega
 ·omega
 ·omega
 ·grind
theorem Lo {a b d:V2}(wZ:half a=half b)(hbd:half b=half d)(h1:cr a b<=0)(h2:cr b d<=0):cr a d<=0:=by
 by_cases h:cr a d<=0
 ·exact h
 exfalso;have c:cr a d>0:=by grind
 have o:=Ox a d b;have p:=ED a d b;rcases bY b with ⟨e,i⟩|⟨e,i⟩|⟨e,i⟩
 ·have g:up a:=by rcases bY a with ⟨f,h⟩|⟨f,h⟩|⟨f,h⟩<;>first|exact h|omega
  have j:up d:=by rcases bY d with ⟨f,h⟩|⟨f,h⟩|⟨f,h⟩<;>first|exact h|omega
  unfold up at g i j;have l:=mn (show -(cr a b)≥0 by grind) (show d.2≥0 by grind);have m:=mn (show -(cr b d)≥0 by grind) (show a.2≥0 by grind);have n:=mn (show cr a d≥0 by grind) (show b.2≥0 by grind);have k:cr a d*b.2=0:=by grind
  have b2:b.2=0:=by rcases Rat.mul_eq_zero.1 k with h|h<;>grind
  have b1:b.1>0:=by grind
  have d2:d.2=0:=by
   by_cases q:d.2>0
   ·have:=mp b1 q;unfold cr at h2;rw [b2] at h2;grind
   ·grind
  have d1:d.1>0:=by grind
  have:=mn (show a.2≥0 by grind) (show d.1≥0 by grind);unfold cr at c;rw [d2] at c;grind
 ·have g:dn a:=by rcases bY a with ⟨f,h⟩|⟨f,h⟩|⟨f,h⟩<;>first|exact h|omega
  have j:dn d:=by rcases bY d with ⟨f,h⟩|⟨f,h⟩|⟨f,h⟩<;>first|exact h|omega
  unfold dn at g i j;have l:=mn (show -(cr a b)≥0 by grind) (show -d.2≥0 by grind);have m:=mn (show -(cr b d)≥0 by grind) (show -a.2≥0 by grind);have n:=mn (show cr a d≥0 by grind) (show -b.2≥0 by grind);have k:cr a d*b.2=0:=by grind
  have b2:b.2=0:=by rcases Rat.mul_eq_zero.1 k with h|h<;>grind
  have b1:-b.1>0:=by grind
  have d2:d.2=0:=by
   by_cases q:-d.2>0
   ·have:=mp b1 q;unfold cr at h2;rw [b2] at h2;grind
   ·grind
  have d1:d.1<0:=by grind
  have:=mn (show -a.2≥0 by grind) (show -d.1≥0 by grind);unfold cr at c;rw [d2] at c;grind
 ·have g:a.1=0/\a.2=0:=by rcases bY a with ⟨f,h⟩|⟨f,h⟩|⟨f,h⟩<;>first|exact h|omega
  unfold cr at c;rw [g.1,g.2] at c;grind
theorem NY {u v:V2}:¬fM u v<0↔half v<half u\/half u=half v/\cr u v<=0:=by
 rw [oh];constructor
 ·intro h;rcases Int.lt_trichotomy (half u) (half v) with g|g|g
  ·exact absurd (.inl g) h
  ·exact .inr ⟨g,by by_cases p:cr u v>0;exact absurd (.inr ⟨g,p⟩) h;grind⟩
  ·exact .inl g
 ·rintro (h|⟨h,g⟩) (a|⟨a,b⟩)
  ·omega
  ·omega
  ·omega
  ·grind
theorem uu (a b d:V2)(h:¬fM a b<0)(h':¬fM b d<0):¬fM a d<0:=by
 rw [NY] at *;rcases h with h|⟨h,g⟩<;>rcases h' with h'|⟨h',g'⟩
 ·exact .inl (by omega)
 ·exact .inl (by omega)
 ·exact .inl (by omega)
 ·exact .inr ⟨by omega,Lo h h' g g'⟩
theorem NZ {u v:V2}(hu:nz u)(hv:nz v):fM u v<0↔sP u v:=by
 have c:∀{w:V2},nz w->¬(w.1=0/\w.2=0):=fun h g=>by unfold nz at h;rcases h with h|h;exact h g.1;exact h g.2
 rw [oh];unfold sP;rcases bY u with ⟨e,h⟩|⟨e,h⟩|⟨e,h⟩
 ·rcases bY v with ⟨b,a⟩|⟨b,a⟩|⟨b,a⟩
  ·rw [e,b];constructor
   ·rintro (g|⟨_,g⟩)
    ·omega
    ·exact .inr ⟨.inl ⟨h,a⟩,g⟩
   ·rintro (⟨_,g⟩|⟨_,g⟩)
    ·exact (eE a g).elim
    ·exact .inr ⟨rfl,g⟩
  ·rw [e,b];exact ⟨fun _=>.inl ⟨h,a⟩,fun _=>.inl (by decide)⟩
  ·exact absurd a (c hv)
 ·rcases bY v with ⟨b,a⟩|⟨b,a⟩|⟨b,a⟩
  ·rw [e,b];constructor
   ·rintro (g|⟨g,_⟩)<;>omega
   ·rintro (⟨g,_⟩|⟨⟨g,_⟩|⟨_,g⟩,_⟩)
    ·exact (eE g h).elim
    ·exact (eE g h).elim
    ·exact (eE a g).elim
  ·rw [e,b];constructor
   ·rintro (g|⟨_,g⟩)
    ·omega
    ·exact .inr ⟨.inr ⟨h,a⟩,g⟩
   ·rintro (⟨g,_⟩|⟨_,g⟩)
    ·exact (eE g h).elim
    ·exact .inr ⟨rfl,g⟩
  ·exact absurd a (c hv)
 ·exact absurd h (c hu)
theorem H7 {u v:V2}(hu:nz u)(h:fM u v=0):∃c:Rat,c>0/\u=(c*v.1,c*v.2):=by
 rw [jY] at h;obtain ⟨e,c⟩:=h;have fin:∀k:Rat,k>0->u.1=k*v.1->u.2=k*v.2->∃c:Rat,c>0/\u=(c*v.1,c*v.2):=fun k a b g=>⟨k,a,Prod.ext b g⟩
 have pos:∀x y:Rat,y≠0->x*y>0->x*y⁻¹>0:=fun x y l h=>by
  have e:=inv_mul l x;generalize x*y⁻¹=t at *;have o:t*(y*y)=x*y:=by grind
  have:=sq_pos (u:=(y,0)) (.inl l);unfold dt at this;by_cases q:t>0
  ·exact q
  ·have:=mn (show -t≥0 by grind) (show y*y≥0 by grind);grind
 unfold cr at c
 have two:v.2≠0->u.2*v.2>0->∃c:Rat,c>0/\u=(c*v.1,c*v.2):=fun a b=>by
  refine fin (u.2*v.2⁻¹) (pos _ _ a b) ?_ (inv_mul a _).symm;have:=inv_mul a u.1;have:u.1*v.2*v.2⁻¹=u.2*v.1*v.2⁻¹:=by rw [show u.1*v.2=u.2*v.1 by grind]
  grind
 have one:v.1≠0->u.1*v.1>0->v.2=0->u.2=0->∃c:Rat,c>0/\u=(c*v.1,c*v.2):=fun a b g n=>
  fin (u.1*v.1⁻¹) (pos _ _ a b) (inv_mul a _).symm (by rw [g,n];grind)
 rcases bY u with ⟨m,h⟩|⟨m,h⟩|⟨m,h⟩
 ·have i:up v:=by rcases bY v with ⟨d,h⟩|⟨d,h⟩|⟨d,h⟩<;>first|exact h|omega
  unfold up at h i;by_cases q:v.2>0
  ·refine two (by grind) ?_;by_cases f:u.2>0
   ·exact mp f q
   ·have j:u.2=0:=by grind
    have:=mp (show u.1>0 by grind) q;rw [j] at c;grind
  ·have v2:v.2=0:=by grind
   have v1:v.1>0:=by grind
   by_cases f:u.2>0
   ·have:=mp f v1;rw [v2] at c;grind
   ·exact one (by grind) (mp (by grind) v1) v2 (by grind)
 ·have i:dn v:=by rcases bY v with ⟨d,h⟩|⟨d,h⟩|⟨d,h⟩<;>first|exact h|omega
  unfold dn at h i;by_cases q:v.2<0
  ·refine two (by grind) ?_;by_cases f:u.2<0
   ·have:=mp (show -u.2>0 by grind) (show -v.2>0 by grind);grind
   ·have j:u.2=0:=by grind
    have:=mp (show -u.1>0 by grind) (show -v.2>0 by grind);rw [j] at c;grind
  ·have v2:v.2=0:=by grind
   have v1:-v.1>0:=by grind
   by_cases f:u.2<0
   ·have:=mp (show -u.2>0 by grind) v1;rw [v2] at c;grind
   ·refine one (by grind) ?_ v2 (by grind);have:=mp (show -u.1>0 by grind) v1;grind
 ·unfold nz at hu;grind
theorem K6 {a b d:V2}(h:fM a b=0)(h':fM b d=0):fM a d=0:=by
 have z:∀{u v:V2},fM u v=0↔¬fM u v<0/\¬fM v u<0:=by
  intro u v;constructor
  ·intro e;refine ⟨by omega,?_⟩;rw [jY] at e;have:=gu u v;rw [oh];rintro (g|⟨_,g⟩)
   ·omega
   ·grind
  ·rintro ⟨g,c⟩;rcases DT u v with e|e|e
   ·exact absurd e g
   ·exact e
   ·exact absurd e c
 rw [z] at *;exact ⟨uu _ _ _ h.1 h'.1,uu _ _ _ h'.2 h.2⟩
theorem ur (a:V2):fM a a=0:=jY.2 ⟨rfl,by unfold cr;grind⟩
theorem FC {a b d:V2}(h:¬fM b a<0)(h':fM b d<0):fM a d<0:=by
 by_cases q:fM a d<0
 ·exact q
 ·exact absurd h' (uu _ _ _ h q)
def eP (u v:V2):Bool:=decide (fM u v=0)
theorem BX:∀{r:List V2} {p:V2},(p::r).Pairwise (fun x y=>¬fM y x<0) ->
  (kd eP p r).Pairwise (fun x y=>fM x y<0)/\(∀x∈kd eP p r,fM p x<0)/\∀x∈p::r,∃y∈p::kd eP p r,fM y x=0
 | [],p,_=>⟨List.Pairwise.nil,(fun x h=>by cases h),fun x h=>⟨x,h,ur x⟩⟩
 | a::r,p,h=>by
  obtain ⟨h1,h2⟩:=List.pairwise_cons.1 h;obtain ⟨i1,i2,i3⟩:=BX h2;have f:¬fM a p<0:=h1 a (List.mem_cons_self ..);unfold kd;by_cases e:fM a p=0
  ·have:eP a p=true:=decide_eq_true e;rw [if_pos this]
   have i:¬fM p a<0:=fun g=>by
    rcases jY.1 e with ⟨j,k⟩;rw [oh] at g;have:=gu a p;rcases g with g|⟨_,g⟩
    ·omega
    ·grind
   refine ⟨i1,fun x c=>FC f (i2 x c),fun x c=>?_⟩;rcases List.mem_cons.1 c with rfl|c
   ·exact ⟨x,List.mem_cons_self ..,ur x⟩
   ·obtain ⟨y,d,g⟩:=i3 x c;rcases List.mem_cons.1 d with rfl|d
    ·refine ⟨p,List.mem_cons_self ..,K6 (b:=y) ?_ g⟩;rcases DT p y with q|q|q
     ·exact absurd q i
     ·exact q
     ·exact absurd q f
    ·exact ⟨y,List.mem_cons_of_mem _ d,g⟩
  ·have:eP a p=false:=decide_eq_false e;rw [this]
   have lt:fM p a<0:=by
    rcases DT p a with q|q|q
    ·exact q
    ·exfalso;apply e;rw [jY] at *;have:=gu a p;exact ⟨q.1.symm,by grind⟩
    ·exact absurd q f
   refine ⟨List.pairwise_cons.2 ⟨i2,i1⟩,fun x c=>?_,fun x c=>?_⟩
   ·rcases List.mem_cons.1 c with rfl|c
    ·exact lt
    ·exact FC (b:=a) f (i2 x c)
   ·rcases List.mem_cons.1 c with rfl|c
    ·exact ⟨x,List.mem_cons_self ..,ur x⟩
    ·obtain ⟨y,d,g⟩:=i3 x c;exact ⟨y,List.mem_cons_of_mem _ d,g⟩
theorem Iy {m:List V2}(h:m.Pairwise (fun x y=>¬fM y x<0)):(gC eP m).Pairwise (fun x y=>fM x y<0)/\∀x∈m,∃y∈gC eP m,fM y x=0:=by
 cases m with
 | nil=>exact ⟨List.Pairwise.nil,fun x h=>by cases h⟩
 | cons p r=>
  obtain ⟨a,b,c⟩:=BX h;exact ⟨List.pairwise_cons.2 ⟨b,a⟩,c⟩
theorem OX {m:List V2}(h:m.Pairwise (fun x y=>¬fM y x<0))(hn:∀r∈m,nz r)(ho:∀r∈m,∃s∈m,Ul s r):MQ (gC eP m)/\∀x∈m,∃y∈gC eP m,∃c:Rat,c>0/\y=(c*x.1,c*x.2):=by
 obtain ⟨i,j⟩:=Iy h;have sub:∀x∈gC eP m,x∈m:=Iz
 have mem:∀x∈m,∃y∈gC eP m,∃c:Rat,c>0/\y=(c*x.1,c*x.2):=fun x l=>by
  obtain ⟨y,d,e⟩:=j x l;exact ⟨y,d,H7 (hn y (sub y d)) e⟩
 refine ⟨⟨fun r f=>hn r (sub r f),fun r f=>?_,?_⟩,mem⟩
 ·obtain ⟨s,n,k,o,p,q⟩:=ho r (sub r f);obtain ⟨y,d,c,t,e⟩:=mem s n;refine ⟨y,d,c*k,mp t o,?_,?_⟩
  ·rw [e];show c*s.1=_;rw [p];grind
  ·rw [e];show c*s.2=_;rw [q];grind
 ·refine List.Pairwise.imp_of_mem ?_ i;intro a b u v g;exact (NZ (hn a (sub a u)) (hn b (sub b v))).1 g
section
variable {D:List V2} (h:MQ D)
include h
theorem OO {i:Nat}{u w:V2}(hi:D[i]?=some u)(hw:D[(i+1)%D.length]?=some w):cr u w≥0:=by
 by_cases q:cr u w≥0
 ·exact q
 exfalso;have b:w∈D:=List.mem_of_getElem? hw;have hu:u∈D:=List.mem_of_getElem? hi;obtain ⟨s,c,d⟩:=h.cl w b;obtain ⟨k,f,_,g⟩:=AD d u;have p:cr u s>0:=by rw [g];have:=mp f (show -(cr u w)>0 by grind);grind
 obtain ⟨j,a⟩:=List.getElem?_of_mem c;refine MZ (h.nz u hu) (h.nz w b) (h.nz s c) (Tn h hi hw a (fun e=>?_) (fun e=>?_)) p (by grind)
 ·rw [e,hi] at a;cases a;unfold cr at p;grind
 ·rw [e,hw] at a;cases a;grind
omit h in
def Ry (f:V2->V2->V2)(D:List V2):List V2:=(List.range D.length).map fun i=>f (D.getD i (0,0)) (D.getD ((i+1)%D.length) (0,0))
theorem Mq {f:V2->V2->V2}(hf:∀u∈D,∀w∈D,cr u w≥0->Gv u w (f u w))(hD:D≠[]):Se D (Ry f D):=by
 have j:0<D.length:=List.length_pos_iff.2 hD
 have key:∀i u w,D[i]?=some u->D[(i+1)%D.length]?=some w->D.getD i (0,0)=u/\D.getD ((i+1)%D.length) (0,0)=w/\Gv u w (f u w):=fun i u w a hw=>
  ⟨by rw [List.getD_eq_getElem?_getD,a];rfl,by rw [List.getD_eq_getElem?_getD,hw];rfl,hf u (List.mem_of_getElem? a) w (List.mem_of_getElem? hw) (OO h a hw)⟩
 refine .inr ⟨hD,fun x k=>?_,fun i u w a hw=>?_⟩
 ·obtain ⟨i,a,rfl⟩:=List.mem_map.1 k;have a:=List.mem_range.1 a;have e:D[i]?=some D[i]:=List.getElem?_eq_getElem a;have g:D[(i+1)%D.length]?=some (D[(i+1)%D.length]'(Nat.mod_lt _ j)):=List.getElem?_eq_getElem _;obtain ⟨b,c,d⟩:=key i _ _ e g;exact ⟨i,_,_,e,g,by rw [b,c];exact d⟩
 ·obtain ⟨b,c,d⟩:=key i u w a hw;refine ⟨_,List.mem_map.2 ⟨i,List.mem_range.2 (List.getElem?_eq_some_iff.1 a).1,rfl⟩,?_⟩;rw [b,c];exact d
end
theorem tY {a b c x y z:Int}(h1:a*y=b*x)(h2:a*z=c*x)(g:Nat.gcd (Nat.gcd x.natAbs y.natAbs) z.natAbs=1):x.natAbs∣a.natAbs:=by
 have d:a.natAbs*y.natAbs=b.natAbs*x.natAbs:=by rw [←Int.natAbs_mul,←Int.natAbs_mul,h1]
 have e:a.natAbs*z.natAbs=c.natAbs*x.natAbs:=by rw [←Int.natAbs_mul,←Int.natAbs_mul,h2]
 have d1:x.natAbs∣a.natAbs*Nat.gcd (Nat.gcd x.natAbs y.natAbs) z.natAbs:=by
  rw [←Nat.gcd_mul_left,←Nat.gcd_mul_left];exact Nat.dvd_gcd (Nat.dvd_gcd ⟨a.natAbs,by rw [Nat.mul_comm]⟩ ⟨b.natAbs,by rw [d,Nat.mul_comm]⟩) ⟨c.natAbs,by rw [e,Nat.mul_comm]⟩
 rwa [g,Nat.mul_one] at d1
theorem HB {l m:L3}(ol:lR l=true)(om:lR m=true)(cl:lL l=l)(cm:lL m=m){x y:Rat}(hl:bg l x y=0)(hm:bg m x y=0)
  (hc:cr (bw l) (bw m)=0):l=m:=by
 unfold lR at ol om;rw [Bool.and_eq_true,decide_eq_true_iff,decide_eq_true_iff] at ol om
 have d:l.1*m.2.1=l.2.1*m.1:=by
  unfold cr bw at hc;have:(l.1:Rat)*(m.2.1:Rat)=(l.2.1:Rat)*(m.1:Rat):=by grind
  exact_mod_cast this
 unfold bg at hl hm;have o:(l.1:Rat)*(m.2.1:Rat)=(l.2.1:Rat)*(m.1:Rat):=by exact_mod_cast d
 have e:l.1*m.2.2=l.2.2*m.1:=by
  have:(l.1:Rat)*(m.2.2:Rat)=(l.2.2:Rat)*(m.1:Rat):=by grind
  exact_mod_cast this
 have f:l.2.1*m.2.2=l.2.2*m.2.1:=by
  have:(l.2.1:Rat)*(m.2.2:Rat)=(l.2.2:Rat)*(m.2.1:Rat):=by grind
  exact_mod_cast this
 obtain ⟨p,j⟩:=ol;obtain ⟨q,k⟩:=om;unfold bE at j k;have r:Nat.gcd (Nat.gcd l.2.1.natAbs l.1.natAbs) l.2.2.natAbs=1:=by rw [Nat.gcd_comm l.2.1.natAbs];exact j
 have s:Nat.gcd (Nat.gcd m.2.1.natAbs m.1.natAbs) m.2.2.natAbs=1:=by rw [Nat.gcd_comm m.2.1.natAbs];exact k
 have u:l.1.natAbs=m.1.natAbs:=Nat.dvd_antisymm (tY (a:=m.1) (b:=m.2.1) (c:=m.2.2) (by rw [Int.mul_comm,←d,Int.mul_comm]) (by rw [Int.mul_comm,←e,Int.mul_comm]) j) (tY d e k);have v:l.2.1.natAbs=m.2.1.natAbs:=Nat.dvd_antisymm (tY (a:=m.2.1) (b:=m.1) (c:=m.2.2) (by rw [Int.mul_comm,d,Int.mul_comm]) (by rw [Int.mul_comm,←f,Int.mul_comm]) r) (tY (b:=l.1) (c:=l.2.2) d.symm f s)
 have sl:¬(l.1<0\/l.1=0/\l.2.1<0):=fun h=>by
  unfold lL at cl;rw [if_pos h] at cl;have g:-l.1=l.1:=congrArg (fun x:L3=>x.1) cl;have i:-l.2.1=l.2.1:=congrArg (fun x:L3=>x.2.1) cl;omega
 have sm:¬(m.1<0\/m.1=0/\m.2.1<0):=fun h=>by
  unfold lL at cm;rw [if_pos h] at cm;have g:-m.1=m.1:=congrArg (fun x:L3=>x.1) cm;have i:-m.2.1=m.2.1:=congrArg (fun x:L3=>x.2.1) cm;omega
 have g:l.1=m.1:=by omega
 by_cases z:l.1=0
 ·have i:l.2.1=m.2.1:=by omega
  have t:l.2.1≠0:=fun h=>p ⟨z,h⟩;have n:m.2.2=l.2.2:=Int.eq_of_mul_eq_mul_left t (by rw [f,i,Int.mul_comm]);exact Prod.ext g (Prod.ext i n.symm)
 ·have i:m.2.1=l.2.1:=Int.eq_of_mul_eq_mul_left z (by rw [d,g,Int.mul_comm]);have n:m.2.2=l.2.2:=Int.eq_of_mul_eq_mul_left z (by rw [e,g,Int.mul_comm]);exact Prod.ext g (Prod.ext i.symm n.symm)
end Go.Proofs.Tryz.br
namespace Go.Proofs.Tryz.br
def mx (x:Rat×Rat)(t:Rat):Rat:=x.1+t*(x.2-x.1)
theorem Jq {x:Rat×Rat}{t:Rat}(h1:x.1>0)(h2:x.2>0)(t0:t>0)(t1:t<=1):mx x t>0:=by
 have a:=mn (show 1-t≥0 by grind) (show x.1≥0 by grind);have b:=mp t0 h2;unfold mx;grind
theorem OL {x:Rat×Rat}{t s:Rat}(h1:x.1>0)(hs:mx x s≥0)(s0:s>0)(t0:t>0)(ts:t<=s):mx x t≥0:=by
 unfold mx at *;have e:s*(x.1+t*(x.2-x.1))=(s-t)*x.1+t*(x.1+s*(x.2-x.1)):=by grind
 have a:=mn (show s-t≥0 by grind) (show x.1≥0 by grind);have b:=mn (show t≥0 by grind) hs;by_cases h:x.1+t*(x.2-x.1)≥0
 ·exact h
 ·have:=mp s0 (show -(x.1+t*(x.2-x.1))>0 by grind);grind
theorem Gt {y:Rat×Rat}(h1:y.1>0){s:Rat}(s0:s>0)(hs:mx y s<=0):∃t,t>0/\t<=s/\mx y t=0:=by
 have a:y.1-y.2>0:=by
  by_cases c:y.1-y.2>0
  ·exact c
  ·have:=mn (show s≥0 by grind) (show y.2-y.1≥0 by grind);unfold mx at hs;grind
 have e:=inv_mul (show y.1-y.2≠0 by grind) y.1;have p:=mp h1 (Rat.inv_pos.2 a);refine ⟨y.1*(y.1-y.2)⁻¹,p,?_,?_⟩
 ·generalize y.1*(y.1-y.2)⁻¹=t at *;by_cases c:t<=s
  ·exact c
  ·have:=mp (show t-s>0 by grind) a;unfold mx at hs;grind
 ·generalize y.1*(y.1-y.2)⁻¹=t at *;unfold mx;grind
theorem El:∀(L:List (Rat×Rat)),(∀x∈L,x.1>0)->(∃x∈L,x.2<=0)->∃t,t>0/\t<=1/\(∀x∈L,mx x t≥0)/\∃x∈L,mx x t=0
 | [],_,h=>by obtain ⟨x,hx,_⟩:=h;cases hx
 | y::L,h0,h=>by
  have j:=h0 y (List.mem_cons_self ..);have f:=fun x hx=>h0 x (List.mem_cons_of_mem y hx);by_cases c:∃x∈L,x.2<=0
  ·obtain ⟨t,t0,t1,a,x,hx,e⟩:=El L f c;by_cases g:mx y t≥0
   ·exact ⟨t,t0,t1,fun z b=>by rcases List.mem_cons.1 b with rfl|b;exact g;exact a z b,x,List.mem_cons_of_mem _ hx,e⟩
   ·obtain ⟨s,d,st,es⟩:=Gt j t0 (by grind);exact ⟨s,d,by grind,fun z b=>by rcases List.mem_cons.1 b with rfl|b;grind;exact OL (f z b) (a z b) t0 d st,y,List.mem_cons_self ..,es⟩
  ·obtain ⟨x,hx,i⟩:=h
   have:x=y:=by
    rcases List.mem_cons.1 hx with rfl|hx
    ·rfl
    ·exact absurd ⟨x,hx,i⟩ c
   subst this;obtain ⟨s,d,st,es⟩:=Gt j (s:=1) (by decide) (by unfold mx;grind);refine ⟨s,d,st,fun z b=>?_,x,List.mem_cons_self ..,es⟩;rcases List.mem_cons.1 b with rfl|b
   ·grind
   ·have:z.2>0:=by
     by_cases q:z.2>0
     ·exact q
     ·exact absurd ⟨z,b,by grind⟩ c
    have:=Jq (f z b) this d st;grind
theorem Kg:∀(L:List (Rat×Rat)),(∀x∈L,x.1>0)->∃s,s>0/\∀x∈L,x.1+s*x.2>0
 | [],_=>⟨1,by decide,fun x h=>by cases h⟩
 | y::L,h0=>by
  have hy:=h0 y (List.mem_cons_self ..);obtain ⟨s,d,h⟩:=Kg L fun x f=>h0 x (List.mem_cons_of_mem y f);by_cases c:y.1+s*y.2>0
  ·exact ⟨s,d,fun z a=>by rcases List.mem_cons.1 a with rfl|a;exact c;exact h z a⟩
  ·have b:-y.2>0:=by
    by_cases q:y.2<0
    ·grind
    ·have:=mn (show s≥0 by grind) (show y.2≥0 by grind);grind
   have e:=inv_mul (show -y.2≠0 by grind) y.1;have p:=mp hy (Rat.inv_pos.2 b);generalize y.1*(-y.2)⁻¹=r at *
   have j:r<=s:=by
    by_cases q:r<=s
    ·exact q
    ·have:=mp (show r-s>0 by grind) b;grind
   refine ⟨r*(1 / 2),by grind,fun z a=>?_⟩;rcases List.mem_cons.1 a with rfl|a
   ·grind
   ·have g:=h0 z (List.mem_cons_of_mem _ a);have i:=h z a;by_cases q:z.2≥0
    ·have:=mn (show r*(1 / 2)≥0 by grind) q;grind
    ·have:=mn (show s-r*(1 / 2)≥0 by grind) (show -z.2≥0 by grind);grind
def pos (M:List L3)(p:V2):Prop:=∀m∈M,bg m p.1 p.2>0
def Es (M:List L3)(l:L3):Prop:=∃p:V2,bg l p.1 p.2=0/\∀m∈M,m≠l->bg m p.1 p.2>0
def Vx (M:List L3):Prop:=∀l∈M,∀m∈M,l≠m->∀p:V2,bg l p.1 p.2=0->bg m p.1 p.2=0->cr (bw l) (bw m)≠0
theorem Mb {l m:L3}{w:V2}(hw:w.1≠0\/w.2≠0)(h1:nv l w=0)(h2:nv m w=0):cr (bw l) (bw m)=0:=by
 have a:cr (bw l) (bw m)*w.1=0:=by unfold nv at *;unfold cr bw;grind
 have b:cr (bw l) (bw m)*w.2=0:=by unfold nv at *;unfold cr bw;grind
 rcases hw with h|h
 ·rcases Rat.mul_eq_zero.1 a with g|g;exact g;exact absurd g h
 ·rcases Rat.mul_eq_zero.1 b with g|g;exact g;exact absurd g h
theorem Lp (u:V2):cr u u=0:=by unfold cr;grind
theorem MF (m:L3)(q p:V2)(t:Rat):bg m (q.1+t*(p.1-q.1)) (q.2+t*(p.2-q.2))=bg m q.1 q.2+t*(bg m p.1 p.2-bg m q.1 q.2):=by unfold bg;grind
theorem OM (m:L3)(q p:V2)(t:Rat):nv m (q.1+t*(p.1-q.1),q.2+t*(p.2-q.2))=nv m q+t*(nv m p-nv m q):=by unfold nv;grind
theorem ON (m:L3)(q x:V2):nv m (q.1-x.1,q.2-x.2)=bg m q.1 q.2-bg m x.1 x.2:=by unfold nv bg;grind
theorem YE {M:List L3}(hd:Vx M)(hn:∀m∈M,(bw m).1≠0\/(bw m).2≠0){q p:V2}(hq:pos M q)(hp:∀m∈M,Es M m->bg m p.1 p.2>0):pos M p:=by
 intro B C;by_cases c:bg B p.1 p.2>0
 ·exact c
 exfalso;let f:L3->Rat×Rat:=fun m=>(bg m q.1 q.2,bg m p.1 p.2);obtain ⟨t,t0,t1,ge,x,j,ex⟩:=El (M.map f) (fun x j=>by obtain ⟨m,hm,rfl⟩:=List.mem_map.1 j;exact hq m hm) ⟨f B,List.mem_map_of_mem C,by show bg B p.1 p.2<=0;grind⟩;obtain ⟨i,l,rfl⟩:=List.mem_map.1 j;let X:V2:=(q.1+t*(p.1-q.1),q.2+t*(p.2-q.2));have D:∀m,bg m X.1 X.2=mx (f m) t:=fun m=>MF m q p t;have N:∀m∈M,bg m X.1 X.2≥0:=fun m hm=>by rw [D];exact ge _ (List.mem_map_of_mem hm)
 have J:bg i X.1 X.2=0:=by rw [D];exact ex
 let u:V2:=(q.1-X.1,q.2-X.2);have K:∀m,nv m u=bg m q.1 q.2-bg m X.1 X.2:=fun m=>ON m q X;let Z:=M.filter fun m=>decide (bg m X.1 X.2=0);have r:∀m,m∈Z↔m∈M/\bg m X.1 X.2=0:=fun m=>by simp [Z,List.mem_filter]
 have O:i∈Z:=(r i).2 ⟨l,J⟩;let d:=bw i;have d0:nv i d=0:=by rw [Nu];exact Lp _
 let g:L3->Rat×Rat:=fun m=>(nv m u,nv m d)
 obtain ⟨k,k0,k1,P,y,Q,R⟩:=El (Z.map g) (fun x j=>by
  obtain ⟨m,hm,rfl⟩:=List.mem_map.1 j;obtain ⟨S,T⟩:=(r m).1 hm;show nv m u>0;rw [K,T];have:=hq m S;grind) ⟨g i,List.mem_map_of_mem O,by show nv i d<=0;rw [d0];grind⟩
 obtain ⟨n,E,rfl⟩:=List.mem_map.1 Q;obtain ⟨F,G⟩:=(r n).1 E;let w:V2:=(u.1+k*(d.1-u.1),u.2+k*(d.2-u.2));have H:∀m,nv m w=mx (g m) k:=fun m=>OM m u d k;have L:nv n w=0:=by rw [H];exact R
 have U:w.1≠0\/w.2≠0:=by
  by_cases e:k=1
  ·have:=hn i l;have v:w.1=d.1:=by dsimp only [w];rw [e];grind
   have A:w.2=d.2:=by dsimp only [w];rw [e];grind
   rw [v,A];exact this
  ·have a:nv i w>0:=by
    rw [H];show nv i u+k*(nv i d-nv i u)>0;rw [d0];have:nv i u>0:=by rw [K,J];have:=hq i l;grind
    have:=mp (show 1-k>0 by grind) this;grind
   by_cases v:w.1=0
   ·by_cases A:w.2=0
    ·unfold nv at a;rw [v,A] at a;grind
    ·exact .inr A
   ·exact .inl v
 obtain ⟨s,V,W⟩:=Kg ((M.filter fun m=>decide (bg m X.1 X.2>0)).map fun m=>(bg m X.1 X.2,nv m w)) (fun x j=>by
  obtain ⟨m,hm,rfl⟩:=List.mem_map.1 j;simpa using (List.mem_filter.1 hm).2)
 have es:Es M n:=by
  refine ⟨(X.1+s*w.1,X.2+s*w.2),?_,fun m hm I=>?_⟩
  ·rw [Gp,G,L];grind
  ·rw [Gp];by_cases z:bg m X.1 X.2=0
   ·have Y:=(r m).2 ⟨hm,z⟩;have g0:nv m w≥0:=by rw [H];exact P _ (List.mem_map_of_mem Y)
    have ne:nv m w≠0:=fun e=>hd n F m hm (fun h=>I h.symm) X G z (Mb U L e);have:=mp V (show nv m w>0 by grind);rw [z];grind
   ·have gz:=N m hm;have o:(bg m X.1 X.2,nv m w)∈((M.filter fun m=>decide (bg m X.1 X.2>0)).map fun m=>(bg m X.1 X.2,nv m w)):=List.mem_map.2 ⟨m,List.mem_filter.2 ⟨hm,by simp;grind⟩,rfl⟩;exact W _ o
 have a:=hp n F es;have b:=hq n F;have:=Jq (x:=f n) b a t0 t1;rw [←D,G] at this;grind
end Go.Proofs.Tryz.br
