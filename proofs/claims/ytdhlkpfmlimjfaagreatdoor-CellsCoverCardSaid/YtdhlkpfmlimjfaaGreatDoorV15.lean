import Derived.Test.YtdhlkpfmlimjfaaGreatDoorV14
import Derived.Test.YtdhlkpfmlimjfaaGreatDoorV6
import Derived.WalkKit
import Derived.LaidEql
import Derived.Stop.Asserts
import Derived.RowKitTokens
import Derived.Test.YtdhlkpfmlimjfaaGreatDoorV8
import Derived.Test.YtdhlkpfmlimjfaaGreatDoorV10
import Derived.Test.YtdhlkpfmlimjfaaGreatDoorV13
set_option linter.unusedVariables false
open Go.IntKind (i64 u64 u32)
namespace Go.Proofs.Tryz.Sec
abbrev V2:=Rat×Rat
def cr (u v:V2):Rat:=u.1*v.2-u.2*v.1
def dt (u v:V2):Rat:=u.1*v.1+u.2*v.2
def P5 (u:V2):V2:=(-u.2,u.1)
def up (u:V2):Prop:=u.2>0\/u.2=0/\u.1>0
def dn (u:V2):Prop:=u.2<0\/u.2=0/\u.1<0
def nz (u:V2):Prop:=u.1≠0\/u.2≠0
def rM (u v:V2):Prop:=(up u/\dn v)\/((up u/\up v\/dn u/\dn v)/\cr u v>0)
def Jh (a:Rat)(u:V2)(b:Rat)(w:V2):V2:=(a*u.1+b*w.1,a*u.2+b*w.2)
def SW (s r:V2):Prop:=∃c:Rat,c>0/\s.1=-(c*r.1)/\s.2=-(c*r.2)
theorem lL {u:V2}(h:nz u):up u\/dn u:=by unfold nz at h;unfold up dn;grind
theorem dX {u:V2}(h:up u)(h':dn u):False:=by unfold up at h;unfold dn at h';grind
theorem fL (u v:V2):cr v u=-cr u v:=by unfold cr;grind
theorem MB (u w r:V2):cr u r*w.1+cr r w*u.1=cr u w*r.1:=by unfold cr;grind
theorem DE (u w r:V2):cr u r*w.2+cr r w*u.2=cr u w*r.2:=by unfold cr;grind
theorem Dn (r:V2)(a:Rat)(u:V2)(b:Rat)(w:V2):cr r (Jh a u b w)=a*cr r u+b*cr r w:=by unfold cr Jh;grind
theorem LY (r u:V2):cr r (P5 u)=dt r u:=by unfold cr P5 dt;grind
theorem zt {s r:V2}(h:SW s r)(z:V2):∃c:Rat,c>0/\cr s z=-(c*cr r z)/\cr z s=-(c*cr z r):=by
 obtain ⟨c,d,a,b⟩:=h
 exact ⟨c,d,by unfold cr;rw [a,b];grind,by unfold cr;rw [a,b];grind⟩
theorem mp {a b:Rat}(ha:a>0)(hb:b>0):a*b>0:=Rat.mul_pos ha hb
theorem mn {a b:Rat}(ha:a≥0)(hb:b≥0):a*b≥0:=Rat.mul_nonneg ha hb
theorem b1 {u w r:V2}(hu:up u)(hw:dn w)(hr:up r)(a:cr u r>0)(b:cr r w<=0)(c:cr u w≥0):False:=by
 have e:=DE u w r
 unfold up at hu hr;unfold dn at hw
 have f:cr u r*(-w.2)≥0:=mn (by grind) (by grind)
 have g:(-(cr r w))*u.2≥0:=mn (by grind) (by grind)
 have i:cr u w*r.2≥0:=mn c (by grind)
 have d:cr u r*w.2=0:=by grind
 have j:w.2=0:=by rcases Rat.mul_eq_zero.1 d with h|h<;>grind
 have k:w.1<0:=by grind
 have l:cr r w=-(r.2*w.1):=by unfold cr;grind
 have m:r.2=0:=by
  by_cases h:r.2>0
  ·have:=mp h (show -w.1>0 by grind)
   grind
  ·grind
 have n:r.1>0:=by grind
 have o:cr u r=-(u.2*r.1):=by unfold cr;grind
 have:=mn (show u.2≥0 by grind) (show r.1≥0 by grind)
 grind
theorem b2 {u w r:V2}(hu:up u)(hw:dn w)(hr:dn r)(a:cr u r<=0)(b:cr r w>0)(c:cr u w≥0):False:=by
 have e:=DE u w r
 unfold up at hu;unfold dn at hw hr
 have g:(-(cr u r))*(-w.2)≥0:=mn (by grind) (by grind)
 have i:cr r w*u.2≥0:=mn (by grind) (by grind)
 have j:cr u w*(-r.2)≥0:=mn c (by grind)
 have d:cr r w*u.2=0:=by grind
 have k:u.2=0:=by rcases Rat.mul_eq_zero.1 d with h|h<;>grind
 have f:u.1>0:=by grind
 have l:cr u w=u.1*w.2:=by unfold cr;grind
 have m:w.2=0:=by
  by_cases h:w.2<0
  ·have:=mp f (show -w.2>0 by grind)
   grind
  ·grind
 have n:w.1<0:=by grind
 have o:cr r w=-(r.2*w.1):=by unfold cr;grind
 have:=mn (show -r.2≥0 by grind) (show -w.1≥0 by grind)
 grind
theorem b3 {u w r:V2}(hu:dn u)(hw:up w)(hr:dn r)(a:cr u r>0)(b:cr r w<=0)(c:cr u w≥0):False:=by
 have e:=DE u w r
 unfold dn at hu hr;unfold up at hw
 have g:cr u r*w.2≥0:=mn (by grind) (by grind)
 have i:(-(cr r w))*(-u.2)≥0:=mn (by grind) (by grind)
 have j:cr u w*(-r.2)≥0:=mn c (by grind)
 have d:cr u r*w.2=0:=by grind
 have k:w.2=0:=by rcases Rat.mul_eq_zero.1 d with h|h<;>grind
 have f:w.1>0:=by grind
 have l:cr r w=-(r.2*w.1):=by unfold cr;grind
 have m:r.2=0:=by
  by_cases h:r.2<0
  ·have:=mp f (show -r.2>0 by grind)
   grind
  ·grind
 have n:r.1<0:=by grind
 have o:cr u r=-(u.2*r.1):=by unfold cr;grind
 have:=mn (show -u.2≥0 by grind) (show -r.1≥0 by grind)
 grind
theorem b4 {u w r:V2}(hu:dn u)(hw:up w)(hr:up r)(a:cr u r<=0)(b:cr r w>0)(c:cr u w≥0):False:=by
 have e:=DE u w r
 unfold dn at hu;unfold up at hw hr
 have f:(-(cr u r))*w.2≥0:=mn (by grind) (by grind)
 have g:cr r w*(-u.2)≥0:=mn (by grind) (by grind)
 have i:cr u w*r.2≥0:=mn c (by grind)
 have d:cr r w*u.2=0:=by grind
 have j:u.2=0:=by rcases Rat.mul_eq_zero.1 d with h|h<;>grind
 have k:u.1<0:=by grind
 have l:cr u w=u.1*w.2:=by unfold cr;grind
 have m:w.2=0:=by
  by_cases h:w.2>0
  ·have:=mp h (show -u.1>0 by grind)
   grind
  ·grind
 have n:w.1>0:=by grind
 have o:cr r w=-(r.2*w.1):=by unfold cr;grind
 have:=mn (show r.2≥0 by grind) (show w.1≥0 by grind)
 grind
structure KT (D:List V2):Prop where
 nz:∀r∈D,nz r
 cl:∀r∈D,∃s∈D,SW s r
 asc:D.Pairwise rM
def ss (a b:Rat):Prop:=(b>0->a>0)/\(b<0->a<0)
theorem jc {u v:V2}(hu:up u)(hv:up v):rM u v->cr u v>0:=by
 rintro (⟨_,h⟩|⟨_,h⟩)
 ·exact (dX hv h).elim
 ·exact h
theorem gV {u v:V2}(hu:dn u)(hv:dn v):rM u v->cr u v>0:=by
 rintro (⟨h,_⟩|⟨_,h⟩)
 ·exact (dX h hu).elim
 ·exact h
theorem ew {u v:V2}(hu:dn u)(hv:up v):¬rM u v:=by
 rintro (⟨h,_⟩|⟨⟨h,_⟩|⟨_,h⟩,_⟩)
 ·exact dX h hu
 ·exact dX h hu
 ·exact dX hv h
section
variable {D:List V2} (h:KT D) {v:V2} (hv:∀r ∈ D,cr r v≠0)
include h hv
omit hv in
theorem x_ {i j:Nat}{a b:V2}(hi:D[i]?=some a)(hj:D[j]?=some b)(JM:i<j):rM a b:=by
 obtain ⟨c,d⟩:=List.getElem?_eq_some_iff.1 hi
 obtain ⟨e,f⟩:=List.getElem?_eq_some_iff.1 hj
 have:=List.pairwise_iff_getElem.1 h.asc i j c e JM
 rwa [d,f] at this
end
theorem PB {r:V2}(h:nz r){c:Rat}(h1:c*r.1=0)(h2:c*r.2=0):c=0:=by
 rcases Rat.mul_eq_zero.1 h1 with e|e
 ·exact e
 ·rcases Rat.mul_eq_zero.1 h2 with a|a
  ·exact a
  ·unfold nz at h;grind
theorem sq_pos {u:V2}(h:nz u):dt u u>0:=by
 have a:∀x:Rat,x*x≥0:=fun x=>by
  by_cases b:x≥0
  ·exact mn b b
  ·have:=mn (show -x≥0 by grind) (show -x≥0 by grind);grind
 have:=a u.1
 have:=a u.2
 unfold dt
 by_cases c:u.1*u.1+u.2*u.2>0
 ·exact c
 ·unfold nz at h
  have d:u.1*u.1=0:=by grind
  have f:u.2*u.2=0:=by grind
  rcases Rat.mul_eq_zero.1 d with e|e<;>rcases Rat.mul_eq_zero.1 f with e'|e'<;>grind
def Ff (u w v':V2):Prop:=cr u w>0/\(∃a b:Rat,a>0/\b>0/\v'=Jh a u b w)\/cr u w<=0/\∃a:Rat,a>0/\v'=Jh a (P5 u) 0 w
section
variable {D:List V2} (h:KT D)
include h
end
theorem N1 {u w s:V2}(nu:nz u)(nw:nz w)(ns:nz s)(o:rM s u/\rM u w\/rM u w/\rM w s\/rM w s/\rM s u)
  (a:cr u s>0)(b:cr s w>0)(c:cr u w>0):False:=by
 have l:=DE u w s
 have m:=MB u w s
 have s1:=fL u s
 have s2:=fL s w
 rcases lL nu with hu|hu<;>rcases lL nw with hw|hw<;>rcases lL ns with hs|hs
 ·rcases o with ⟨p,q⟩|⟨p,q⟩|⟨p,q⟩
  ·have:=jc hs hu p;grind
  ·have:=jc hw hs q;grind
  ·have:=jc hw hs p;grind
 ·unfold up at hu hw
  unfold dn at hs
  have i:=mn (show cr u s≥0 by grind) (show w.2≥0 by grind)
  have j:=mn (show cr s w≥0 by grind) (show u.2≥0 by grind)
  have k:=mn (show cr u w≥0 by grind) (show -s.2≥0 by grind)
  have d:cr u s*w.2=0:=by grind
  have e:cr s w*u.2=0:=by grind
  have f:w.2=0:=by rcases Rat.mul_eq_zero.1 d with h|h<;>grind
  have g:u.2=0:=by rcases Rat.mul_eq_zero.1 e with h|h<;>grind
  unfold cr at c
  rw [f,g] at c
  grind
 ·rcases o with ⟨p,q⟩|⟨p,q⟩|⟨p,q⟩
  ·have:=jc hs hu p;grind
  ·exact ew hw hs q
  ·exact ew hw hs p
 ·rcases o with ⟨p,q⟩|⟨p,q⟩|⟨p,q⟩
  ·exact ew hs hu p
  ·have:=gV hw hs q;grind
  ·exact ew hs hu q
 ·rcases o with ⟨p,q⟩|⟨p,q⟩|⟨p,q⟩
  ·exact ew hu hw q
  ·exact ew hu hw p
  ·have:=jc hw hs p;grind
 ·rcases o with ⟨p,q⟩|⟨p,q⟩|⟨p,q⟩
  ·exact ew hu hw q
  ·exact ew hu hw p
  ·have:=gV hs hu q;grind
 ·unfold dn at hu hw
  unfold up at hs
  have i:=mn (show cr u s≥0 by grind) (show -w.2≥0 by grind)
  have j:=mn (show cr s w≥0 by grind) (show -u.2≥0 by grind)
  have k:=mn (show cr u w≥0 by grind) (show s.2≥0 by grind)
  have d:cr u s*w.2=0:=by grind
  have e:cr s w*u.2=0:=by grind
  have f:w.2=0:=by rcases Rat.mul_eq_zero.1 d with h|h<;>grind
  have g:u.2=0:=by rcases Rat.mul_eq_zero.1 e with h|h<;>grind
  unfold cr at c
  rw [f,g] at c
  grind
 ·rcases o with ⟨p,q⟩|⟨p,q⟩|⟨p,q⟩
  ·have:=gV hs hu p;grind
  ·have:=gV hw hs q;grind
  ·have:=gV hw hs p;grind
theorem KX {u w s:V2}(nu:nz u)(nw:nz w)(ns:nz s)(o:rM s u/\rM u w\/rM u w/\rM w s\/rM w s/\rM s u)
  (a:cr u s>0)(c:cr u w<=0):False:=by
 have s1:=fL u s
 rcases lL nu with hu|hu<;>rcases lL ns with hs|hs
 ·rcases o with ⟨p,q⟩|⟨p,q⟩|⟨p,q⟩
  ·have:=jc hs hu p;grind
  ·rcases lL nw with hw|hw
   ·have:=jc hu hw p;grind
   ·exact ew hw hs q
  ·have:=jc hs hu q;grind
 ·rcases o with ⟨p,q⟩|⟨p,q⟩|⟨p,q⟩
  ·exact ew hs hu p
  ·rcases lL nw with hw|hw
   ·have:=jc hu hw p;grind
   ·exact b2 hu hs hw c (gV hw hs q) (by grind)
  ·exact ew hs hu q
 ·rcases o with ⟨p,q⟩|⟨p,q⟩|⟨p,q⟩
  ·rcases lL nw with hw|hw
   ·exact ew hu hw q
   ·have:=gV hu hw q;grind
  ·rcases lL nw with hw|hw
   ·exact ew hu hw p
   ·have:=gV hu hw p;grind
  ·rcases lL nw with hw|hw
   ·exact b4 hu hs hw c (jc hw hs p) (by grind)
   ·exact ew hw hs p
 ·rcases o with ⟨p,q⟩|⟨p,q⟩|⟨p,q⟩
  ·have:=gV hs hu p;grind
  ·rcases lL nw with hw|hw
   ·exact ew hu hw p
   ·have:=gV hu hw p;grind
  ·have:=gV hs hu q;grind
section
variable {D:List V2} (h:KT D)
include h
theorem Q8 {i k:Nat}{u w s:V2}(hi:D[i]?=some u)(hw:D[(i+1)%D.length]?=some w)(hk:D[k]?=some s)
  (n1:k≠i)(n2:k≠(i+1)%D.length):rM s u/\rM u w\/rM u w/\rM w s\/rM w s/\rM s u:=by
 have li:i<D.length:=(List.getElem?_eq_some_iff.1 hi).1
 have c:k<D.length:=(List.getElem?_eq_some_iff.1 hk).1
 by_cases b:i+1<D.length
 ·rw [Nat.mod_eq_of_lt b] at hw n2
  by_cases a:k<i
  ·exact .inl ⟨x_ h hk hi a,x_ h hi hw (by omega)⟩
  ·exact .inr (.inl ⟨x_ h hi hw (by omega),x_ h hw hk (by omega)⟩)
 ·have:i+1=D.length:=by omega
  rw [this,Nat.mod_self] at hw n2
  exact .inr (.inr ⟨x_ h hw hk (by omega),x_ h hk hi (by omega)⟩)
theorem M9 {i:Nat}{u w v':V2}(hi:D[i]?=some u)(hw:D[(i+1)%D.length]?=some w)(hs:Ff u w v') :
  ∀r∈D,cr r v'≠0:=by
 intro r f z
 have hu:u∈D:=List.mem_of_getElem? hi
 have m:w∈D:=List.mem_of_getElem? hw
 have n:=sq_pos (h.nz u hu)
 have o:=sq_pos (h.nz r f)
 rcases hs with ⟨c,a,b,a0,b0,rfl⟩|⟨c,a,a0,rfl⟩
 ·
  have key:∀s∈D,cr s (Jh a u b w)=0->cr u s>0->False:=fun s hs z p=>by
   have s1:=fL u s
   rw [Dn,s1] at z
   have q:cr s w>0:=by
    by_cases q:cr s w>0
    ·exact q
    ·have:=mp a0 p
     have:=mn (show b≥0 by grind) (show -(cr s w)≥0 by grind)
     grind
   obtain ⟨k,d⟩:=List.getElem?_of_mem hs
   refine N1 (h.nz u hu) (h.nz w m) (h.nz s hs) (Q8 h hi hw d (fun e=>?_) (fun e=>?_)) p q c
   ·rw [e,hi] at d;cases d;unfold cr at p;grind
   ·rw [e,hw] at d;cases d;unfold cr at q;grind
  by_cases p:cr u r>0
  ·exact key r f z p
  ·obtain ⟨s,hs,g⟩:=h.cl r f
   obtain ⟨k,j,t,l⟩:=zt g u
   obtain ⟨y,v,x,_⟩:=zt g (Jh a u b w)
   by_cases q:cr u r=0
   ·have s1:=fL u r
    rw [Dn,s1,q] at z
    have:b*cr r w=0:=by grind
    have A:cr r w=0:=by rcases Rat.mul_eq_zero.1 this with e|e<;>grind
    have B:=MB u w r
    have C:=DE u w r
    have:=PB (h.nz r f) (c:=cr u w) (by grind) (by grind)
    grind
   ·refine key s hs (by rw [x,z];grind) ?_
    rw [l]
    have:=mp j (show -(cr u r)>0 by grind)
    grind
 ·have key:∀s∈D,cr u s>0->False:=fun s hs p=>by
   obtain ⟨k,d⟩:=List.getElem?_of_mem hs
   refine KX (h.nz u hu) (h.nz w m) (h.nz s hs) (Q8 h hi hw d (fun e=>?_) (fun e=>?_)) p c
   ·rw [e,hi] at d;cases d;unfold cr at p;grind
   ·rw [e,hw] at d;cases d;grind
  rw [Dn,LY] at z
  have d0:dt r u=0:=by
   have:a*dt r u=0:=by grind
   rcases Rat.mul_eq_zero.1 this with e|e<;>grind
  have E:cr u r≠0:=fun e=>by
   have:cr u r*cr u r+dt r u*dt r u=dt u u*dt r r:=by unfold cr dt;grind
   have:=mp n o
   grind
  by_cases p:cr u r>0
  ·exact key r f p
  ·obtain ⟨s,hs,g⟩:=h.cl r f
   obtain ⟨k,j,t,l⟩:=zt g u
   refine key s hs ?_
   rw [l]
   have:=mp j (show -(cr u r)>0 by grind)
   grind
def Qk (D S:List V2):Prop:=(D=[]/\S=[(1,0)])\/D≠[]/\(∀x∈S,∃i u w,D[i]?=some u/\D[(i+1)%D.length]?=some w/\Ff u w x) /\
 ∀i u w,D[i]?=some u->D[(i+1)%D.length]?=some w->∃x∈S,Ff u w x
theorem KA {S:List V2}(hS:Qk D S):∀x∈S,∀r∈D,cr r x≠0:=by
 rcases hS with ⟨rfl,rfl⟩|⟨_,d,_⟩
 ·intro x _ r e;cases e
 ·intro x f
  obtain ⟨i,u,w,a,b,c⟩:=d x f
  exact M9 h a b c
end
end Go.Proofs.Tryz.Sec
namespace Go.Proofs.Tryz
open Go.Eng
def Sent (V:View)(g:Nat)(y:Value):Prop:=V.at ⟨g,0,none⟩ y
theorem Sent.le {V V':View}{g:Nat}{y:Value}(h:Sent V g y)(l:V.Le V'):Sent V' g y:=l.at h
def SErr (y:Value):Prop:=∃a:Addr,y=.iface 335 (.pointer (some a))
section
open Go.RowKit Go.Extern.Stop Go.Stop Go.Extern
end
end Go.Proofs.Tryz
namespace Go.Proofs.Tryz
open Go.Eng Go.Big
def RT (V:View):OA->Tr->Prop
 | p,.leaf i=>∃(b:Nat)(c0 c1 c2 c3 c4 c5 c6 c7 c8:Value)(r:OA),p=some ⟨b,0,none⟩/\V.aW b (.cells #[c0,c1,c2,c3,c4,c5,c6,c7,c8,.pointer none,.pointer r,.bool i] 122 (0,0))
 | p,.node l x y=>∃(b:Nat)(x1 x2:Int)(x3:OA)(y1 y2:Int)(y3:OA)(z1 z2:Int)(z3:OA)(pl pr:OA)(i:Bool),p=some ⟨b,0,none⟩ /\
   V.aW b (.cells #[.int .i64 x1,.int .i64 x2,.pointer x3,.int .i64 y1,.int .i64 y2,.pointer y3,.int .i64 z1,.int .i64 z2,.pointer z3,.pointer pl,.pointer pr,.bool i] 122 (0,0)) /\
   rL V (.agg #[.int .i64 x1,.int .i64 x2,.pointer x3,.int .i64 y1,.int .i64 y2,.pointer y3,.int .i64 z1,.int .i64 z2,.pointer z3]) l.1 l.2.1 l.2.2/\RT V pl x/\RT V pr y
theorem RT.le {V V':View}(h:V.Le V'):∀{t:Tr} {p:OA},RT V p t->RT V' p t
 | .leaf i,p,⟨b,c0,c1,c2,c3,c4,c5,c6,c7,c8,r,e,hb⟩=>⟨b,c0,c1,c2,c3,c4,c5,c6,c7,c8,r,e,h _ _ hb⟩
 | .node l x y,p,⟨b,x1,x2,x3,y1,y2,y3,z1,z2,z3,pl,pr,i,e,hb,hl,hx,hy⟩=>⟨b,x1,x2,x3,y1,y2,y3,z1,z2,z3,pl,pr,i,e,h _ _ hb,hl.le h,RT.le h hx,RT.le h hy⟩
theorem RT.Sy {V:View}{t:Tr}{p:OA}(h:RT V p t):p.isSome=true:=by
 cases t with
 | leaf i=>obtain ⟨b,a,c,d,e,f,g,j,k,m,r,rfl,n⟩:=h;rfl
 | node l x y=>obtain ⟨b,o,q,s,u,v,w,z,A,B,pl,C,i,rfl,-⟩:=h;rfl
theorem fA {V:View}(i:Bool):Acts prog 175 #[.bool i] V fun r V'=>∃p,r=.pointer p/\RT V' p (.leaf i):=
 Cw i V _ fun c d b a=>⟨_,rfl,b,_,_,_,_,_,_,_,_,_,_,rfl,a⟩
theorem c_bsp_IsLeaf {V:View}{p:OA}{t:Tr}(h:RT V p t):Acts prog 137 #[.pointer p] V fun r V'=>r=.bool t.MA:=by
 cases t with
 | leaf i=>
  obtain ⟨b,g,j,k,m,n,o,q,s,u,r,rfl,c⟩:=h
  exact kG _ V _ ⟨rfl,rfl,_,rdc c 9 rfl,fun d e=>rfl⟩
 | node l x y=>
  obtain ⟨b,v,w,z,A,B,C,D,E,F,pl,G,i,rfl,c,H,f,I⟩:=h
  refine kG _ V _ ⟨rfl,rfl,_,rdc c 9 rfl,fun d e=>?_⟩
  have:=f.Sy
  cases pl with
  | none=>cases this
  | some a=>rfl
theorem Fs {V:View}{v:Value}{l:L3}{p q:OA}{x y:Tr}(hl:rL V v l.1 l.2.1 l.2.2)(hx:RT V p x)(hy:RT V q y) :
  Acts prog 176 #[v,.pointer p,.pointer q] V fun r V'=>∃p',r=.pointer p'/\RT V' p' (.node l x y):=by
 have a:=hl
 obtain ⟨e,f,g,h,i,j,k,m,n,rfl,-⟩:=hl
 exact D9 _ _ _ _ _ _ _ _ _ p q V _ fun o c b d=>⟨_,rfl,b,_,_,_,_,_,_,_,_,_,_,_,_,rfl,d,a.le c,hx.le c,hy.le c⟩
def At (V:View)(v:Value)(l:L3):Prop:=RL V v l.1 l.2.1 l.2.2\/okL l=false/\∃b1 p n c xs b2 q m e ys b3 s i j zs,v=.agg #[.bool b1,.slice p n c,.bool b2,.slice q m e,.bool b3,.slice s i j]/\RD V p n c xs/\RD V q m e ys/\RD V s i j zs /\
 uD b1 xs b2 ys b3 zs=false/\(xs.length<=1000000/\ys.length<=1000000/\zs.length<=1000000)/\Sz 1000000 (aO b1 xs:Rat)/\Sz 1000000 (aO b2 ys:Rat)/\Sz 1000000 (aO b3 zs:Rat)
theorem At.le {V V':View}{v:Value}{l:L3}(h:At V v l)(e:V.Le V'):At V' v l:=by
 rcases h with h|⟨a,b1,p,n,c,xs,b2,q,m,b,d,b3,s,i,j,f,hv,g,k,o,r⟩
 ·exact .inl (h.le e)
 ·exact .inr ⟨a,b1,p,n,c,xs,b2,q,m,b,d,b3,s,i,j,f,hv,g.le e,k.le e,o.le e,r⟩
theorem At.ok {V:View}{v:Value}{l:L3}(h:At V v l)(ho:okL l=true):RL V v l.1 l.2.1 l.2.2:=by
 rcases h with h|⟨h,-⟩
 ·exact h
 ·rw [ho] at h;cases h
theorem nX {V:View}{v:Value}{x:L3}(h:At V v x)(hb:Bd x) :
  Acts prog 132 #[v] V fun r V'=>∃w,r=.tuple #[w,.bool (okL x)]/\Jk w/\(okL x=true->rL V' w x.1 x.2.1 x.2.2):=by
 rcases h with h|⟨a,b1,p,n,c,xs,b2,q,m,l,o,b3,s,i,j,t,rfl,b,d,e,f,⟨u,y,z⟩,s1,s2,s3⟩
 ·exact AU h hb
 ·refine (tD b1 b2 b3 b d e (by omega) (by omega) (by omega) s1 s2 s3 (by omega)).mono ?_
  rintro r V2 A ⟨w,rfl,g,k⟩
  rw [f] at k ⊢
  rw [a]
  exact ⟨w,rfl,g,fun h=>by cases h⟩
def NR (V:View)(vs:List Value)(l:List Nd):Prop:=∀(i:Nat)(d:Nd),l[i]?=some d->∃(b1:Bool)(p1:OA)(n1 c1:Nat)(b2:Bool)(p2:OA)(n2 c2:Nat)(b3:Bool)(p3:OA)(n3 c3:Nat),
 (∀j v,([.bool b1,.slice p1 n1 c1,.bool b2,.slice p2 n2 c2,.bool b3,.slice p3 n3 c3,.int .i64 d.left,.int .i64 d.right]:List Value)[j]?=some v->vs[i*8+j]?=some v) /\
 At V (.agg #[.bool b1,.slice p1 n1 c1,.bool b2,.slice p2 n2 c2,.bool b3,.slice p3 n3 c3]) d.ln
theorem NR.le {V V':View}{vs:List Value}{l:List Nd}(h:NR V vs l)(hl:V.Le V'):NR V' vs l:=fun i d a=>by
 obtain ⟨b1,b,c,e,b2,f,g,j,b3,k,m,n,o,p⟩:=h i d a
 exact ⟨b1,b,c,e,b2,f,g,j,b3,k,m,n,o,p.le hl⟩
structure NS (V:View) (p:OA) (n c:Nat) (l:List Nd):Prop where
 len:n=l.length
 cap:n<=c
 row:∃vs,V.sl p vs/\NR V vs l
 F2:p.isNone=true->c=0
theorem NS.le {V V':View}{p:OA}{n c:Nat}{l:List Nd}(h:NS V p n c l)(hl:V.Le V'):NS V' p n c l:=by
 obtain ⟨a,b,⟨d,e,f⟩,g⟩:=h
 exact ⟨a,b,⟨d,hl.sl e,f.le hl⟩,g⟩
theorem NS.nil {V:View}:NS V none 0 0 []:=⟨rfl,Nat.le_refl _,⟨[],fun i v h=>by simp at h,fun i d h=>by simp at h⟩,fun _=>rfl⟩
theorem NS.Sy {V:View}{p:OA}{n c:Nat}{l:List Nd}(h:NS V p n c l)(hn:n≠0):p.isSome=true:=by
 cases p with
 | none=>have:=h.F2 rfl;have:=h.cap;omega
 | some a=>rfl
def kO (l:List Bool):List Value:=l.map .bool
theorem Fm {l:List Bool}{i:Nat}{b:Bool}(h:l[i]?=some b):(kO l)[i]?=some (.bool b):=by simp [kO,h]
theorem NS.rd {V:View}{p:OA}{n c:Nat}{l:List Nd}(h:NS V p n c l){k:Nat}{d:Nd}(hd:l[k]?=some d) :
  ∃(b1:Bool)(p1:OA)(n1 c1:Nat)(b2:Bool)(p2:OA)(n2 c2:Nat)(b3:Bool)(p3:OA)(n3 c3:Nat)(a:Addr),addrAdd p (k*8)=some a /\
   V.at (a.add 0) (.bool b1)/\V.at (a.add 1) (.slice p1 n1 c1)/\V.at (a.add 2) (.bool b2)/\V.at (a.add 3) (.slice p2 n2 c2)/\V.at (a.add 4) (.bool b3)/\V.at (a.add 5) (.slice p3 n3 c3)/\V.at (a.add 6) (.int .i64 d.left)/\V.at (a.add 7) (.int .i64 d.right) /\
   At V (.agg #[.bool b1,.slice p1 n1 c1,.bool b2,.slice p2 n2 c2,.bool b3,.slice p3 n3 c3]) d.ln:=by
 obtain ⟨r,b,g⟩:=h.row
 obtain ⟨b1,p1,n1,c1,b2,p2,n2,c2,b3,p3,n3,c3,f,i⟩:=g k d hd
 obtain ⟨m,rfl,-⟩:=b _ _ (f 0 _ rfl)
 have key:∀j v,([.bool b1,.slice p1 n1 c1,.bool b2,.slice p2 n2 c2,.bool b3,.slice p3 n3 c3,.int .i64 d.left,.int .i64 d.right]:List Value)[j]?=some v->V.at ((m.add (k*8)).add j) v:=by
  intro j v hv
  obtain ⟨o,e,q⟩:=b _ _ (f j v hv)
  cases e
  rw [addadd]
  exact q
 exact ⟨b1,p1,n1,c1,b2,p2,n2,c2,b3,p3,n3,c3,_,rfl,key 0 _ rfl,key 1 _ rfl,key 2 _ rfl,key 3 _ rfl,key 4 _ rfl,key 5 _ rfl,key 6 _ rfl,key 7 _ rfl,i⟩
theorem C9 {l:List Nd}(hb:∀x∈l,Bd x.ln)(hlen:l.length<=65536):∀(f:Nat) (n:Int) (s:RS) {V:View} {rb sb:Nat} {NQ:OA} {nc:Nat},NS V NQ l.length nc l ->
  V.w.heap[rb]?=some (.cells #[.slice NQ l.length nc,.slice (some ⟨sb,0,none⟩) l.length l.length,.int .i64 (s.jt:Int),.bool s.bad] 252 (0,0))->V.X rb ->
  V.w.heap[sb]?=some (.cells (kO s.seen).toArray 4 (0,0))->V.X sb->rb≠sb->s.seen.length=l.length->s.seen.count false<f->s.jt+s.seen.count false<=l.length ->
  Acts prog 136 #[.pointer (some ⟨rb,0,none⟩),.int .i64 n] V fun r V'=>∃p,r=.pointer p/\RT V' p (df l f n s).1 /\
   V'.w.heap[rb]?=some (.cells #[.slice NQ l.length nc,.slice (some ⟨sb,0,none⟩) l.length l.length,.int .i64 ((df l f n s).2.jt:Int),.bool (df l f n s).2.bad] 252 (0,0)) /\
   V'.w.heap[sb]?=some (.cells (kO (df l f n s).2.seen).toArray 4 (0,0)):=by
 intro f
 induction f with
 | zero=>intro n s V rb sb NQ nc _ _ _ _ _ _ _ h;omega
 | succ f ih=>
  intro n s V rb sb NQ nc m P Q R S T E b9 c0
  refine nF rb sb NQ l.length nc l.length l.length s.jt s.bad (kO s.seen) n V _ P Q R S T ⟨fun y V1 l1=>(fA _).mono ?_,fun y=>⟨fun D V4 l4=>(fA _).mono ?_,fun D=>⟨fun F V7 l7=>(fA _).mono ?_,fun F=>⟨fun K c4 c5=>(fA _).mono ?_,fun K=>?_⟩⟩⟩⟩
  ·rintro r V2 G ⟨p,rfl,d⟩
   have W:n=-2:=by simpa using y
   have e:df l (f+1) n s=(.leaf true,s):=by simp [df,W]
   rw [y] at d
   exact ⟨p,rfl,fun I j g c=>⟨p,rfl,by rw [e];exact d.le j,by rw [e];exact g,by rw [e];exact c⟩⟩
  ·rintro r V2 G ⟨p,rfl,d⟩
   have W:n=-1:=by simpa using D
   have e:df l (f+1) n s=(.leaf false,s):=by simp [df,W]
   rw [y] at d
   exact ⟨p,rfl,fun I j g c=>⟨p,rfl,by rw [e];exact d.le j,by rw [e];exact g,by rw [e];exact c⟩⟩
  ·rintro r V2 G ⟨p,rfl,d⟩
   have B:¬n=-2:=by simpa using y
   have C:¬n=-1:=by simpa using D
   have z:n<0:=by simpa using F
   have e:df l (f+1) n s=(.leaf false,{ s with bad:=true }):=by simp [df,B,C,z]
   exact ⟨p,rfl,fun I j g c=>⟨p,rfl,by rw [e];exact d.le j,by rw [e];exact g,by rw [e];exact c⟩⟩
  ·rintro r V2 G ⟨p,rfl,d⟩
   have B:¬n=-2:=by simpa using y
   have C:¬n=-1:=by simpa using D
   have z:¬n<0:=by simpa using F
   have L:(l.length:Int)<=n:=by simpa using K
   have e:df l (f+1) n s=(.leaf false,{ s with bad:=true }):=by
    simp only [df,B,C,z,if_false]
    rw [List.getElem?_eq_none (by omega)]
   exact ⟨p,rfl,fun I j g c=>⟨p,rfl,by rw [e];exact d.le j,by rw [e];exact g,by rw [e];exact c⟩⟩
  ·have B:¬n=-2:=by simpa using y
   have C:¬n=-1:=by simpa using D
   have z:¬n<0:=by simpa using F
   have L:n<(l.length:Int):=by simpa using K
   clear y D F K
   obtain ⟨k,rfl⟩:=Int.eq_ofNat_of_zero_le (Int.not_lt.1 z)
   have hk:k<l.length:=by omega
   have Y:k<s.seen.length:=by omega
   simp only [Int.toNat_natCast,Nat.mul_one,Nat.zero_add]
   have i:s.seen[k]?=some s.seen[k]:=List.getElem?_eq_getElem Y
   have t:l[k]?=some l[k]:=List.getElem?_eq_getElem hk
   refine ⟨⟨by omega,L⟩,s.seen[k],Fm i,fun Z c6 c7=>(fA _).mono ?_,fun Z=>⟨⟨by omega,L⟩,by simp [kO];omega,m.Sy (by omega),⟨by omega,L⟩,?_⟩⟩
   ·rintro r V2 G ⟨p,rfl,d⟩
    have e:df l (f+1) (k:Int) s=(.leaf false,{ s with bad:=true }):=by
     simp only [df,B,C,z,if_false,Int.toNat_natCast]
     rw [i,Z,t]
    exact ⟨p,rfl,fun I j g c=>⟨p,rfl,by rw [e];exact d.le j,by rw [e];exact g,by rw [e];exact c⟩⟩
   ·obtain ⟨b1,p1,m1,c1,b2,p2,m2,c2,b3,p3,m3,c3,a,ha,a0,a1,a2,a3,a4,a5,a6,a7,hL⟩:=m.rd t
    refine ⟨b1,p1,m1,c1,b2,p2,m2,c2,b3,p3,m3,c3,_,_,a,ha,a0,a1,a2,a3,a4,a5,a6,a7,fun lW cY=>(nX (hL.le cY) (hb _ (List.getElem_mem hk))).mono ?_⟩
    rintro r nQ cN ⟨w,rfl,⟨x1,x2,x3,y1,y2,y3,z1,z2,z3,rfl⟩,hw⟩
    rw [Z] at i
    have J:(kO s.seen).set k (.bool true)=kO (s.seen.set k true):=by simp [kO,List.map_set]
    have M:=count_set i
    have w1:i64.wrap ((s.jt:Int)+1)=((s.jt+1:Nat):Int):=by rw [i64w (by omega)];omega
    rw [J,w1]
    refine ⟨_,_,_,_,_,_,_,_,_,_,rfl,fun A qG dU=>(fA _).mono ?_,fun A vS gj a8 a9 g c g3 g4 g5=>?_⟩
    ·rintro r V2 G ⟨p,rfl,d⟩
     have A:okL l[k].ln=false:=by simpa using A
     have e:df l (f+1) (k:Int) s=(.leaf false,⟨s.seen.set k true,s.jt+1,true⟩):=by
      simp only [df,B,C,z,if_false,Int.toNat_natCast]
      rw [i,t]
      simp [A]
     exact ⟨p,rfl,fun I j g c=>⟨p,rfl,by rw [e];exact d.le j,by rw [e];exact g,by rw [e];exact c⟩⟩
    ·have A:okL l[k].ln=true:=by simpa using A
     have lv:V.Le vS:=cY.trans (cN.trans gj)
     have N:∀(U:View)(u v:Nat),U.H u->U.H v->(U.lend [u,v]).X u/\(U.lend [u,v]).X v:=fun U u v hu hv=>⟨⟨by simp,hu⟩,⟨by simp,hv⟩⟩
     have i1:=ih l[k].left ⟨s.seen.set k true,s.jt+1,s.bad⟩ (V:=vS.lend [a8,a9]) (m.le lv) g (N _ _ _ c g4).1 g3 (N _ _ _ c g4).2 g5 (by simp [E]) (by dsimp only;omega) (by dsimp only;omega)
     have hm:=oG l f l[k].left ⟨s.seen.set k true,s.jt+1,s.bad⟩
     have b5:=sQ l f l[k].left ⟨s.seen.set k true,s.jt+1,s.bad⟩
     have e:df l (f+1) (k:Int) s=(.node l[k].ln (df l f l[k].left ⟨s.seen.set k true,s.jt+1,s.bad⟩).1 (df l f l[k].right (df l f l[k].left ⟨s.seen.set k true,s.jt+1,s.bad⟩).2).1,(df l f l[k].right (df l f l[k].left ⟨s.seen.set k true,s.jt+1,s.bad⟩).2).2):=by
      simp only [df,B,C,z,if_false,Int.toNat_natCast]
      rw [i,t]
      simp [A]
     rw [e]
     clear e
     dsimp only
     generalize df l f l[k].left ⟨s.seen.set k true,s.jt+1,s.bad⟩=q1 at *
     obtain ⟨t1,s1⟩:=q1
     dsimp only at i1 hm b5 ⊢
     refine i1.mono ?_
     rintro r yA kJ ⟨p,rfl,d,e1,e2⟩
     refine ⟨p,rfl,_,_,_,_,_,e1,_,e2,fun O gS NJ b6 f1 f2 f3 f4 f5=>?_⟩
     have Vu:vS.Le O:=fun b o h=>gS b o (kJ b o h)
     have i2:=ih l[k].right s1 (V:=O.lend [NJ,b6]) (m.le (lv.trans Vu)) f1 (N _ _ _ f2 f4).1 f3 (N _ _ _ f2 f4).2 f5 (by rw [hm.2];simp [E]) (by omega) (by omega)
     generalize df l f l[k].right s1=q2 at *
     obtain ⟨t2,s2⟩:=q2
     dsimp only at i2 ⊢
     refine i2.mono ?_
     rintro r Jc xY ⟨q,rfl,hq,e3,e4⟩
     refine ⟨q,rfl,_,_,_,_,_,e3,_,e4,fun GL b7=>?_⟩
     have O7:O.Le Jc:=fun b o h=>xY b o h
     have MF:Jc.Le GL:=fun b o h=>b7 b o h
     have lw:nQ.Le GL:=gj.trans (Vu.trans (O7.trans MF))
     have SD:yA.Le O:=fun b o h=>gS b o h
     refine (Fs ((hw A).le lw) (d.le (SD.trans (O7.trans MF))) (hq.le MF)).mono ?_
     rintro r LL c8 ⟨u,rfl,hu⟩
     exact ⟨u,rfl,fun NB b8 g c=>⟨u,rfl,hu.le b8,g,c⟩⟩
theorem G7 {V:View}{l:List Nd}(hb:∀x∈l,Bd x.ln){p:OA}{n c:Nat}(root:Int)(h:NS V p n c l) :
  Acts prog 93 #[.agg #[.int .i64 root,.slice p n c]] V fun r V'=>(ofT l root=none->∃q,r=.tuple #[.pointer q,.bool false])/\(∀t,ofT l root=some t->∃q,r=.tuple #[.pointer q,.bool true]/\RT V' q t):=by
 have v:=h.len
 subst v
 refine Gt root p l.length c V _ ⟨fun a J K=>?_,fun a=>⟨by omega,Int.le_refl _,?_,fun V2 w j k u y m z A=>?_⟩⟩
 ·have a:65536<l.length:=by simp at a;omega
  have e:ofT l root=none:=by unfold ofT;rw [if_pos a]
  exact ⟨fun _=>⟨_,rfl⟩,fun t d=>by rw [e] at d;cases d⟩
 ·have a:¬65536<l.length:=by simp at a;omega
  omega
 ·have a:¬65536<l.length:=by simp at a;omega
  simp only [Int.toNat_natCast] at u m ⊢
  have B:List.replicate l.length (Value.bool false)=kO (List.replicate l.length false):=by simp [kO]
  rw [B] at m
  have C:(List.replicate l.length false).count false=l.length:=by simp
  refine (C9 hb (by omega) (l.length+1) root ⟨List.replicate l.length false,0,false⟩ (V:=V2.lend [j,k]) (h.le w) u ⟨by simp,y⟩ m ⟨by simp,z⟩ A (by simp) (by dsimp only;omega) (by dsimp only;omega)).mono ?_
  rintro r D L ⟨q,rfl,E,F,G⟩
  have g:ofT l root=if (df l (l.length+1) root ⟨List.replicate l.length false,0,false⟩).2.bad=true\/(df l (l.length+1) root ⟨List.replicate l.length false,0,false⟩).2.jt≠l.length then none else some (df l (l.length+1) root ⟨List.replicate l.length false,0,false⟩).1:=by
   unfold ofT;rw [if_neg a]
  rw [g]
  clear g
  generalize df l (l.length+1) root ⟨List.replicate l.length false,0,false⟩=r0 at *
  obtain ⟨t,s⟩:=r0
  refine ⟨q,rfl,_,_,_,_,_,F,_,G,fun i M N=>?_,fun i=>⟨fun f O P=>?_,fun f H I=>?_⟩⟩
  ·rw [if_pos (.inl i)]
   exact ⟨fun _=>⟨_,rfl⟩,fun t d=>by cases d⟩
  ·have f:s.jt≠l.length:=by simp at f;omega
   rw [if_pos (.inr f)]
   exact ⟨fun _=>⟨_,rfl⟩,fun t d=>by cases d⟩
  ·have f:s.jt=l.length:=by simp at f;omega
   dsimp only at i ⊢
   rw [if_neg (by rw [i,f];simp)]
   exact ⟨fun e=>(by cases e),fun t1 d=>by cases d;exact ⟨q,rfl,RT.le (V:=D) (V':=H) (fun b o h=>I b o h) E⟩⟩
theorem Acts.Pn {f:FuncId}{args:Array Value}{V:View}{R R':Value->View->Prop}(h:Acts prog f args V R)(hR:∀r V',V.Le V'->(∀b,V'.H b->V.H b)->R r V'->R' r V'):Acts prog f args V R':=
 ⟨h.1,h.2.mono fun _ c ⟨r,he,a,d⟩=>⟨r,he,a,hR r _ (V.Lr c a) (fun _ e=>e) d⟩⟩
theorem vb_ne {vs:List Value}{n b:Nat}(h:vs≠[]):vb vs n b=b:=by cases vs with|nil=>exact absurd rfl h|cons v r=>rfl
theorem NR.push {V:View}{vs sp:List Value}{l:List Nd}(h:NR V vs l)(hl:l.length*8<=vs.length){ln:L3}{x y:Int}{b1:Bool}{p1:OA}{n1 c1:Nat}{b2:Bool}{p2:OA}{n2 c2:Nat}{b3:Bool}{p3:OA}{n3 c3:Nat}
  (hL:RL V (.agg #[.bool b1,.slice p1 n1 c1,.bool b2,.slice p2 n2 c2,.bool b3,.slice p3 n3 c3]) ln.1 ln.2.1 ln.2.2) :
  NR V (vs.take (l.length*8)++[.bool b1,.slice p1 n1 c1,.bool b2,.slice p2 n2 c2,.bool b3,.slice p3 n3 c3,.int .i64 x,.int .i64 y]++sp) (l++[⟨ln,x,y⟩]):=by
 intro i d b
 rcases Nat.lt_or_ge i l.length with c|c
 ·rw [List.getElem?_append_left c] at b
  obtain ⟨e,r,f,g,k,s,t,m,n,u,w,o,z,A⟩:=h i d b
  refine ⟨e,r,f,g,k,s,t,m,n,u,w,o,fun j v hv=>?_,A⟩
  have a:j<8:=by
   rcases Nat.lt_or_ge j 8 with a|a
   ·exact a
   ·rw [List.getElem?_eq_none (by simpa using a)] at hv;cases hv
  have:=z j v hv
  rw [List.append_assoc,List.getElem?_append_left (by rw [List.length_take];omega),List.getElem?_take,if_pos (by omega)]
  exact this
 ·rw [List.getElem?_append_right c] at b
  have p:i=l.length:=by
   rcases Nat.lt_or_ge (i-l.length) 1 with q|q
   ·omega
   ·rw [List.getElem?_eq_none (by simpa using q)] at b;cases b
  subst p
  simp only [Nat.sub_self,List.getElem?_cons_zero,Option.some.injEq] at b
  subst b
  refine ⟨b1,p1,n1,c1,b2,p2,n2,c2,b3,p3,n3,c3,fun j v hv=>?_,.inl hL⟩
  have a:j<8:=by
   rcases Nat.lt_or_ge j 8 with a|a
   ·exact a
   ·rw [List.getElem?_eq_none (by simpa using a)] at hv;cases hv
  rw [List.append_assoc,List.getElem?_append_right (by rw [List.length_take];omega),List.length_take,Nat.min_eq_left hl,Nat.add_sub_cancel_left,List.getElem?_append_left (by simpa using a)]
  exact hv
theorem NR.Tt {V:View}{vs:List Value}{l:List Nd}(h:NR V vs l){k:Nat}{d:Nd}(hd:l[k]?=some d){x:Int}:NR V (vs.set (k*8+6) (.int .i64 x)) (l.set k ⟨d.ln,x,d.right⟩):=by
 intro i y a
 rw [List.getElem?_set] at a
 split at a
 ·rename_i e
  subst e
  split at a
  ·cases a
   obtain ⟨b1,f,g,m,b2,o,p,q,b3,r,s,t,c,u⟩:=h k d hd
   refine ⟨b1,f,g,m,b2,o,p,q,b3,r,s,t,fun j v hv=>?_,u⟩
   rw [List.getElem?_set]
   by_cases b:j=6
   ·subst b
    have:=c 6 _ rfl
    have w:k*8+6<vs.length:=by
     rcases Nat.lt_or_ge (k*8+6) vs.length with h|h
     ·exact h
     ·rw [List.getElem?_eq_none h] at this;cases this
    rw [if_pos rfl,if_pos w]
    exact hv
   ·rw [if_neg (by omega)]
    refine c j v ?_
    match j,b,hv with
    | 0,_,hv=>exact hv
    | 1,_,hv=>exact hv
    | 2,_,hv=>exact hv
    | 3,_,hv=>exact hv
    | 4,_,hv=>exact hv
    | 5,_,hv=>exact hv
    | 6,b,_=>exact absurd rfl b
    | 7,_,hv=>exact hv
    | n+8,_,hv=>exact hv
  ·cases a
 ·rename_i e
  obtain ⟨b1,f,g,m,b2,o,p,q,b3,r,s,t,c,u⟩:=h i y a
  refine ⟨b1,f,g,m,b2,o,p,q,b3,r,s,t,fun j v hv=>?_,u⟩
  have b:j<8:=by
   rcases Nat.lt_or_ge j 8 with b|b
   ·exact b
   ·rw [List.getElem?_eq_none (by simpa using b)] at hv;cases hv
  rw [List.getElem?_set_ne (by omega)]
  exact c j v hv
theorem NR.Tu {V:View}{vs:List Value}{l:List Nd}(h:NR V vs l){k:Nat}{d:Nd}(hd:l[k]?=some d){x:Int}:NR V (vs.set (k*8+7) (.int .i64 x)) (l.set k ⟨d.ln,d.left,x⟩):=by
 intro i y a
 rw [List.getElem?_set] at a
 split at a
 ·rename_i e
  subst e
  split at a
  ·cases a
   obtain ⟨b1,f,g,m,b2,o,p,q,b3,r,s,t,c,u⟩:=h k d hd
   refine ⟨b1,f,g,m,b2,o,p,q,b3,r,s,t,fun j v hv=>?_,u⟩
   rw [List.getElem?_set]
   by_cases b:j=7
   ·subst b
    have:=c 7 _ rfl
    have w:k*8+7<vs.length:=by
     rcases Nat.lt_or_ge (k*8+7) vs.length with h|h
     ·exact h
     ·rw [List.getElem?_eq_none h] at this;cases this
    rw [if_pos rfl,if_pos w]
    exact hv
   ·rw [if_neg (by omega)]
    refine c j v ?_
    match j,b,hv with
    | 0,_,hv=>exact hv
    | 1,_,hv=>exact hv
    | 2,_,hv=>exact hv
    | 3,_,hv=>exact hv
    | 4,_,hv=>exact hv
    | 5,_,hv=>exact hv
    | 6,_,hv=>exact hv
    | 7,b,_=>exact absurd rfl b
    | n+8,_,hv=>exact hv
  ·cases a
 ·rename_i e
  obtain ⟨b1,f,g,m,b2,o,p,q,b3,r,s,t,c,u⟩:=h i y a
  refine ⟨b1,f,g,m,b2,o,p,q,b3,r,s,t,fun j v hv=>?_,u⟩
  have b:j<8:=by
   rcases Nat.lt_or_ge j 8 with b|b
   ·exact b
   ·rw [List.getElem?_eq_none (by simpa using b)] at hv;cases hv
  rw [List.getElem?_set_ne (by omega)]
  exact c j v hv
theorem NR.kids {V:View}{vs:List Value}{l r:List Nd}{ln:L3}{u v x y:Int}(h:NR V vs (l++⟨ln,u,v⟩::r)):NR V ((vs.set (l.length*8+6) (.int .i64 x)).set (l.length*8+7) (.int .i64 y)) (l++⟨ln,x,y⟩::r):=by
 have c:(l++(⟨ln,u,v⟩:Nd)::r)[l.length]?=some ⟨ln,u,v⟩:=by simp
 have a:=h.Tt c (x:=x)
 have d:(l++(⟨ln,u,v⟩:Nd)::r).set l.length ⟨ln,x,v⟩=l++⟨ln,x,v⟩::r:=by simp
 rw [d] at a
 have e:(l++(⟨ln,x,v⟩:Nd)::r)[l.length]?=some ⟨ln,x,v⟩:=by simp
 have b:=a.Tu e (x:=y)
 have f:(l++(⟨ln,x,v⟩:Nd)::r).set l.length ⟨ln,x,y⟩=l++⟨ln,x,y⟩::r:=by simp
 rw [f] at b
 exact b
theorem NR.take {V:View}{vs:List Value}{l:List Nd}(h:NR V vs l):NR V (vs.take (l.length*8)) l:=by
 intro i d b
 obtain ⟨b1,c,e,f,b2,g,k,m,b3,n,o,p,q,r⟩:=h i d b
 refine ⟨b1,c,e,f,b2,g,k,m,b3,n,o,p,fun j v hv=>?_,r⟩
 have a:j<8:=by
  rcases Nat.lt_or_ge j 8 with a|a
  ·exact a
  ·rw [List.getElem?_eq_none (by simpa using a)] at hv;cases hv
 have s:i<l.length:=by
  rcases Nat.lt_or_ge i l.length with h|h
  ·exact h
  ·rw [List.getElem?_eq_none h] at b;cases b
 rw [List.getElem?_take,if_pos (by omega)]
 exact q j v hv
theorem NS.ofRow {V:View}{b c:Nat}{vm:List Value}{l:List Nd}{ty:TypeId}(hb:vm≠[]->V.aW b (.cells vm.toArray ty (0,0)))(hc:l.length<=c)(hr:NR V vm l):NS V (mA b c) l.length c l:=by
 refine ⟨rfl,hc,⟨_,?_,hr.take⟩,?_⟩
 ·intro i v hv
  rw [List.getElem?_take] at hv
  split at hv
  ·rename_i d
   have a:vm≠[]:=fun e=>by rw [e] at hv;simp at hv
   refine ⟨⟨b,0,none⟩,by unfold mA;rw [if_neg (by omega)],?_⟩
   rw [add_zero']
   exact blk_at (hb a) hv
  ·cases hv
 ·intro e
  unfold mA at e
  split at e
  ·assumption
  ·cases e
def QQ (V:View)(vs:List Value)(ts:List Tr):Prop:=∀(i:Nat)(t:Tr),ts[i]?=some t->∃p,vs[i]?=some (.pointer p)/\RT V p t
theorem QQ.le {V V':View}{vs:List Value}{ts:List Tr}(h:QQ V vs ts)(l:V.Le V'):QQ V' vs ts:=fun i t a=>by
 obtain ⟨p,b,c⟩:=h i t a
 exact ⟨p,b,c.le l⟩
def AT (V:View)(v:Value)(root:Int)(l:List Nd):Prop:=∃q n c,v=.agg #[.int .i64 root,.slice q n c]/\NS V q n c l
theorem AT.le {V V':View}{v:Value}{root:Int}{l:List Nd}(h:AT V v root l)(hl:V.Le V'):AT V' v root l:=by
 obtain ⟨q,n,c,e,h⟩:=h;exact ⟨q,n,c,e,h.le hl⟩
theorem AT.zero {V:View}:AT V (.agg #[.int .i64 0,.slice none 0 0]) 0 []:=⟨_,_,_,rfl,NS.nil⟩
theorem c_bsp_Of' {V:View}{l:List Nd}(hb:∀x∈l,Bd x.ln){v:Value}{root:Int}(h:AT V v root l) :
  Acts prog 93 #[v] V fun r V'=>∃q,r=.tuple #[.pointer q,.bool (ofT l root).isSome]/\∀t,ofT l root=some t->RT V' q t:=by
 obtain ⟨p,n,c,rfl,h⟩:=h
 refine (G7 hb root h).mono ?_
 rintro r V' _ ⟨b,d⟩
 cases e:ofT l root with
 | none=>obtain ⟨q,rfl⟩:=b e;exact ⟨q,rfl,fun t a=>by cases a⟩
 | some t=>obtain ⟨q,rfl,f⟩:=d t e;exact ⟨q,rfl,fun g a=>by cases a;exact f⟩
def RW (V:View):OA->Tr->Prop
 | p,.leaf i=>∃(b:Nat)(c2 c3 c4 c5 c6 c7 c8 c9:Value),p=some ⟨b,0,none⟩/\V.aW b (.cells #[.bool true,.bool i,c2,c3,c4,c5,c6,c7,c8,c9] 107 (0,0))
 | p,.node l x y=>∃(b:Nat)(i:Bool)(b1:Bool)(p1:OA)(n1 c1:Nat)(b2:Bool)(p2:OA)(n2 c2:Nat)(b3:Bool)(p3:OA)(n3 c3:Nat)(pl pr:OA),p=some ⟨b,0,none⟩ /\
   V.aW b (.cells #[.bool false,.bool i,.bool b1,.slice p1 n1 c1,.bool b2,.slice p2 n2 c2,.bool b3,.slice p3 n3 c3,.pointer pl,.pointer pr] 107 (0,0)) /\
   RL V (.agg #[.bool b1,.slice p1 n1 c1,.bool b2,.slice p2 n2 c2,.bool b3,.slice p3 n3 c3]) l.1 l.2.1 l.2.2/\RW V pl x/\RW V pr y
theorem RW.le {V V':View}(h:V.Le V'):∀{t:Tr} {p:OA},RW V p t->RW V' p t
 | .leaf i,p,⟨b,c2,c3,c4,c5,c6,c7,c8,c9,e,hb⟩=>⟨b,c2,c3,c4,c5,c6,c7,c8,c9,e,h _ _ hb⟩
 | .node l x y,p,⟨b,i,b1,p1,n1,c1,b2,p2,n2,c2,b3,p3,n3,c3,pl,pr,e,hb,hl,hx,hy⟩=>⟨b,i,b1,p1,n1,c1,b2,p2,n2,c2,b3,p3,n3,c3,pl,pr,e,h _ _ hb,hl.le h,RW.le h hx,RW.le h hy⟩
theorem n_ {V:View}(i:Bool):Acts prog 38 #[.bool i] V fun r V'=>∃p,r=.pointer p/\RW V' p (.leaf i):=
 wY i V _ fun c d b a=>⟨_,rfl,b,_,_,_,_,_,_,_,_,rfl,a⟩
def Okb (x:L3):Prop:=okL x=true/\Bd x
theorem LV:∀(k:Nat) {V:View} {tb:Nat} {p:OA} {n c:Nat} {at_:Int},k<=10->Ja V p n->n<=400->vR V tb p n c at_->V.X tb->0<=at_ ->
  Acts prog 10 #[.pointer (some ⟨tb,0,none⟩),.int .i64 (k:Int)] V fun r V'=>∃q t at',r=.pointer q/\RW V' q t/\t.All Okb/\t.size<2^k/\0<=at'/\vR V' tb p n c at':=by
 intro k
 induction k with
 | zero=>
  intro V tb p n c at_ _ a d hw m s
  refine iB tb p n c at_ _ V _ hw m ⟨fun g V1 l1 u e1 h1=>(tB (V:=V1.lend [u]) 2 (a.le fun b o h=>l1 b o h) d e1 ⟨by simp,h1⟩ s (by omega) (by omega)).mono ?_,fun g=>by simp at g⟩
  rintro r V2 l2 ⟨x,R,rfl,-,-,t1,e⟩
  refine ⟨_,rfl,_,_,_,_,e,fun V3 l3=>(n_ _).mono ?_⟩
  rintro r V4 l4 ⟨q,rfl,v⟩
  exact ⟨_,rfl,fun V5 l5 e5=>⟨_,_,R,rfl,v.le l5,trivial,by simp [Tr.size],t1,e5⟩⟩
 | succ k ih=>
  intro V tb p n c at_ hk a d hw m s
  refine iB tb p n c at_ _ V _ hw m ⟨fun g=>by rw [beq_iff_eq] at g;omega,fun _ V6 S WS e6 h6=>(tB (V:=V6.lend [WS]) 4 (a.le fun b o h=>S b o h) d e6 ⟨by simp,h6⟩ s (by omega) (by omega)).mono ?_⟩
  rintro r V7 l7 ⟨x,R,rfl,-,-,t1,e⟩
  have w:V.Le V7:=fun b o h=>l7 b o (S b o h)
  refine ⟨_,rfl,_,_,_,_,e,fun g V8 l8 Q1 e8 h8=>(tB (V:=V8.lend [Q1]) 2 (a.le fun b o h=>l8 b o (w b o h)) d e8 ⟨by simp,h8⟩ t1 (by omega) (by omega)).mono ?_,fun g y i Q3 z K5=>(WU (V:=y.lend [Q3]) (a.le fun b o h=>i b o (w b o h)) d z ⟨by simp,K5⟩ t1).mono ?_⟩
  ·rintro r V9 l9 ⟨x,j,rfl,-,-,t2,f⟩
   refine ⟨_,rfl,_,_,_,_,f,fun a1 a2=>(n_ _).mono ?_⟩
   rintro r a3 a4 ⟨q,rfl,v⟩
   exact ⟨_,rfl,fun a5 A B=>⟨_,_,j,rfl,v.le A,trivial,by simpa [Tr.size] using Nat.two_pow_pos _,t2,B⟩⟩
  ·rintro r C dL ⟨ln,j,T,D,E,t2,f⟩
   have F:=T
   obtain ⟨b1,u1,v1,w1,b2,u2,v2,w2,b3,u3,v3,w3,rfl⟩:=(pC T)
   have U:V.Le C:=fun b o h=>dL b o (i b o (w b o h))
   have wk:i64.wrap (((k+1:Nat):Int)-1)=(k:Int):=by rw [i64w (by omega)];omega
   refine ⟨_,_,_,_,_,_,_,_,_,_,_,_,rfl,_,_,_,_,f,fun G H Q4 I K6=>?_⟩
   rw [wk]
   refine ((ih (V:=G.lend [Q4]) (by omega) (a.le fun b o h=>H b o (U b o h)) d I ⟨by simp,K6⟩ t2).mono ?_)
   rintro r W Y ⟨qa,ta,a6,rfl,Qv,Av,a7,t3,J⟩
   have FU:V.Le W:=fun b o h=>Y b o (H b o (U b o h))
   refine ⟨_,rfl,_,_,_,_,J,fun nQ K Q5 L Xb=>(ih (V:=nQ.lend [Q5]) (by omega) (a.le fun b o h=>K b o (FU b o h)) d L ⟨by simp,Xb⟩ t3).mono ?_⟩
   rintro r qG Z ⟨qb,Yh,M,rfl,XH,N,a8,t4,O⟩
   refine ⟨_,rfl,_,_,_,_,O,fun sZ P l Q hb=>⟨_,.node ln ta Yh,M,rfl,⟨l,_,_,_,_,_,_,_,_,_,_,_,_,_,_,_,rfl,hb,?_,?_,?_⟩,⟨⟨D,E⟩,Av,N⟩,?_,t4,Q⟩⟩
   ·exact F.le fun b o h=>P b o (Z b o (K b o (Y b o (H b o h))))
   ·exact RW.le (V:=W) (V':=sZ) (fun b o h=>P b o (Z b o (K b o h))) Qv
   ·exact RW.le (V:=qG) (V':=sZ) (fun b o h=>P b o h) XH
   ·simp only [Tr.size];rw [Nat.pow_succ];omega
def Tr.depth:Tr->Nat
 | .leaf _=>0
 | .node _ a b=>1+max a.depth b.depth
theorem kW:∀t:Tr,t.depth<=t.size
 | .leaf _=>Nat.le_refl _
 | .node _ a b=>by have:=kW a;have:=kW b;simp only [Tr.depth,Tr.size];omega
theorem HW {a b:Nat}(ha:a<=1000000)(hb:b<=1000000):i64.wrap ((1:Int)+maxI (a:Int) (b:Int))=((1+max a b:Nat):Int):=by
 have:maxI (a:Int) (b:Int)=((max a b:Nat):Int):=by unfold maxI;split<;>omega
 rw [this,i64w (by omega)]
 omega
theorem c_bsp_Depth:∀(t:Tr) {V:View} {p:OA},RT V p t->t.size<=1000000->Acts prog 94 #[.pointer p] V fun r V'=>r=.int .i64 (t.depth:Int)
 | .leaf i,V,p,h,hs=>by
  refine lO p V _ fun V1 l1=>(c_bsp_IsLeaf (h.le l1)).mono ?_
  rintro r V2 l2 rfl
  exact ⟨_,rfl,fun _ V3 l3=>rfl,(fun h=>nomatch h)⟩
 | .node ln a b,V,p,h,hs=>by
  have h0:=h
  refine lO p V _ fun V1 l1=>(c_bsp_IsLeaf (h0.le l1)).mono ?_
  rintro r V2 l2 rfl
  obtain ⟨l,m,n,o,q,s,u,v,w,x,pl,f,i,rfl,d,y,g,c⟩:=h.le (l1.trans l2)
  have s1:=kW a
  have s2:=kW b
  simp only [Tr.size] at hs
  refine ⟨_,rfl,(fun h=>nomatch h),fun _=>⟨rfl,rfl,pl,rdc d 9 rfl,rfl,rfl,f,rdc d 10 rfl,fun z e=>(c_bsp_Depth a (g.le e) (by omega)).mono ?_⟩⟩
  rintro r A j rfl
  refine ⟨_,rfl,fun B k=>(c_bsp_Depth b (c.le (e.trans (j.trans k))) (by omega)).mono ?_⟩
  rintro r C D rfl
  exact ⟨_,rfl,fun E F=>by rw [HW (by omega) (by omega)];rfl⟩
def SL:Tr->Int
 | .leaf i=>if i then 0 else 1
 | .node ..=>0
theorem Kw {V:View}{p:OA}{i:Bool}(h:RW V p (.leaf i)):p.isSome=true/\(∃a,addrAdd p 0=some a/\V.at a (.bool true))/\∃a,addrAdd p 1=some a/\V.at a (.bool i):=by
 obtain ⟨b,d,e,f,g,j,k,l,m,rfl,c⟩:=h
 exact ⟨rfl,rdc c 0 rfl,rdc c 1 rfl⟩
end Go.Proofs.Tryz
namespace Go.Eng
open Go.Proofs.Tryz
variable {α:Type} {sz:Nat} {R:View->Value->α->Prop} {V V':View} {d:α}
theorem Row.get {vs:List Value}{al:List α}(h:Row sz R V vs al){i:Nat}(hi:i<al.length)(hs:0<sz) :
  ∃xs:List Value,xs.length=sz/\R V (.agg xs.toArray) (al.getD i d)/\i*sz+sz<=vs.length/\(vs.drop (i*sz)).take sz=xs:=by
 obtain ⟨xs,b,c,e⟩:=h.at_ i hi
 have g:=h.kl hs
 have:(i+1)*sz<=al.length*sz:=Nat.mul_le_mul_right _ hi
 rw [Nat.succ_mul] at this
 refine ⟨xs,b,by simpa [List.getD_eq_getElem?_getD,hi] using c,by omega,?_⟩
 apply List.ext_getElem?
 intro j
 rw [List.getElem?_take]
 split
 ·rename_i f
  rw [List.getElem?_drop]
  have a:j<xs.length:=by omega
  rw [e j _ (List.getElem?_eq_getElem a),List.getElem?_eq_getElem a]
 ·rename_i f
  rw [List.getElem?_eq_none (by omega)]
theorem Row.put {vs:List Value}{al:List α}(h:Row sz R V vs al){i:Nat}(hi:i<al.length)(hs:0<sz){xs:List Value}{a:α}(hx:xs.length=sz)(ha:R V (.agg xs.toArray) a) :
  Row sz R V (cD vs (i*sz) xs) (al.set i a):=by
 have r:=h.kl hs
 have l:∀k,k<al.length->k*sz+sz<=vs.length:=fun k d=>by
  have:(k+1)*sz<=al.length*sz:=Nat.mul_le_mul_right _ d
  rw [Nat.succ_mul] at this
  omega
 have m:=l i hi
 rw [kv (by omega)]
 have f:(vs.take (i*sz)).length=i*sz:=by rw [List.length_take];omega
 refine ⟨fun k d=>?_⟩
 rw [List.length_set] at d
 by_cases e:k=i
 ·subst e
  refine ⟨xs,hx,by simpa using ha,fun j x b=>?_⟩
  have c:=(List.getElem?_eq_some_iff.1 b).1
  rw [List.append_assoc,List.getElem?_append_right (by omega),f,Nat.add_sub_cancel_left,List.getElem?_append_left c]
  exact b
 ·obtain ⟨n,o,p,g⟩:=h.at_ k d
  refine ⟨n,o,by rw [List.getElem_set_ne (fun q=>e q.symm)];exact p,fun j x b=>?_⟩
  have c:=(List.getElem?_eq_some_iff.1 b).1
  by_cases lt:k<i
  ·have:(k+1)*sz<=i*sz:=Nat.mul_le_mul_right _ lt
   rw [Nat.succ_mul] at this
   rw [List.append_assoc,List.getElem?_append_left (by omega),List.getElem?_take,if_pos (by omega)]
   exact g j x b
  ·have:(i+1)*sz<=k*sz:=Nat.mul_le_mul_right _ (by omega)
   rw [Nat.succ_mul] at this
   rw [List.getElem?_append_right (by rw [List.length_append];omega),List.length_append,f,hx,List.getElem?_drop]
   rw [show i*sz+sz+(k*sz+j-(i*sz+sz))=k*sz+j by omega]
   exact g j x b
theorem rA {vs xs:List Value}{o:Nat}(h:o+xs.length<=vs.length):(cD vs o xs).length=vs.length:=by
 rw [kv h];simp only [List.length_append,List.length_take,List.length_drop];omega
theorem Row.swap {vs:List Value}{al:List α}(h:Row sz R V vs al){i j:Nat}(hi:i<al.length)(hj:j<al.length)(hs:0<sz){xs ys:List Value}(hx:xs.length=sz)(hy:ys.length=sz)(h1:R V (.agg xs.toArray) (al.getD i d))(h2:R V (.agg ys.toArray) (al.getD j d)) :
  Row sz R V (cD (cD vs (i*sz) ys) (j*sz) xs) (rC d al i j):=by
 have:=h.put hi hs hy h2
 exact this.put (by simpa using hj) hs hx h1
end Go.Eng
namespace Go.Proofs.Tryz
open Go.Eng Go.Big
section
variable {α:Type} (e:α->α->Bool)
def yT:α->List α->List α
 | _,[]=>[]
 | p,a::r=>if e a p then yT a r else a::yT a r
def wg:List α->List α
 | []=>[]
 | a::r=>a::yT e a r
variable {e}
theorem tM:∀{r:List α} {p:α},∀x∈yT e p r,x∈r
 | [],p,x,h=>h
 | b::r,p,x,h=>by
  unfold yT at h
  split at h
  ·exact List.mem_cons_of_mem _ (tM x h)
  ·rcases List.mem_cons.1 h with rfl|h
   ·exact List.mem_cons_self ..
   ·exact List.mem_cons_of_mem _ (tM x h)
theorem Hd {l:List α}:∀x∈wg e l,x∈l:=by
 cases l with
 | nil=>exact fun x h=>h
 | cons a r=>
  intro x h
  rcases List.mem_cons.1 h with rfl|h
  ·exact List.mem_cons_self ..
  ·exact List.mem_cons_of_mem _ (tM x h)
end
end Go.Proofs.Tryz
namespace Go.Eng
open Go.Proofs.Tryz
section
variable {α:Type} {sz:Nat} {R:View->Value->α->Prop} {V:View} {d:α}
end
end Go.Eng
namespace Go.Proofs.Tryz
open Go.Eng Go.Big
theorem C_ {V:View}{v w:Value}{x y:Rat}(hx:RR V v x)(hy:RR V w y){k:Nat}(sx:Sz k x)(sy:Sz k y)(hk:2*k<1099511627776) :
  Acts prog 200 #[v,w] V fun r V'=>RR V' r (BM x y):=by
 have g:=hx
 have i:=hy
 obtain ⟨a,b,c,rfl⟩:=hx.shape
 obtain ⟨d,e,f,rfl⟩:=hy.shape
 refine Cy a b c d e f V _ fun o j=>(j8 (i.le j) (g.le j) sy sx (by omega)).mono ?_
 rintro r V2 l rfl
 unfold BM
 exact ⟨_,rfl,fun h p m=>by rw [if_pos (of_decide_eq_true h)];exact i.le (j.trans (l.trans m)),fun h q n=>by rw [if_neg (of_decide_eq_false h)];exact g.le (j.trans (l.trans n))⟩
theorem Da {V:View}{v w:Value}{x y:Rat}(hx:RR V v x)(hy:RR V w y){k:Nat}(sx:Sz k x)(sy:Sz k y)(hk:2*k<1099511627776) :
  Acts prog 201 #[v,w] V fun r V'=>RR V' r (BR x y):=by
 have g:=hx
 have i:=hy
 obtain ⟨a,b,c,rfl⟩:=hx.shape
 obtain ⟨d,e,f,rfl⟩:=hy.shape
 refine Cz a b c d e f V _ fun o j=>(j8 (i.le j) (g.le j) sy sx (by omega)).mono ?_
 rintro r V2 l rfl
 unfold BR
 exact ⟨_,rfl,fun h p m=>by rw [if_pos (of_decide_eq_true h)];exact i.le (j.trans (l.trans m)),fun h q n=>by rw [if_neg (of_decide_eq_false h)];exact g.le (j.trans (l.trans n))⟩
theorem Sp.zg {v w:Sp}{k:Nat}(h1:v.sz k)(h2:w.sz k):(v.meet w).sz k:=by
 unfold Sp.meet Sp.sz BM BR
 constructor<;>dsimp only
 ·split
  ·exact h2.1
  ·split
   ·exact h1.1
   ·split
    ·exact h2.1
    ·exact h1.1
 ·split
  ·exact h2.2
  ·split
   ·exact h1.2
   ·split
    ·exact h2.2
    ·exact h1.2
theorem xB {V:View}{v w:Value}{s t:Sp}(h:Ex V v s)(h':Ex V w t){k:Nat}(hs:s.sz k)(ht:t.sz k)(hk:2*k<1099511627776) :
  Acts prog 157 #[v,w] V fun r V'=>∃u,r=.tuple #[u,.bool (!(s.meet t).emp)]/\Ex V' u (s.meet t):=by
 obtain ⟨S,T,p,l,m,q,rfl,U,y⟩:=h
 obtain ⟨W,X,o,Y,Z,j,rfl,g1,g2⟩:=h'
 have SL:s.a=true->(s.meet t).lo=t.lo/\(s.meet t).a=t.a:=fun e=>by simp [Sp.meet,e]
 have C:s.a=false->t.a=false->(s.meet t).lo=BM s.lo t.lo:=fun e f=>by simp [Sp.meet,e,f]
 have D:s.a=false->t.a=true->(s.meet t).lo=s.lo:=fun e f=>by simp [Sp.meet,e,f]
 have Vt:s.a=false->(s.meet t).a=s.a:=fun e=>by simp [Sp.meet,e]
 have n:s.b=true->(s.meet t).hi=t.hi/\(s.meet t).b=t.b:=fun e=>by simp [Sp.meet,e]
 have E:s.b=false->t.b=false->(s.meet t).hi=BR s.hi t.hi:=fun e f=>by simp [Sp.meet,e,f]
 have F:s.b=false->t.b=true->(s.meet t).hi=s.hi:=fun e f=>by simp [Sp.meet,e,f]
 have x:s.b=false->(s.meet t).b=s.b:=fun e=>by simp [Sp.meet,e]
 refine vj S T p l m q s.a s.b W X o Y Z j t.a t.b V _ ⟨fun z i=>RR i (.agg #[.int .i64 z.1,.int .i64 z.2.1,.pointer z.2.2.1]) (s.meet t).lo/\RR i (.agg #[.int .i64 z.2.2.2.1,.int .i64 z.2.2.2.2.1,.pointer z.2.2.2.2.2.1]) s.hi/\z.2.2.2.2.2.2.1=(s.meet t).a/\z.2.2.2.2.2.2.2=s.b,⟨fun c=>?_,fun c=>⟨fun d i G=>(C_ (U.le G) (g1.le G) hs.1 ht.1 hk).mono ?_,fun d=>?_⟩⟩,?_⟩
 ·refine ⟨(W,X,o,l,m,q,t.a,s.b),by and_intros<;>rfl,?_,y,(SL c).2.symm,rfl⟩
  rw [(SL c).1];exact g1
 ·rintro r V2 l2 g
  rw [Bool.not_eq_true'] at d
  have H:=g
  obtain ⟨I,J,K,rfl⟩:=g.shape
  refine ⟨_,_,_,rfl,(I,J,K,l,m,q,s.a,s.b),by and_intros<;>rfl,?_,y.le (G.trans l2),(Vt c).symm,rfl⟩
  rw [C c d];exact H
 ·rw [Bool.not_eq_false'] at d
  refine ⟨(S,T,p,l,m,q,s.a,s.b),by and_intros<;>rfl,?_,y,(Vt c).symm,rfl⟩
  rw [D c d];exact U
 ·rintro ⟨L,M,N,z4,z5,z6,z7,z8⟩ V3 O ⟨A,k2,k3,k4⟩
  dsimp only at A k2 k3 k4
  subst k3 k4
  refine ⟨rfl,fun z i=>RR i (.agg #[.int .i64 z.1,.int .i64 z.2.1,.pointer z.2.2.1]) (s.meet t).lo/\RR i (.agg #[.int .i64 z.2.2.2.1,.int .i64 z.2.2.2.2.1,.pointer z.2.2.2.2.2.1]) (s.meet t).hi/\z.2.2.2.2.2.2.1=(s.meet t).a/\z.2.2.2.2.2.2.2=(s.meet t).b,⟨fun c=>?_,fun c=>⟨fun d V4 P=>(Da (y.le (O.trans P)) (g2.le (O.trans P)) hs.2 ht.2 hk).mono ?_,fun d=>?_⟩⟩,?_⟩
  ·refine ⟨(L,M,N,Y,Z,j,(s.meet t).a,t.b),by and_intros<;>rfl,A,?_,rfl,(n c).2.symm⟩
   rw [(n c).1];exact g2.le O
  ·rintro r V5 l5 g
   rw [Bool.not_eq_true'] at d
   have H:=g
   obtain ⟨I,J,K,rfl⟩:=g.shape
   refine ⟨_,_,_,rfl,(L,M,N,I,J,K,(s.meet t).a,s.b),by and_intros<;>rfl,A.le (P.trans l5),?_,rfl,(x c).symm⟩
   rw [E c d];exact H
  ·rw [Bool.not_eq_false'] at d
   refine ⟨(L,M,N,z4,z5,z6,(s.meet t).a,s.b),by and_intros<;>rfl,A,?_,rfl,(x c).symm⟩
   rw [F c d];exact k2
  ·rintro ⟨l,m,y3,y4,y5,y6,y7,y8⟩ V6 l6 ⟨Q,R,j3,j4⟩
   dsimp only at Q R j3 j4
   subst j3 j4
   refine ⟨rfl,fun V7 B=>(C8 ⟨_,_,_,_,_,_,rfl,Q.le B,R.le B⟩ (Sp.zg hs ht) hk).mono ?_⟩
   rintro r V8 l8 rfl
   exact ⟨_,rfl,fun V9 l9=>⟨_,rfl,_,_,_,_,_,_,rfl,Q.le (B.trans (l8.trans l9)),R.le (B.trans (l8.trans l9))⟩⟩
theorem mu {L M:L3}{k:Nat}(sl:lU k L)(sm:lU k M):Sz (4*k+3) (fw M L):=cd sm.1 sm.2.1 sl.2.1 sl.1.neg
theorem GS {L M:L3}:(((M.1:Rat)*((L.1:Rat)*(((-(L.2.2:Rat))*(((L.1:Rat)*(L.1:Rat))+((L.2.1:Rat)*(L.2.1:Rat)))⁻¹))))+((M.2.1:Rat)*((L.2.1:Rat)*(((-(L.2.2:Rat))*(((L.1:Rat)*(L.1:Rat))+((L.2.1:Rat)*(L.2.1:Rat)))⁻¹)))))+(M.2.2:Rat)=jw M L:=by
 unfold jw aj fu iF eN;grind
theorem mr {L M:L3}{k:Nat}(sl:lU k L)(sm:lU k M):Sz (50*k+49) (jw M L):=by
 rw [←GS]
 exact Sz.mono (jW (k:=10*k+9) (sm.1.mono (by omega)) (sm.2.1.mono (by omega)) (sm.2.2.mono (by omega)) (cT sl.1 sl.2.1 sl.2.2) (cU sl.1 sl.2.1 sl.2.2)) (by omega)
theorem zQ {L M:L3}{k:Nat}(sl:lU k L)(sm:lU k M):Sz (60*k+60) (dm M L):=Sz.mono ((mr sl sm).mul (fl (mu sl sm))).neg (by omega)
theorem LC (k:Nat)(hk:0<k):Sz k (0:Rat):=⟨by show (0:Int).natAbs<_;exact Nat.lt_of_lt_of_le (by decide) (Nat.one_le_two_pow),Nat.one_lt_two_pow (by omega)⟩
theorem AO {V:View}{l v m:Value}{L:L3}{s:Sp}{M:L3}(hl:RLi V l L)(hv:Ex V v s)(hm:RLi V m M){k:Nat}(sl:lU k L)(hs:s.sz k)(sm:lU k M)(hk:200*k+200<274877906944) :
  Acts prog 167 #[l,v,m] V fun r V'=>∃w,r=.tuple #[w,.bool (c_ L s M)]/\Ex V' w (cH L s M):=by
 have f:=hl
 have b:=hv
 have g:=hm
 obtain ⟨_,_,_,_,_,_,_,_,_,rfl,-,-,-⟩:=hl
 obtain ⟨_,_,_,_,_,_,rfl,-,-⟩:=hv
 obtain ⟨_,_,_,_,_,_,_,_,_,rfl,-,-,-⟩:=hm
 have h:s.sz (60*k+60):=⟨hs.1.mono (by omega),hs.2.mono (by omega)⟩
 have z:=LC (60*k+60) (by omega)
 refine wM _ _ _ _ _ _ _ _ _ _ _ _ _ _ _ _ _ _ _ _ _ _ _ _ _ _ V _ fun V1 B=>(eh (g.le B) sm.1 sm.2.1 sm.2.2 (by omega)).mono ?_
 rintro r V2 l2 g1
 have C:=g1
 obtain ⟨_,_,_,_,_,_,rfl,-,-⟩:=g1
 refine ⟨_,_,_,_,_,_,rfl,fun V3 D=>(ka (f.le (B.trans (l2.trans D))) sl.1 sl.2.1 sl.2.2 (by omega)).mono ?_⟩
 rintro r V4 l4 g2
 have E:=g2
 obtain ⟨_,_,_,_,_,_,rfl,-,-⟩:=g2
 refine ⟨_,_,_,_,_,_,rfl,fun V5 F=>(gw (C.le (D.trans (l4.trans F))) (E.le F) sm.1 sm.2.1 sl.2.1 sl.1.neg (by omega)).mono ?_⟩
 rintro r G l6 g3
 have H:RR G r (fw M L):=g3
 obtain ⟨_,_,_,rfl⟩:=g3.shape
 have i:V.Le G:=B.trans (l2.trans (D.trans (l4.trans (F.trans l6))))
 refine ⟨_,_,_,rfl,fun V7 I=>(mD (f.le (i.trans I)) sl.1 sl.2.1 sl.2.2 (by omega)).mono ?_⟩
 rintro r V8 l8 g4
 have K4:=g4
 obtain ⟨_,_,_,_,_,_,rfl,-,-⟩:=g4
 refine ⟨_,_,_,_,_,_,rfl,fun V9 J=>(kQ (k:=10*k+9) (g.le (i.trans (I.trans (l8.trans J)))) (K4.le J) (sm.1.mono (by omega)) (sm.2.1.mono (by omega)) (sm.2.2.mono (by omega)) (cT sl.1 sl.2.1 sl.2.2) (cU sl.1 sl.2.1 sl.2.2) (by omega)).mono ?_⟩
 rintro r j K N
 rw [GS] at N
 have O:=N
 obtain ⟨_,_,_,rfl⟩:=N.shape
 have e:G.Le j:=I.trans (l8.trans (J.trans K))
 refine ⟨_,_,_,rfl,fun a1 n=>(dR (H.le (e.trans n)) (mu sl sm) (by omega)).mono ?_⟩
 rintro r P Q rfl
 have a:j.Le P:=n.trans Q
 refine ⟨_,rfl,fun c a2 o=>(dR (O.le (a.trans o)) (mr sl sm) (by omega)).mono ?_,fun c=>⟨fun R lW S=>(yL (O.le (a.trans S)) (H.le (e.trans (a.trans S))) (mr sl sm) (mu sl sm) (by omega)).mono ?_,fun R xj T=>(yL (O.le (a.trans T)) (H.le (e.trans (a.trans T))) (mr sl sm) (mu sl sm) (by omega)).mono ?_⟩⟩
 ·rintro r a3 dL rfl
  have p:c_ L s M=decide ((jw M L).num.sign>0):=by unfold c_;rw [if_pos c]
  have d:cH L s M=s:=by unfold cH;rw [if_pos c]
  rw [p,d]
  exact ⟨_,rfl,fun a4 cX=>⟨_,rfl,b.le (i.trans (e.trans (a.trans (o.trans (dL.trans cX)))))⟩⟩
 ·have d:cH L s M=s.meet ⟨dm M L,0,false,true⟩:=by unfold cH;rw [if_neg (by rw [c];exact Bool.false_ne_true),if_pos R]
  have p:c_ L s M=!(s.meet ⟨dm M L,0,false,true⟩).emp:=by rw [←d];unfold c_;rw [if_neg (by rw [c];exact Bool.false_ne_true)]
  rw [p,d]
  rintro r nQ U q
  have W:=q
  obtain ⟨_,_,_,rfl⟩:=q.shape
  refine ⟨_,_,_,rfl,fun qG u=>(iK (W.le u) ((mr sl sm).mul (fl (mu sl sm))) (by omega)).mono ?_⟩
  rintro r X Y x
  have Z:RR X r (dm M L):=x
  obtain ⟨_,_,_,rfl⟩:=x.shape
  refine ⟨_,_,_,rfl,fun C3 y=>(xB (t:=⟨dm M L,0,false,true⟩) (b.le (i.trans (e.trans (a.trans (S.trans (U.trans (u.trans (Y.trans y)))))))) ⟨_,_,_,_,_,_,rfl,Z.le y,RR.zero _⟩ h ⟨zQ sl sm,z⟩ (by omega)).mono ?_⟩
  rintro r vS gj ⟨w,rfl,A⟩
  have Ou:=A
  obtain ⟨_,_,_,_,_,_,rfl,-,-⟩:=A
  exact ⟨_,_,_,_,_,_,_,_,_,rfl,fun yA kJ=>⟨_,rfl,Ou.le kJ⟩⟩
 ·have d:cH L s M=s.meet ⟨0,dm M L,true,false⟩:=by unfold cH;rw [if_neg (by rw [c];exact Bool.false_ne_true),if_neg (by rw [R];exact Bool.false_ne_true)]
  have p:c_ L s M=!(s.meet ⟨0,dm M L,true,false⟩).emp:=by rw [←d];unfold c_;rw [if_neg (by rw [c];exact Bool.false_ne_true)]
  rw [p,d]
  rintro r nQ U q
  have W:=q
  obtain ⟨_,_,_,rfl⟩:=q.shape
  refine ⟨_,_,_,rfl,fun qG u=>(iK (W.le u) ((mr sl sm).mul (fl (mu sl sm))) (by omega)).mono ?_⟩
  rintro r X Y x
  have Z:RR X r (dm M L):=x
  obtain ⟨_,_,_,rfl⟩:=x.shape
  refine ⟨_,_,_,rfl,fun C3 y=>(xB (t:=⟨0,dm M L,true,false⟩) (b.le (i.trans (e.trans (a.trans (T.trans (U.trans (u.trans (Y.trans y)))))))) ⟨_,_,_,_,_,_,rfl,RR.zero _,Z.le y⟩ h ⟨z,zQ sl sm⟩ (by omega)).mono ?_⟩
  rintro r vS gj ⟨w,rfl,A⟩
  have Ou:=A
  obtain ⟨_,_,_,_,_,_,rfl,-,-⟩:=A
  exact ⟨_,_,_,_,_,_,_,_,_,rfl,fun yA kJ=>⟨_,rfl,Ou.le kJ⟩⟩
structure C2 (V:View) (p:OA) (n:Nat) (fs:List (L3×Sp)):Prop where
 len:n=fs.length
 at_:∀(i:Nat)(h:i<fs.length),∃ad,addrAdd p (i*17)=some ad/\∃xs:List Value,LK V (.agg xs.toArray) fs[i].1 fs[i].2/\∀j x,xs[j]?=some x->V.at (ad.add j) x
theorem C2.le {V V':View}{p:OA}{n:Nat}{fs:List (L3×Sp)}(h:C2 V p n fs)(e:V.Le V'):C2 V' p n fs:=⟨h.len,fun i a=>by obtain ⟨b,c,xs,d,f⟩:=h.at_ i a;exact ⟨b,c,xs,d.le e,fun j x g=>e.at (f j x g)⟩⟩
theorem C2.nil {V:View}:C2 V none 0 []:=⟨rfl,fun i a=>by simp at a⟩
theorem C2.one {V:View}{bk:Nat}{xs:List Value}{ty:TypeId}{l:L3}{s:Sp}(hb:V.aW bk (.cells xs.toArray ty (0,0)))(hf:LK V (.agg xs.toArray) l s):C2 V (some ⟨bk,0,none⟩) 1 [(l,s)]:=by
 refine ⟨rfl,fun i a=>?_⟩
 obtain rfl:i=0:=by simpa using a
 refine ⟨⟨bk,0,none⟩,by simp [addrAdd,add_zero'],_,hf,fun j x b=>?_⟩
 rw [add_zero']
 exact blk_at hb b
theorem JA {L M:L3}:((L.1:Rat)=(M.1:Rat)/\(L.2.1:Rat)=(M.2.1:Rat)/\(L.2.2:Rat)=(M.2.2:Rat))↔L=M:=by
 constructor
 ·rintro ⟨a,b,c⟩
  exact Prod.ext (Rat.intCast_inj.1 a) (Prod.ext (Rat.intCast_inj.1 b) (Rat.intCast_inj.1 c))
 ·rintro rfl
  exact ⟨rfl,rfl,rfl⟩
theorem JV {V:View}{v w:Value}{L M:L3}(hl:RLi V v L)(hm:RLi V w M){k:Nat}(sl:lU k L)(sm:lU k M)(hk:k+k<1099511627776) :
  Acts prog 197 #[v,w] V fun r V'=>r=.bool (decide (L=M)):=by
 refine (AR hl hm sl.1 sl.2.1 sl.2.2 sm.1 sm.2.1 sm.2.2 hk).mono ?_
 rintro r V' l rfl
 rw [decide_eq_decide.2 JA]
theorem je {V:View}(z w:Int){p q:OA}{n c m e:Nat}(ha:RD V p n c (af z.natAbs))(hb:RD V q m e (af w.natAbs))(hm:(af z.natAbs).length<=1099511627776)(hn:(af w.natAbs).length<=1099511627776) :
  Acts prog 122 #[.agg #[.bool (decide (z<0)),.slice p n c],.agg #[.bool (decide (w<0)),.slice q m e]] V fun r V'=>r=.int .i64 (z-w).sign:=by
 refine vB _ p n c _ q m e V _ fun i a=>(fP w (hb.le a)).mono ?_
 rintro r V2 d ⟨j,k,l,rfl,f⟩
 refine ⟨_,_,_,_,rfl,fun o b=>(pL z (-w) (ha.le (a.trans (d.trans b))) (f.le b) hm (by rw [Int.natAbs_neg];exact hn)).mono ?_⟩
 rintro r s t ⟨u,v,x,rfl,g⟩
 refine ⟨_,_,_,_,rfl,fun y h=>(fD _ (g.le h)).mono ?_⟩
 rintro r A B rfl
 exact ⟨_,rfl,fun C D=>by rw [Int.sub_eq_add_neg]⟩
def mW (l m:L3):Int:=if (l.1-m.1).sign≠0 then (l.1-m.1).sign else if (l.2.1-m.2.1).sign≠0 then (l.2.1-m.2.1).sign else (l.2.2-m.2.2).sign
theorem Jx {l m:L3}:mW l m=0↔l=m:=by
 have e:∀{a b:Int},(a-b).sign=0↔a=b:=fun {a b}=>by rw [Int.sign_eq_zero_iff_zero];omega
 unfold mW
 constructor
 ·intro h
  by_cases c:(l.1-m.1).sign=0
  ·rw [if_neg (by simpa using c)] at h
   by_cases d:(l.2.1-m.2.1).sign=0
   ·rw [if_neg (by simpa using d)] at h
    exact Prod.ext (e.1 c) (Prod.ext (e.1 d) (e.1 h))
   ·rw [if_pos d] at h;exact absurd h d
  ·rw [if_pos c] at h;exact absurd h c
 ·rintro rfl
  simp
theorem qN {V:View}{v w:Value}{l m:L3}(hl:RL V v l.1 l.2.1 l.2.2)(hm:RL V w m.1 m.2.1 m.2.2){k:Nat}(sl:lU k l)(sm:lU k m)(hk:k<=1099511627776) :
  Acts prog 74 #[v,w] V fun r V'=>r=.int .i64 (mW l m):=by
 obtain ⟨d1,d2,d3⟩:=sl.af hk
 obtain ⟨f,g,i⟩:=sm.af hk
 obtain ⟨_,_,_,_,_,_,_,_,_,rfl,j,n,o⟩:=hl
 obtain ⟨_,_,_,_,_,_,_,_,_,rfl,b1,b2,b3⟩:=hm
 refine Aj _ _ _ _ _ _ _ _ _ _ _ _ _ _ _ _ _ _ _ _ _ _ _ _ V _ fun p a=>(je _ _ (j.le a) (b1.le a) d1 f).mono ?_
 rintro r V2 b rfl
 unfold mW
 refine ⟨_,rfl,fun h q s=>?_,fun h t c=>(je _ _ (n.le (a.trans (b.trans c))) (b2.le (a.trans (b.trans c))) d2 g).mono ?_⟩
 ·rw [bne_iff_ne] at h
  rw [if_pos h]
 ·rw [bne_eq_false_iff_eq] at h
  rw [if_neg (by rw [h];decide)]
  rintro r u d rfl
  refine ⟨_,rfl,fun h x y=>?_,fun h z e=>(je _ _ (o.le (a.trans (b.trans (c.trans (d.trans e))))) (b3.le (a.trans (b.trans (c.trans (d.trans e))))) d3 i).mono ?_⟩
  ·rw [bne_iff_ne] at h
   rw [if_pos h]
  ·rw [bne_eq_false_iff_eq] at h
   rw [if_neg (by rw [h];decide)]
   rintro r A B rfl
   exact ⟨_,rfl,fun C D=>rfl⟩
def KR (u:Value):Prop:=u=.agg #[.bool false,.slice none 0 0,.slice none 0 0,.bool false,.slice none 0 0,.slice none 0 0]
theorem MX {V:View}{v w:Value}{l m:L3}(hl:RL V v l.1 l.2.1 l.2.2)(hm:RL V w m.1 m.2.1 m.2.2){k:Nat}(sl:lU k l)(sm:lU k m)(hk:20*k+20<274877906944) :
  Acts prog 48 #[v,w] V fun r V'=>∃u,r=.tuple #[u,.bool (decide (bw l m≠0))]/\(bw l m=0->KR u)/\(bw l m≠0->RP V' u (Ka l m) (MJ l m)):=by
 have e0:((l.1:Int):Rat)*((m.2.1:Int):Rat)-((m.1:Int):Rat)*((l.2.1:Int):Rat)=bw l m:=by unfold bw;grind
 have e1:((l.2.1:Int):Rat)*((m.2.2:Int):Rat)-((m.2.1:Int):Rat)*((l.2.2:Int):Rat)=((l.2.1:Rat)*(m.2.2:Rat))-((l.2.2:Rat)*(m.2.1:Rat)):=by grind
 have e2:((m.1:Int):Rat)*((l.2.2:Int):Rat)-((l.1:Int):Rat)*((m.2.2:Int):Rat)=((l.2.2:Rat)*(m.1:Rat))-((l.1:Rat)*(m.2.2:Rat)):=by grind
 obtain ⟨a,b,i⟩:=sl
 obtain ⟨j,n,o⟩:=sm
 obtain ⟨_,_,_,_,_,_,_,_,_,rfl,a1,a2,a3⟩:=hl
 obtain ⟨_,_,_,_,_,_,_,_,_,rfl,b1,b2,b3⟩:=hm
 refine wV _ _ _ _ _ _ _ _ _ _ _ _ _ _ _ _ _ _ _ _ _ _ _ _ V _ fun V1 C=>(aQ (a1.le C) a (by omega)).mono ?_
 rintro r V2 R Uz
 have Rh:=Uz
 obtain ⟨_,_,_,_,_,_,rfl⟩:=Uz.shape
 refine ⟨_,_,_,_,_,_,_,rfl,fun V3 D=>(aQ (b2.le (C.trans (R.trans (D)))) n (by omega)).mono ?_⟩
 rintro r V4 S UA
 have Ri:=UA
 obtain ⟨_,_,_,_,_,_,rfl⟩:=UA.shape
 refine ⟨_,_,_,_,_,_,_,rfl,fun V5 E=>(aN (Rh.le (D.trans (S.trans (E)))) (Ri.le E) a n (by omega)).mono ?_⟩
 rintro r V6 l6 UB
 have Rj:=UB
 obtain ⟨_,_,_,_,_,_,rfl⟩:=UB.shape
 refine ⟨_,_,_,_,_,_,_,rfl,fun V7 T=>(aQ (b1.le (C.trans (R.trans (D.trans (S.trans (E.trans (l6.trans (T)))))))) j (by omega)).mono ?_⟩
 rintro r V8 l8 UC
 have Rk:=UC
 obtain ⟨_,_,_,_,_,_,rfl⟩:=UC.shape
 refine ⟨_,_,_,_,_,_,_,rfl,fun V9 U=>(aQ (a2.le (C.trans (R.trans (D.trans (S.trans (E.trans (l6.trans (T.trans (l8.trans (U)))))))))) b (by omega)).mono ?_⟩
 rintro r a6 q UD
 have Rl:=UD
 obtain ⟨_,_,_,_,_,_,rfl⟩:=UD.shape
 refine ⟨_,_,_,_,_,_,_,rfl,fun a7 e=>(aN (Rk.le (U.trans (q.trans (e)))) (Rl.le e) j b (by omega)).mono ?_⟩
 rintro r a8 F UE
 have Rm:=UE
 obtain ⟨_,_,_,_,_,_,rfl⟩:=UE.shape
 refine ⟨_,_,_,_,_,_,_,rfl,fun a9 s=>(jB (Rj.le (T.trans (l8.trans (U.trans (q.trans (e.trans (F.trans (s)))))))) (Rm.le s) (a.mul n) (j.mul b) (by omega)).mono ?_⟩
 rintro r b5 dL Rn
 rw [e0] at Rn
 have p:=Rn
 obtain ⟨_,_,_,_,_,_,rfl,Ro,-⟩:=Rn
 have sD:Sz (4*k+3) (((l.1:Int):Rat)*((m.2.1:Int):Rat)-((m.1:Int):Rat)*((l.2.1:Int):Rat)):=Sz.mono ((a.mul n).sub (j.mul b)) (by omega)
 rw [e0] at sD
 refine ⟨_,_,_,_,_,_,_,rfl,fun b6 cX=>(ED _ (Ro.le cX)).mono ?_⟩
 rintro r lW cY rfl
 refine ⟨_,rfl,fun t nQ cN=>?_,fun t=>?_⟩
 ·rw [beq_iff_eq,oT] at t
  rw [t]
  exact ⟨_,rfl,fun _=>rfl,fun h=>absurd rfl h⟩
 ·rw [beq_eq_false_iff_ne,ne_eq,oT] at t
  rw [decide_eq_true t]
  have G:¬(bw l m).num=0:=fun h=>t (Rat.num_eq_zero.1 h)
  intro nQ cN
  have H:V.Le nQ:=(C.trans (R.trans (D.trans (S.trans (E.trans (l6.trans (T.trans (l8.trans (U.trans (q.trans (e.trans (F.trans (s.trans (dL.trans (cX.trans (cY.trans (cN)))))))))))))))))
  replace p:=p.le (cX.trans (cY.trans (cN)))
  refine (aQ (a2.le H) b (by omega)).mono ?_
  rintro r qG I UI
  have Rq:=UI
  obtain ⟨_,_,_,_,_,_,rfl⟩:=UI.shape
  refine ⟨_,_,_,_,_,_,_,rfl,fun sZ x=>(aQ (b3.le (H.trans (I.trans (x)))) o (by omega)).mono ?_⟩
  rintro r C3 J UJ
  have Rr:=UJ
  obtain ⟨_,_,_,_,_,_,rfl⟩:=UJ.shape
  refine ⟨_,_,_,_,_,_,_,rfl,fun vS y=>(aN (Rq.le (x.trans (J.trans (y)))) (Rr.le y) b o (by omega)).mono ?_⟩
  rintro r yA W UK
  have Rs:=UK
  obtain ⟨_,_,_,_,_,_,rfl⟩:=UK.shape
  refine ⟨_,_,_,_,_,_,_,rfl,fun xj K=>(aQ (b2.le (H.trans (I.trans (x.trans (J.trans (y.trans (W.trans (K)))))))) n (by omega)).mono ?_⟩
  rintro r Jc X UL
  have Ru:=UL
  obtain ⟨_,_,_,_,_,_,rfl⟩:=UL.shape
  refine ⟨_,_,_,_,_,_,_,rfl,fun GL c=>(aQ (a3.le (H.trans (I.trans (x.trans (J.trans (y.trans (W.trans (K.trans (X.trans (c)))))))))) i (by omega)).mono ?_⟩
  rintro r LL f UM
  have Rv:=UM
  obtain ⟨_,_,_,_,_,_,rfl⟩:=UM.shape
  refine ⟨_,_,_,_,_,_,_,rfl,fun NB d=>(aN (Ru.le (c.trans (f.trans (d)))) (Rv.le d) n i (by omega)).mono ?_⟩
  rintro r NC Aw UN
  have Rw:=UN
  obtain ⟨_,_,_,_,_,_,rfl⟩:=UN.shape
  refine ⟨_,_,_,_,_,_,_,rfl,fun Ql Y=>(jB (Rs.le (K.trans (X.trans (c.trans (f.trans (d.trans (Aw.trans (Y)))))))) (Rw.le Y) (b.mul o) (n.mul i) (by omega)).mono ?_⟩
  rintro r LM Ax Rx
  rw [e1] at Rx
  have Mg:=Rx
  obtain ⟨_,_,_,_,_,_,rfl⟩:=Rx.shape
  have sX:Sz (4*k+3) (((l.2.1:Rat)*(m.2.2:Rat))-((l.2.2:Rat)*(m.2.1:Rat))):=by rw [←e1];exact Sz.mono ((b.mul o).sub (n.mul i)) (by omega)
  have Z:V.Le LM:=(H.trans (I.trans (x.trans (J.trans (y.trans (W.trans (K.trans (X.trans (c.trans (f.trans (d.trans (Aw.trans (Y.trans (Ax))))))))))))))
  replace p:=p.le (I.trans (x.trans (J.trans (y.trans (W.trans (K.trans (X.trans (c.trans (f.trans (d.trans (Aw.trans (Y.trans (Ax)))))))))))))
  refine ⟨_,_,_,_,_,_,_,rfl,fun QR z=>(aQ (b1.le (Z.trans z)) j (by omega)).mono ?_⟩
  rintro r Qm L UO
  have Ry:=UO
  obtain ⟨_,_,_,_,_,_,rfl⟩:=UO.shape
  refine ⟨_,_,_,_,_,_,_,rfl,fun Qn A=>(aQ (a3.le (Z.trans (z.trans (L.trans (A))))) i (by omega)).mono ?_⟩
  rintro r VY M UP
  have Rz:=UP
  obtain ⟨_,_,_,_,_,_,rfl⟩:=UP.shape
  refine ⟨_,_,_,_,_,_,_,rfl,fun VZ B=>(aN (Ry.le (A.trans (M.trans (B)))) (Rz.le B) j i (by omega)).mono ?_⟩
  rintro r V_ Lq UQ
  have RB:=UQ
  obtain ⟨_,_,_,_,_,_,rfl⟩:=UQ.shape
  refine ⟨_,_,_,_,_,_,_,rfl,fun Wa N=>(aQ (a1.le (Z.trans (z.trans (L.trans (A.trans (M.trans (B.trans (Lq.trans (N))))))))) a (by omega)).mono ?_⟩
  rintro r Y0 Qw UR
  have RC:=UR
  obtain ⟨_,_,_,_,_,_,rfl⟩:=UR.shape
  refine ⟨_,_,_,_,_,_,_,rfl,fun Y1 O=>(aQ (b3.le (Z.trans (z.trans (L.trans (A.trans (M.trans (B.trans (Lq.trans (N.trans (Qw.trans (O))))))))))) o (by omega)).mono ?_⟩
  rintro r Y2 Qx US
  have RG:=US
  obtain ⟨_,_,_,_,_,_,rfl⟩:=US.shape
  refine ⟨_,_,_,_,_,_,_,rfl,fun Y3 P=>(aN (RC.le (O.trans (Qx.trans (P)))) (RG.le P) a o (by omega)).mono ?_⟩
  rintro r Y4 SE UT
  have RH:=UT
  obtain ⟨_,_,_,_,_,_,rfl⟩:=UT.shape
  refine ⟨_,_,_,_,_,_,_,rfl,fun Y5 Qy=>(jB (RB.le (N.trans (Qw.trans (O.trans (Qx.trans (P.trans (SE.trans (Qy)))))))) (RH.le Qy) (j.mul i) (a.mul o) (by omega)).mono ?_⟩
  rintro r Y6 Vm RJ
  rw [e2] at RJ
  have RK:=RJ
  obtain ⟨_,_,_,_,_,_,rfl⟩:=RJ.shape
  have sY:Sz (4*k+3) (((l.2.2:Rat)*(m.1:Rat))-((l.1:Rat)*(m.2.2:Rat))):=by rw [←e2];exact Sz.mono ((j.mul i).sub (a.mul o)) (by omega)
  replace p:=p.le (z.trans (L.trans (A.trans (M.trans (B.trans (Lq.trans (N.trans (Qw.trans (O.trans (Qx.trans (P.trans (SE.trans (Qy.trans (Vm))))))))))))))
  replace Mg:=Mg.le (z.trans (L.trans (A.trans (M.trans (B.trans (Lq.trans (N.trans (Qw.trans (O.trans (Qx.trans (P.trans (SE.trans (Qy.trans (Vm))))))))))))))
  refine ⟨_,_,_,_,_,_,_,rfl,fun Y7 g=>(ia (Mg.le g) (p.le g) G sX sD (by omega)).mono ?_⟩
  rintro r QS Q gr
  have a4:=gr
  obtain ⟨_,_,_,_,_,_,rfl⟩:=gr.shape
  refine ⟨_,_,_,_,_,_,_,rfl,fun TU O_=>(ia (RK.le (g.trans (Q.trans (O_)))) (p.le (g.trans (Q.trans (O_)))) G sY sD (by omega)).mono ?_⟩
  rintro r QT SF gs
  have a5:=gs
  obtain ⟨_,_,_,_,_,_,rfl⟩:=gs.shape
  exact ⟨_,_,_,_,_,_,_,rfl,fun TV Vn=>⟨_,rfl,fun h=>absurd h t,fun _=>⟨_,_,_,_,_,_,_,_,_,_,_,_,rfl,a4.le (O_.trans (SF.trans (Vn))),a5.le Vn⟩⟩⟩
def LZ:L3:=(0,0,0)
theorem EG {a b:L3}:mW a b<0↔(a.1<b.1\/a.1=b.1/\(a.2.1<b.2.1\/a.2.1=b.2.1/\a.2.2<b.2.2)):=by
 have s:∀{x y:Int},(x<y/\(x-y).sign=-1)\/(x=y/\(x-y).sign=0)\/(y<x/\(x-y).sign=1):=by
  intro x y
  rcases Int.lt_trichotomy x y with h|h|h
  ·exact .inl ⟨h,Int.sign_eq_neg_one_of_neg (by omega)⟩
  ·exact .inr (.inl ⟨h,by rw [h,Int.sub_self];rfl⟩)
  ·exact .inr (.inr ⟨h,Int.sign_eq_one_of_pos (by omega)⟩)
 unfold mW
 rcases @s a.1 b.1 with ⟨d,c⟩|⟨d,c⟩|⟨d,c⟩<;>rcases @s a.2.1 b.2.1 with ⟨h2,e2⟩|⟨h2,e2⟩|⟨h2,e2⟩<;>rcases @s a.2.2 b.2.2 with ⟨h3,e3⟩|⟨h3,e3⟩|⟨h3,e3⟩<;>rw [c,e2,e3]<;>simp<;>omega
def yy (V:View)(v:Value)(c:L3):Prop:=rL V v c.1 c.2.1 c.2.2/\Bd c
theorem yy.le {V V':View}{v:Value}{c:L3}(h:yy V v c)(l:V.Le V'):yy V' v c:=⟨h.1.le l,h.2⟩
theorem yy.shape {V:View}{v:Value}{c:L3}(h:yy V v c):∃(x y:Int)(p:OA)(xb yb:Int)(pb:OA)(xc yc:Int)(pc:OA),v=.agg #[.int .i64 x,.int .i64 y,.pointer p,.int .i64 xb,.int .i64 yb,.pointer pb,.int .i64 xc,.int .i64 yc,.pointer pc]:=by
 obtain ⟨⟨a,b,p,d,f,q,g,i,r,e,-⟩,-⟩:=h;exact ⟨_,_,_,_,_,_,_,_,_,e⟩
end Go.Proofs.Tryz
namespace Go.Proofs.Tryz
open Go.Big
section
variable {α:Type} {c:α->α->Int} {d:α}
structure PQ (c:α->α->Int) (d:α) (l0 l:List α) (a0 b0 a b:Nat):Prop where
 QD:qF d l0 l a0 b0
 ha:a0<=a
 hab:a<=b
 hb:b<=b0
 lo:vQ c d l a0 a
 hi:vQ c d l b b0
 s1:Sep c d l a0 a b0
 s2:Sep c d l a0 b b0
 pre:0<a->∀k,a<=k->k<b->¬c (l.getD k d) (l.getD (a-1) d)<0
variable {l0 l m:List α} {a0 b0 a b mid:Nat}
theorem PQ.start {l:List α}(h:a<=b)(hp:0<a->∀k,a<=k->k<b->¬c (l.getD k d) (l.getD (a-1) d)<0):PQ c d l l a b a b:=
 ⟨.refl _ _ _,Nat.le_refl _,h,Nat.le_refl _,.short (by omega),.short (by omega),fun p q e f=>by omega,fun p q e f g i=>by omega,hp⟩
theorem PQ.change (h:PQ c d l0 l a0 b0 a b)(hs:qF d l m a b):PQ c d l0 m a0 b0 a b:=
 ⟨h.QD.trans (hs.wide h.ha h.hb),h.ha,h.hab,h.hb,hs.asc h.lo (.inl (Nat.le_refl _)),hs.asc h.hi (.inr (Nat.le_refl _)),hs.sep h.s1 (.inr (.inl ⟨Nat.le_refl _,h.hb⟩)),hs.sep h.s2 (.inl ⟨h.ha,Nat.le_refl _⟩),fun f k g i=>by
  obtain ⟨j,n,o,e⟩:=hs.mem k g i
  rw [e,hs.out (a-1) (by omega)]
  exact h.pre f j n o⟩
theorem PQ.fin (h:PQ c d l0 l a0 b0 a b)(hs:qF d l m a b)(ha:vQ c d m a b):qF d l0 m a0 b0/\vQ c d m a0 b0:=by
 have e:=h.change hs
 refine ⟨e.QD,e.lo.join (ha.join e.hi fun p q j f g i=>e.s2 p q (by have:=h.ha;omega) f g i) e.s1⟩
theorem PQ.left (ho:Ord c)(h:PQ c d l0 l a0 b0 a b)(hm:a<=mid)(hm':mid<b)(h1:∀k,a<=k->k<mid->c (l.getD k d) (l.getD mid d)<0)(h2:∀k,mid<k->k<b->¬c (l.getD k d) (l.getD mid d)<0)
  (hs:qF d l m a mid)(ha:vQ c d m a mid):PQ c d l0 m a0 b0 (mid+1) b:=by
 have n:=h.ha
 have o:=h.hb
 have em:m.getD mid d=l.getD mid d:=hs.out mid (by omega)
 have below:∀k,a<=k->k<mid->¬c (m.getD mid d) (m.getD k d)<0:=fun k f g=>by
  obtain ⟨r,i,j,e⟩:=hs.mem k f g
  rw [em,e];exact ho.NH _ _ (h1 r i j)
 have t1:=hs.sep h.s1 (.inr (.inl ⟨Nat.le_refl _,by omega⟩))
 have t2:=hs.sep h.s2 (.inl ⟨n,by omega⟩)
 have up:∀q,mid<q->q<b->¬c (m.getD q d) (m.getD mid d)<0:=fun q f g=>by rw [em,hs.out q (by omega)];exact h2 q f g
 refine ⟨h.QD.trans (hs.wide n (by omega)),by omega,by omega,o,(hs.asc h.lo (.inl (Nat.le_refl _))).join (m:=a) (fun p q f g i=>?_) fun p q f g i j=>t1 p q f g i (by omega),hs.asc h.hi (.inr (by omega)),fun p q f g i j=>?_,t2,fun _ k f g=>up k (by omega) g⟩
 ·by_cases e:q=mid
  ·subst e;exact below p f g
  ·exact ha p q f g (by omega)
 ·by_cases s:b<=q
  ·exact t2 p q f (by omega) s j
  ·by_cases t:p<a
   ·exact t1 p q f t (by omega) j
   ·have u:=up q (by omega) (by omega)
    by_cases e:p=mid
    ·subst e;exact u
    ·exact ho.tr _ _ _ u (below p (by omega) (by omega))
theorem PQ.right (ho:Ord c)(h:PQ c d l0 l a0 b0 a b)(hm:a<=mid)(hm':mid<b)(h1:∀k,a<=k->k<mid->c (l.getD k d) (l.getD mid d)<0)(h2:∀k,mid<k->k<b->¬c (l.getD k d) (l.getD mid d)<0)
  (hs:qF d l m (mid+1) b)(ha:vQ c d m (mid+1) b):PQ c d l0 m a0 b0 a mid:=by
 have s:=h.ha
 have r:=h.hb
 have em:m.getD mid d=l.getD mid d:=hs.out mid (by omega)
 have up:∀q,mid<q->q<b->¬c (m.getD q d) (m.getD mid d)<0:=fun q g f=>by
  obtain ⟨t,i,j,e⟩:=hs.mem q (by omega) f
  rw [em,e];exact h2 t (by omega) j
 have below:∀k,a<=k->k<mid->¬c (m.getD mid d) (m.getD k d)<0:=fun k g f=>by
  rw [em,hs.out k (by omega)];exact ho.NH _ _ (h1 k g f)
 have t1:=hs.sep h.s1 (.inr (.inl ⟨by omega,r⟩))
 have t2:=hs.sep h.s2 (.inl ⟨by omega,Nat.le_refl _⟩)
 have t3:=hs.asc h.hi (.inr (Nat.le_refl _))
 refine ⟨h.QD.trans (hs.wide (by omega) r),s,hm,by omega,hs.asc h.lo (.inl (by omega)),fun p q g f i=>?_,t1,fun p q g f i j=>?_,fun v k g f=>?_⟩
 ·by_cases n:q<b
  ·by_cases e:p=mid
   ·subst e;exact up q f n
   ·exact ha p q (by omega) f n
  ·by_cases o:p<b
   ·exact t2 p q (by omega) o (by omega) i
   ·exact t3 p q (by omega) f i
 ·by_cases n:b<=q
  ·exact t2 p q g (by omega) n j
  ·by_cases o:p<a
   ·exact t1 p q g o (by omega) j
   ·have u:=below p (by omega) f
    by_cases e:q=mid
    ·subst e;exact u
    ·exact ho.tr _ _ _ (up q (by omega) (by omega)) u
 ·rw [hs.out k (by omega),hs.out (a-1) (by omega)];exact h.pre v k g (by omega)
structure HQ (c:α->α->Int) (d:α) (l:List α) (f i n:Nat):Prop where
 hp:Hp c d l f 0 i none
 asc:vQ c d l (f+i) (f+n)
 sep:Sep c d l f (f+i) (f+n)
theorem HQ.start {f n:Nat}(h:Hp c d l f 0 n none):HQ c d l f n n:=⟨h,.short (by omega),fun p q a b e g=>by omega⟩
theorem HQ.step (ho:Ord c){f k n:Nat}(h:HQ c d l f (k+1) n)(hk:k+1<=n)(hl:f+n<=l.length)(hs:qF d (rC d l f (f+k)) m f (f+k))(hm:Hp c d m f 0 k none):HQ c d m f k n:=by
 have a:=fun x=>ny (d:=d) (l:=l) (i:=f) (j:=f+k) (k:=x) (by omega) (by omega)
 have out:∀q,f+k<q->m.getD q d=l.getD q d:=fun q u=>by rw [hs.out q (by omega),a,if_neg (by omega),if_neg (by omega)]
 have top:m.getD (f+k) d=l.getD f d:=by rw [hs.out (f+k) (by omega),a,if_pos rfl]
 refine ⟨hm,fun p q r b g=>?_,fun p q r b g s=>?_⟩
 ·rw [out q (by omega)]
  by_cases e:p=f+k
  ·rw [e,top];exact h.sep f q (Nat.le_refl _) (by omega) (by omega) g
  ·rw [out p (by omega)];exact h.asc p q (by omega) b g
 ·have hp:∃j,j<k+1/\m.getD p d=l.getD (f+j) d:=by
   obtain ⟨o,v,w,e⟩:=hs.mem p r b
   rw [e,a,if_neg (by omega)]
   split
   ·exact ⟨k,by omega,rfl⟩
   ·exact ⟨o-f,by omega,by rw [show f+(o-f)=o by omega]⟩
  obtain ⟨j,t,e⟩:=hp
  rw [e]
  by_cases eq:q=f+k
  ·rw [eq,top];exact h.hp.top ho j t
  ·rw [out q (by omega)];exact h.sep (f+j) q (by omega) (by omega) (by omega) s
theorem HQ.fin {f n:Nat}(h:HQ c d l f 0 n):vQ c d l f (f+n):=by have:=h.asc;simpa using this
structure PT (P:α->Prop) (d:α) (l:List α) (a b i j:Nat):Prop where
 hi:a<i
 JM:i<=j+1
 hj:j<b
 lo:∀k,a<k->k<i->P (l.getD k d)
 up:∀k,j<k->k<b->¬P (l.getD k d)
variable {P:α->Prop} {i j:Nat}
theorem PT.start (h:a+1<b):PT P d l a b (a+1) (b-1):=⟨by omega,by omega,by omega,fun k c e=>by omega,fun k c e=>by omega⟩
theorem PT.swap (h:PT P d l a b i j)(JM:i<=j)(hl:b<=l.length)(h1:¬P (l.getD i d))(h2:P (l.getD j d)):PT P d (rC d l i j) a b (i+1) (j-1)/\(rC d l i j).getD a d=l.getD a d/\qF d l (rC d l i j) a b:=by
 have n:=h.hi
 have m:=h.hj
 have ne:i≠j:=fun e=>h1 (e▸h2)
 have c:=fun x=>ny (d:=d) (l:=l) (i:=i) (j:=j) (k:=x) (by omega) (by omega)
 refine ⟨⟨by omega,by omega,by omega,fun k f g=>?_,fun k f g=>?_⟩,by rw [c,if_neg (by omega),if_neg (by omega)],qF.rC (by omega) (by omega) (by omega) m hl⟩
 ·rw [c,if_neg (by omega)]
  by_cases e:k=i
  ·rw [if_pos e];exact h2
  ·rw [if_neg e];exact h.lo k f (by omega)
 ·rw [c]
  by_cases e:k=j
  ·rw [if_pos e];exact h1
  ·rw [if_neg e,if_neg (by omega)];exact h.up k (by omega) g
theorem PT.fin (ho:Ord c)(h:PT (fun x=>c x (l.getD a d)<0) d l a b i j)(JM:¬i<=j)(hl:b<=l.length):qF d l (rC d l j a) a b/\a<=j/\j<b /\
  (∀k,a<=k->k<j->c ((rC d l j a).getD k d) ((rC d l j a).getD j d)<0)/\(∀k,j<k->k<b->¬c ((rC d l j a).getD k d) ((rC d l j a).getD j d)<0):=by
 have p:=h.hi
 have q:=h.JM
 have g:=h.hj
 have f:=fun x=>ny (d:=d) (l:=l) (i:=j) (j:=a) (k:=x) (by omega) (by omega)
 have m:(rC d l j a).getD j d=l.getD a d:=by
  rw [f]
  by_cases e:j=a
  ·rw [if_pos e,e]
  ·rw [if_neg e,if_pos rfl]
 refine ⟨qF.rC (by omega) g (Nat.le_refl _) (by omega) hl,by omega,g,fun k n o=>?_,fun k n o=>?_⟩
 ·rw [m,f]
  by_cases e:k=a
  ·rw [if_pos e];exact h.lo j (by omega) (by omega)
  ·rw [if_neg e,if_neg (by omega)];exact h.lo k (by omega) (by omega)
 ·rw [m,f,if_neg (by omega),if_neg (by omega)];exact h.up k n o
end
end Go.Proofs.Tryz
namespace Go.Proofs.Tryz
open Go.Eng Go.Big
structure KU (V:View) (n:Nat) (vs:List Value) (l:List L3):Prop where
 row:Row 9 yy V vs l
 len:n=l.length
 Oo:l.length<50
theorem KU.le {V V':View}{n:Nat}{vs:List Value}{l:List L3}(h:KU V n vs l)(e:V.Le V'):KU V' n vs l:=⟨h.row.le fun _ _ g=>yy.le g e,h.len,h.Oo⟩
theorem KU.get {V:View}{n:Nat}{vs:List Value}{l:List L3}(h:KU V n vs l){k:Nat}(hk:k<l.length):∃(x y:Int)(p:OA)(xb yb:Int)(pb:OA)(xc yc:Int)(pc:OA),
  ((0+k*9)+9<=vs.length/\(vs.drop (0+k*9)).take 9=[.int .i64 x,.int .i64 y,.pointer p,.int .i64 xb,.int .i64 yb,.pointer pb,.int .i64 xc,.int .i64 yc,.pointer pc])/\yy V (.agg #[.int .i64 x,.int .i64 y,.pointer p,.int .i64 xb,.int .i64 yb,.pointer pb,.int .i64 xc,.int .i64 yc,.pointer pc]) (l.getD k LZ):=by
 obtain ⟨xs,-,b,c,f⟩:=h.row.get (d:=LZ) hk (by decide)
 have a:=b
 obtain ⟨x,y,p,xb,yb,pb,xc,yc,pc,e⟩:=b.shape
 have e:=congrArg Array.toList (Value.agg.inj e)
 dsimp only at e
 subst e
 rw [Nat.zero_add]
 exact ⟨x,y,p,xb,yb,pb,xc,yc,pc,⟨c,f⟩,a⟩
theorem KU.swap {V:View}{n:Nat}{vs:List Value}{l:List L3}(h:KU V n vs l){i j:Nat}(hi:i<l.length)(hj:j<l.length){x y:Int}{p:OA}{xb yb:Int}{pb:OA}{xc yc:Int}{pc:OA}{x' y':Int}{p':OA}{Nv Nw:Int}{pb':OA}{KK TL:Int}{pc':OA}
  (h1:yy V (.agg #[.int .i64 x,.int .i64 y,.pointer p,.int .i64 xb,.int .i64 yb,.pointer pb,.int .i64 xc,.int .i64 yc,.pointer pc]) (l.getD i LZ))(h2:yy V (.agg #[.int .i64 x',.int .i64 y',.pointer p',.int .i64 Nv,.int .i64 Nw,.pointer pb',.int .i64 KK,.int .i64 TL,.pointer pc']) (l.getD j LZ)) :
  (0+i*9)+9<=vs.length/\(0+j*9)+9<=(cD vs (0+i*9) [.int .i64 x',.int .i64 y',.pointer p',.int .i64 Nv,.int .i64 Nw,.pointer pb',.int .i64 KK,.int .i64 TL,.pointer pc']).length /\
  KU V n (cD (cD vs (0+i*9) [.int .i64 x',.int .i64 y',.pointer p',.int .i64 Nv,.int .i64 Nw,.pointer pb',.int .i64 KK,.int .i64 TL,.pointer pc']) (0+j*9) [.int .i64 x,.int .i64 y,.pointer p,.int .i64 xb,.int .i64 yb,.pointer pb,.int .i64 xc,.int .i64 yc,.pointer pc]) (rC LZ l i j):=by
 obtain ⟨-,-,-,a,-⟩:=h.row.get (d:=LZ) hi (by decide)
 obtain ⟨-,-,-,b,-⟩:=h.row.get (d:=LZ) hj (by decide)
 rw [Nat.zero_add,Nat.zero_add]
 refine ⟨a,by rw [rA (by exact a)];exact b,h.row.swap hi hj (by decide) rfl rfl h1 h2,by rw [oV];exact h.len,by rw [oV];exact h.Oo⟩
def cP (l:L3):L3:=if l.1<0\/l.1=0/\l.2.1<0 then revL l else l
def Tr.vM:Tr->List L3
 | .leaf _=>[]
 | .node l a b=>l::(a.vM++b.vM)
theorem mg:∀t:Tr,t.vM.length=t.size
 | .leaf _=>rfl
 | .node _ a b=>by simp only [Tr.vM,List.length_cons,List.length_append,mg a,mg b,Tr.size]
theorem mf {p:L3->Prop}:∀{t:Tr},t.All p->∀x∈t.vM,p x
 | .leaf _,_,x,h=>by cases h
 | .node l a b,⟨h1,h2,h3⟩,x,h=>by
  rcases List.mem_cons.1 h with rfl|h
  ·exact h1
  ·rcases List.mem_append.1 h with h|h
   ·exact mf h2 x h
   ·exact mf h3 x h
theorem Bd.rev {l:L3}(h:Bd l):Bd (revL l):=by
 obtain ⟨a,b,c⟩:=h
 unfold Bd revL
 simp only [Int.natAbs_neg]
 exact ⟨a,b,c⟩
theorem Bd.can {l:L3}(h:Bd l):Bd (cP l):=by
 unfold cP;split
 ·exact h.rev
 ·exact h
theorem Bd.szl {l:L3}(h:Bd l):lU 1000 l:=⟨h.sz.1,h.sz.2.1,h.sz.2.2⟩
end Go.Proofs.Tryz
namespace Go.Proofs.Tryz.Sec
open Go.Eng Go.Big
def nv (l:L3)(v:V2):Rat:=(l.1:Rat)*v.1+(l.2.1:Rat)*v.2
def dirL (l:L3):V2:=((l.2.1:Rat),-(l.1:Rat))
theorem EY (l:L3)(v:V2):nv l v=cr (dirL l) v:=by unfold nv cr dirL;grind
def zL (l:L3)(p v:V2):Int:=if (aj l p.1 p.2).num.sign=0 then (nv l v).num.sign else (aj l p.1 p.2).num.sign
def kL:Tr->V2->V2->Bool×Bool
 | .leaf i,_,_=>(i,true)
 | .node l a b,p,v=>if zL l p v=1 then kL a p v else if zL l p v=-1 then kL b p v else (false,false)
def jK:Tr->V2->List L3
 | .leaf _,_=>[]
 | .node l a b,p=>(if aj l p.1 p.2=0 then [l] else [])++((if aj l p.1 p.2≥0 then jK a p else [])++(if aj l p.1 p.2<=0 then jK b p else []))
theorem ux:∀{t:Tr} {p:V2} {l:L3},l∈jK t p->aj l p.1 p.2=0/\l∈t.vM
 | .leaf _,_,_,h=>by cases h
 | .node m a b,p,l,h=>by
  unfold jK at h
  simp only [List.mem_append] at h
  rcases h with h|h|h
  ·split at h
   ·rename_i e;rcases List.mem_singleton.1 h with rfl;exact ⟨e,List.mem_cons_self ..⟩
   ·cases h
  ·split at h
   ·have:=ux h;exact ⟨this.1,List.mem_cons_of_mem _ (List.mem_append_left _ this.2)⟩
   ·cases h
  ·split at h
   ·have:=ux h;exact ⟨this.1,List.mem_cons_of_mem _ (List.mem_append_right _ this.2)⟩
   ·cases h
theorem uS {q:Rat}:q.num.sign=-1↔q<0:=by
 rw [Int.sign_eq_neg_one_iff_neg,←Int.not_le,←Rat.not_le,Rat.num_nonneg]
theorem zM {q:Rat}:q.num.sign=1↔q>0:=by
 have h:=@uS (-q)
 rw [Rat.neg_num,Int.sign_neg] at h
 constructor
 ·intro e;have:=h.1 (by rw [e]);grind
 ·intro e;have:=h.2 (by grind);omega
theorem iY {q:Rat}:q.num.sign=0↔q=0:=by rw [Int.sign_eq_zero_iff_zero,Rat.num_eq_zero]
theorem ve:∀{t:Tr} {p v x:V2},(∀l∈jK t p,nv l v≠0)->(∀l∈jK t p,(nv l v>0->nv l x>0)/\(nv l v<0->nv l x<0)) ->
  kL t p x=kL t p v/\(kL t p v).2=true
 | .leaf _,_,_,_,_,_=>⟨rfl,rfl⟩
 | .node l a b,p,v,x,h0,h1=>by
  have ha:aj l p.1 p.2≥0->kL a p x=kL a p v/\(kL a p v).2=true:=fun e=>by
   have sub:∀m∈jK a p,m∈jK (.node l a b) p:=fun m hm=>by
    unfold jK
    rw [if_pos e]
    exact List.mem_append_right _ (List.mem_append_left _ hm)
   exact ve (fun m hm=>h0 m (sub m hm)) (fun m hm=>h1 m (sub m hm))
  have f:aj l p.1 p.2<=0->kL b p x=kL b p v/\(kL b p v).2=true:=fun e=>by
   have sub:∀m∈jK b p,m∈jK (.node l a b) p:=fun m hm=>by
    unfold jK
    rw [if_pos e]
    exact List.mem_append_right _ (List.mem_append_right _ hm)
   exact ve (fun m hm=>h0 m (sub m hm)) (fun m hm=>h1 m (sub m hm))
  have i:aj l p.1 p.2=0->l∈jK (.node l a b) p:=fun e=>by
   unfold jK
   rw [if_pos e]
   exact List.mem_append_left _ (List.mem_singleton.2 rfl)
  have key:zL l p x=zL l p v/\(zL l p v=1/\aj l p.1 p.2≥0\/zL l p v=-1/\aj l p.1 p.2<=0):=by
   unfold zL
   by_cases e:aj l p.1 p.2=0
   ·have hm:=i e
    rw [if_pos (iY.2 e),if_pos (iY.2 e)]
    obtain ⟨j,k⟩:=h1 l hm
    have r:=h0 l hm
    by_cases q:nv l v>0
    ·rw [zM.2 q,zM.2 (j q)];exact ⟨rfl,.inl ⟨rfl,by grind⟩⟩
    ·have c:nv l v<0:=by grind
     rw [uS.2 c,uS.2 (k c)];exact ⟨rfl,.inr ⟨rfl,by grind⟩⟩
   ·have d:¬(aj l p.1 p.2).num.sign=0:=fun h=>e (iY.1 h)
    rw [if_neg d,if_neg d]
    refine ⟨rfl,?_⟩
    by_cases q:aj l p.1 p.2>0
    ·exact .inl ⟨zM.2 q,by grind⟩
    ·exact .inr ⟨uS.2 (by grind),by grind⟩
  obtain ⟨n,o⟩:=key
  simp only [kL,n]
  rcases o with ⟨e,g⟩|⟨e,g⟩
  ·rw [e,if_pos rfl,if_pos rfl];exact ha g
  ·rw [e,if_neg (by decide),if_pos rfl,if_neg (by decide),if_pos rfl];exact f g
def Nx (D:List V2)(M:List L3):Prop:=∀l∈M,∃r∈D,∃c:Rat,c>0/\r=(c*(dirL l).1,c*(dirL l).2)
theorem Dm {l:L3}{r:V2}{c:Rat}(c0:c>0)(e:r=(c*(dirL l).1,c*(dirL l).2))(v:V2):cr r v=c*nv l v:=by
 rw [EY,e];unfold cr;grind
theorem EU {c x:Rat}(c0:c>0):(c*x>0↔x>0)/\(c*x<0↔x<0)/\(c*x=0↔x=0):=by
 have p:x>0->c*x>0:=fun h=>mp c0 h
 have n:x<0->c*x<0:=fun h=>by have:=mp c0 (show -x>0 by grind);grind
 have z:x=0->c*x=0:=fun h=>by rw [h];grind
 refine ⟨⟨fun h=>?_,p⟩,⟨fun h=>?_,n⟩,⟨fun h=>?_,z⟩⟩
 ·by_cases q:x>0
  ·exact q
  ·by_cases a:x<0
   ·have:=n a;grind
   ·have:=z (by grind);grind
 ·by_cases q:x<0
  ·exact q
  ·by_cases a:x>0
   ·have:=p a;grind
   ·have:=z (by grind);grind
 ·rcases Rat.mul_eq_zero.1 h with h|h
  ·grind
  ·exact h
theorem Nx.gen {D:List V2}{M:List L3}(h:Nx D M){v:V2}(hv:∀r∈D,cr r v≠0):∀l∈M,nv l v≠0:=by
 intro l a e
 obtain ⟨r,b,c,d,f⟩:=h l a
 exact hv r b (by rw [Dm d f,e];grind)
theorem Nx.same {D:List V2}{M:List L3}(h:Nx D M){v x:V2}(hv:∀r∈D,(cr r v>0->cr r x>0)/\(cr r v<0->cr r x<0)) :
  ∀l∈M,(nv l v>0->nv l x>0)/\(nv l v<0->nv l x<0):=by
 intro l d
 obtain ⟨r,e,c,a,b⟩:=h l d
 have:=hv r e
 rw [Dm a b,Dm a b] at this
 obtain ⟨f,g,_⟩:=@EU c (nv l v) a
 obtain ⟨b1,b2,_⟩:=@EU c (nv l x) a
 exact ⟨fun h=>b1.1 (this.1 (f.2 h)),fun h=>b2.1 (this.2 (g.2 h))⟩
def anyS (t:Tr)(p:V2)(S:List V2):Bool:=S.any fun v=>(kL t p v).1
def Jm (t:Tr)(p:V2)(S:List V2):Bool:=S.all fun v=>(kL t p v).1
theorem gJ (l:L3)(p v:V2)(s:Rat):aj l (p.1+s*v.1) (p.2+s*v.2)=aj l p.1 p.2+s*nv l v:=by unfold aj nv;grind
theorem inv_mul {c:Rat}(h:c≠0)(a:Rat):a*c⁻¹*c=a:=by rw [Rat.mul_assoc,Rat.inv_mul_cancel _ h,Rat.mul_one]
end Go.Proofs.Tryz.Sec
