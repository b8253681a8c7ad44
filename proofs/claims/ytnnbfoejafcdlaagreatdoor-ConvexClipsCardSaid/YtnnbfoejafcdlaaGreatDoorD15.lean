import Derived.Test.YtnnbfoejafcdlaaGreatDoorD14
import Derived.Test.YtnnbfoejafcdlaaGreatDoorD13
import Derived.Test.YtnnbfoejafcdlaaGreatDoorD7
import Derived.Test.YtnnbfoejafcdlaaGreatDoorD9
import Derived.Laws.IdiomCopy
import Derived.Lib.Overlaps
import Derived.Lib.JoinLaws
import Derived.Lib.AppendZerosOnto
import Derived.Test.YtnnbfoejafcdlaaGreatDoorD5
import Derived.Shelf.RegionOpenPlain
import Derived.Lib.Walk
import Derived.Lib.SliceRun
import Derived.Laws.NewBlocks
import Derived.Test.YtnnbfoejafcdlaaGreatDoorD12
set_option linter.unusedVariables false
open Go.IntKind (i64 u64 u32)
namespace Go.Proofs.Tryz
open Go.bF Go.eK
namespace ah
theorem IZ {l m n:V2}(h1:cr l m>0)(h2:cr m n>0)(h3:cr l n>0)(hl:up l)(hn:up n):up m:=by
 have e1:m.1*cr l n=cr m n*l.1+cr l m*n.1:=by unfold cr;grind
 have e2:m.2*cr l n=cr m n*l.2+cr l m*n.2:=by unfold cr;grind
 generalize cr l n=D at *
 generalize cr m n=A at *
 generalize cr l m=B at *
 have sg:∀x:Rat,x*D>0->x>0:=fun x hx=>by
  by_cases c:x>0
  ·exact c
  ·have:=mn (show -x≥0 by grind) (show D≥0 by grind);grind
 unfold up at *
 rcases hl with hl|⟨hl,hl'⟩<;>rcases hn with hn|⟨hn,hn'⟩
 ·exact .inl (sg _ (by have:=mp h2 hl;have:=mp h1 hn;grind))
 ·exact .inl (sg _ (by have:=mp h2 hl;rw [hn] at e2;grind))
 ·exact .inl (sg _ (by have:=mp h1 hn;rw [hl] at e2;grind))
 ·refine .inr ⟨?_,sg _ (by have:=mp h2 hl';have:=mp h1 hn';grind)⟩
  rw [hl,hn] at e2
  have e2:m.2*D=0:=by grind
  by_cases c:m.2>0
  ·have:=mp c h3;grind
  ·by_cases c':m.2<0
   ·have:=mp (show -m.2>0 by grind) h3;grind
   ·grind
theorem Lk {l m n:V2}(h1:cr l m>0)(h2:cr m n>0)(h3:cr l n>0)(hl:dn l)(hn:dn n):dn m:=by
 have g:∀u:V2,dn u↔up (-u.1,-u.2):=fun u=>by unfold dn up;dsimp only;constructor<;>intro h<;>grind
 have c2:∀u v:V2,cr (-u.1,-u.2) (-v.1,-v.2)=cr u v:=fun u v=>by unfold cr;grind
 rw [g] at *
 exact IZ (l:=(-l.1,-l.2)) (n:=(-n.1,-n.2)) (by rw [c2];exact h1) (by rw [c2];exact h2) (by rw [c2];exact h3) hl hn
theorem jL {u:V2}(hu:nz u):half u=1/\up u\/half u=2/\dn u:=by
 rcases cU u with h|h|⟨-,h1,h2⟩
 ·exact .inl h
 ·exact .inr h
 ·exact absurd hu (by unfold nz;grind)
theorem B9 {u:V2}(h1:up u)(h2:dn u):False:=by unfold up dn at *;grind
theorem H3 {l m n:V2}(zl:nz l)(zm:nz m)(zn:nz n)(h1:cr l m>0)(h2:cr m n>0)(h3:cr l n>0)(h:(ee l n<0/\(ee m l<0\/ee n m<0))\/ee n m<0/\ee m l<0):False:=by
 have a1:cr m l<0:=by
  have:cr m l=-cr l m:=by unfold cr;grind
  grind
 have a2:cr n m<0:=by
  have:cr n m=-cr m n:=by unfold cr;grind
  grind
 simp only [pK] at h
 have x1:¬(half m=half l/\cr m l>0):=fun g=>by have:=g.2;grind
 have x2:¬(half n=half m/\cr n m>0):=fun g=>by have:=g.2;grind
 rcases jL zl with ⟨el,ul⟩|⟨el,ul⟩<;>rcases jL zm with ⟨em,um⟩|⟨em,um⟩<;>rcases jL zn with ⟨en,un⟩|⟨en,un⟩<;>rw [el,em,en] at h<;>rw [el,em] at x1<;>rw [en,em] at x2<;>try omega
 all_goals first|exact B9 (IZ h1 h2 h3 ul un) um|exact B9 um (Lk h1 h2 h3 ul un)|(rcases h with ⟨h,h'|h'⟩|⟨h,h'⟩<;>rcases h with h|h<;>rcases h' with h'|h'<;>first|omega|exact absurd h'.2 (by grind)|exact absurd h.2 (by grind))
end ah
section
variable {M:List L3} {c:List Sd} (h:dS M c) (hk:∀m ∈ M,cE m=true)
include h hk
theorem Ko {i:Nat}(hi:i<c.length){l n:L3}(el:l=(c[i]).1)(en:n=(c[(i+1)%c.length]'(Nat.mod_lt _ (by omega))).1)(hc:0<ah.cr (ah.aq l) (ah.aq n)):∀m∈M,0<=au m (CJ l n) (CK l n):=by
 refine zg h hk (p:=(CJ l n,CK l n)) fun s hs=>?_
 dsimp only
 have hx:bz l n≠0:=by
  rw [jK,←gE];have:ah.cr (ah.aq n) (ah.aq l)=-ah.cr (ah.aq l) (ah.aq n):=by unfold ah.cr;grind
  grind
 obtain ⟨v1,v2⟩:=DX hx
 generalize CJ l n=X at *
 generalize CK l n=Y at *
 by_cases c0:0<=au s.1 X Y
 ·exact c0
 exfalso
 have hlc:c[i]∈c:=List.getElem_mem hi
 have hnc:(c[(i+1)%c.length]'(Nat.mod_lt _ (by omega)))∈c:=List.getElem_mem _
 have key:∀x:ah.V2,ah.cr (ah.aq l) (ah.aq n)*(au s.1 x.1 x.2-au s.1 X Y)=ah.cr (ah.aq s.1) (ah.aq n)*au l x.1 x.2+ah.cr (ah.aq l) (ah.aq s.1)*au n x.1 x.2:=fun x=>by
  have:ah.cr (ah.aq l) (ah.aq n)*(au s.1 x.1 x.2-au s.1 X Y)=ah.cr (ah.aq s.1) (ah.aq n)*(au l x.1 x.2-au l X Y)+ah.cr (ah.aq l) (ah.aq s.1)*(au n x.1 x.2-au n X Y):=by
   unfold ah.cr ah.aq au;grind
  rw [this,v1,v2];grind
 obtain ⟨q,hq⟩:=h.pos
 have nl:s.1≠l:=fun e=>by rw [e,v1] at c0;exact c0 Rat.le_refl
 have nn:s.1≠n:=fun e=>by rw [e,v2] at c0;exact c0 Rat.le_refl
 have hln:l≠n:=fun e=>by rw [e] at hc;unfold ah.cr at hc;grind
 by_cases ca:0<ah.cr (ah.aq s.1) (ah.aq n)
 ·by_cases cb:0<ah.cr (ah.aq l) (ah.aq s.1)
  ·
   obtain ⟨j,hj,ej⟩:=List.mem_iff_getElem.1 hs
   have zs:∀k (hk':k<c.length),ah.nz (ah.aq (c[k]).1):=fun k hk'=>nF (hk _ (h.mem _ (List.getElem_mem hk')).1)
   have jA:∀a b (ha:a<c.length) (hb:b<c.length),a<b->ah.ee (ah.aq (c[a]).1) (ah.aq (c[b]).1)<0:=fun a b ha hb rG=>List.pairwise_iff_getElem.1 h.jA a b ha hb rG
   have hji:j≠i:=fun e=>by subst e;exact nl (by rw [el,ej])
   subst el
   rw [←ej] at nn ca cb
   by_cases hw:i+1<c.length
   ·have em:(i+1)%c.length=i+1:=Nat.mod_eq_of_lt hw
    simp only [em] at en
    subst en
    have hjn:j≠i+1:=fun e=>by subst e;exact nn rfl
    refine ah.H3 (zs i hi) (zs j hj) (zs (i+1) hw) cb ca hc (.inl ⟨jA i (i+1) hi hw (by omega),?_⟩)
    rcases Nat.lt_or_gt_of_ne hji with g|g
    ·exact .inl (jA j i hj hi g)
    ·exact .inr (jA (i+1) j hw hj (by omega))
   ·have em:(i+1)%c.length=0:=by rw [show i+1=c.length by omega];exact Nat.mod_self _
    simp only [em] at en
    subst en
    have hjn:j≠0:=fun e=>by subst e;exact nn rfl
    exact ah.H3 (zs i hi) (zs j hj) (zs 0 (by omega)) cb ca hc (.inr ⟨jA 0 j (by omega) hj (by omega),jA j i hj hi (by omega)⟩)
  ·obtain ⟨e1,e2⟩:=fg h hk hnc
   rw [←en] at e1 e2
   have:=key (ef n (c[(i+1)%c.length]'(Nat.mod_lt _ (by omega))).2.cA,eg n (c[(i+1)%c.length]'(Nat.mod_lt _ (by omega))).2.cA)
   have g1:=e2 s.1 (h.mem s hs).1 nn
   have g2:=key
   obtain ⟨Ll,e2'⟩:=fg h hk hlc
   rw [←el] at Ll e2'
   have k2:=key (ef l (c[i]).2.cA,eg l (c[i]).2.cA)
   have g3:=e2' s.1 (h.mem s hs).1 nl
   have g4:=e2' n (en▸(h.mem _ hnc).1) (fun e=>hln e.symm)
   dsimp only at k2
   rw [Ll] at k2
   have p1:=ah.mp hc (show au s.1 (ef l (c[i]).2.cA) (eg l (c[i]).2.cA)-au s.1 X Y>0 by grind)
   have p2:=ah.mn (show -ah.cr (ah.aq l) (ah.aq s.1)≥0 by grind) (show au n (ef l (c[i]).2.cA) (eg l (c[i]).2.cA)≥0 by grind)
   grind
 ·by_cases cb:0<ah.cr (ah.aq l) (ah.aq s.1)
  ·obtain ⟨e1,e2⟩:=fg h hk hnc
   rw [←en] at e1 e2
   generalize (c[(i+1)%c.length]'(Nat.mod_lt _ (by omega))).2.cA=u at *
   have k2:=key (ef n u,eg n u)
   have g3:=e2 s.1 (h.mem s hs).1 nn
   have g4:=e2 l (el▸(h.mem _ hlc).1) hln
   dsimp only at k2
   rw [e1] at k2
   have p1:=ah.mp hc (show au s.1 (ef n u) (eg n u)-au s.1 X Y>0 by grind)
   have p2:=ah.mn (show -ah.cr (ah.aq s.1) (ah.aq n)≥0 by grind) (show au l (ef n u) (eg n u)≥0 by grind)
   grind
  ·have k2:=key q
   have g3:=hq s.1 (h.mem s hs).1
   have g4:=hq l (el▸(h.mem _ hlc).1)
   have g5:=hq n (en▸(h.mem _ hnc).1)
   have p1:=ah.mp hc (show au s.1 q.1 q.2-au s.1 X Y>0 by grind)
   have p2:=ah.mn (show -ah.cr (ah.aq s.1) (ah.aq n)≥0 by grind) (show au l q.1 q.2≥0 by grind)
   have p3:=ah.mn (show -ah.cr (ah.aq l) (ah.aq s.1)≥0 by grind) (show au n q.1 q.2≥0 by grind)
   grind
end
end Go.Proofs.Tryz
namespace Go.Proofs.Tryz
open Go.bF Go.eK
namespace ah
theorem N8 {l m n:V2}(ul:up l)(un:dn n)(um:dn m)(h1:cr n m>0)(h2:cr l m>0):cr l n>0:=by
 by_cases c:cr l n>0
 ·exact c
 exfalso
 have e:cr l m*n.2=cr l n*m.2+cr n m*l.2:=by unfold cr;grind
 have hl:l.2≥0:=by unfold up at ul;grind
 have hn:n.2<=0:=by unfold dn at un;grind
 have hm:m.2<=0:=by unfold dn at um;grind
 have p1:=mn (show -cr l n≥0 by grind) (show -m.2≥0 by grind)
 have p2:=mn (show cr n m≥0 by grind) hl
 have n0:n.2=0:=by
  by_cases c:n.2=0
  ·exact c
  ·have:=mp h2 (show -n.2>0 by grind);grind
 have l0:l.2=0:=by
  by_cases c:l.2=0
  ·exact c
  ·have:=mp h1 (show l.2>0 by grind);rw [n0] at e;grind
 have l1:l.1>0:=by unfold up at ul;grind
 have:=mn (show l.1≥0 by grind) (show -m.2≥0 by grind)
 unfold cr at h2
 rw [l0] at h2
 grind
theorem N9 {l m n:V2}(ul:dn l)(un:up n)(um:up m)(h1:cr n m>0)(h2:cr l m>0):cr l n>0:=by
 have g:∀u:V2,dn u->up (-u.1,-u.2):=fun u=>by unfold dn up;dsimp only;intro h;grind
 have g':∀u:V2,up u->dn (-u.1,-u.2):=fun u=>by unfold dn up;dsimp only;intro h;grind
 have c2:∀u v:V2,cr (-u.1,-u.2) (-v.1,-v.2)=cr u v:=fun u v=>by unfold cr;grind
 have:=N8 (g l ul) (g' n un) (g' m um) (by rw [c2];exact h1) (by rw [c2];exact h2)
 rw [c2] at this
 exact this
theorem x_ {l m n:V2}(zl:nz l)(zm:nz m)(zn:nz n)(h:cr l m>0)(ho:ee l n<0/\(ee m l<0\/ee n m<0)\/ee n m<0/\ee m l<0):cr l n>0:=by
 have a1:cr m l<0:=by
  have:cr m l=-cr l m:=by unfold cr;grind
  grind
 simp only [pK] at ho
 have x1:¬(half m=half l/\cr m l>0):=fun g=>by have:=g.2;grind
 rcases jL zl with ⟨el,ul⟩|⟨el,ul⟩<;>rcases jL zm with ⟨em,um⟩|⟨em,um⟩<;>rcases jL zn with ⟨en,un⟩|⟨en,un⟩<;>rw [el,em,en] at ho<;>rw [el,em] at x1<;>simp at ho x1 <;>
  first
  | omega
  | exact ho.1
  | exact ho
  | exact N8 ul un um (by first|exact ho|exact ho.1|exact ho.2) h
  | exact N9 ul un um (by first|exact ho|exact ho.1|exact ho.2) h
  | grind
end ah
section
variable {M:List L3} {c:List Sd} (h:dS M c) (hk:∀m ∈ M,cE m=true)
include h hk
theorem yx {i:Nat}(hi:i<c.length)(hb:(c[i]).2.b=false):0<ah.cr (ah.aq (c[i]).1) (ah.aq (c[(i+1)%c.length]'(Nat.mod_lt _ (by omega))).1):=by
 have zs:∀k (hk':k<c.length),ah.nz (ah.aq (c[k]).1):=fun k hk'=>nF (hk _ (h.mem _ (List.getElem_mem hk')).1)
 have jA:∀a b (ha:a<c.length) (hb:b<c.length),a<b->ah.ee (ah.aq (c[a]).1) (ah.aq (c[b]).1)<0:=fun a b ha hb rG=>List.pairwise_iff_getElem.1 h.jA a b ha hb rG
 have hlc:c[i]∈c:=List.getElem_mem hi
 have hne:¬∀l∈c.map Prod.fst,0<=bj l (c[i]).1:=fun g=>by rw [(va h hk hlc).2 g] at hb;cases hb
 obtain ⟨m,hm,hd⟩:∃m∈c.map Prod.fst,¬0<=bj m (c[i]).1:=by
  by_cases c0:∃m∈c.map Prod.fst,¬0<=bj m (c[i]).1
  ·exact c0
  ·exact absurd (fun l hl=>by
    by_cases c1:0<=bj l (c[i]).1
    ·exact c1
    ·exact absurd ⟨l,hl,c1⟩ c0) hne
 obtain ⟨s,hs,rfl⟩:=List.mem_map.1 hm
 obtain ⟨j,hj,ej⟩:=List.mem_iff_getElem.1 hs
 rw [←ej,←gE] at hd
 have hc:ah.cr (ah.aq (c[i]).1) (ah.aq (c[j]).1)>0:=by
  have:ah.cr (ah.aq (c[i]).1) (ah.aq (c[j]).1)=-ah.cr (ah.aq (c[j]).1) (ah.aq (c[i]).1):=by unfold ah.cr;grind
  grind
 have hji:j≠i:=fun e=>by subst e;rw [ah.zh] at hc;exact absurd hc (by decide)
 by_cases hw:i+1<c.length
 ·have em:(i+1)%c.length=i+1:=Nat.mod_eq_of_lt hw
  simp only [em]
  by_cases hjn:j=i+1
  ·subst hjn;exact hc
  refine ah.x_ (zs i hi) (zs j hj) (zs (i+1) hw) hc (.inl ⟨jA i (i+1) hi hw (by omega),?_⟩)
  rcases Nat.lt_or_gt_of_ne hji with g|g
  ·exact .inl (jA j i hj hi g)
  ·exact .inr (jA (i+1) j hw hj (by omega))
 ·have em:(i+1)%c.length=0:=by rw [show i+1=c.length by omega];exact Nat.mod_self _
  simp only [em]
  by_cases hjn:j=0
  ·subst hjn;exact hc
  exact ah.x_ (zs i hi) (zs j hj) (zs 0 (by omega)) hc (.inr ⟨jA 0 j (by omega) hj (by omega),jA j i hj hi (by omega)⟩)
theorem yB {i:Nat}(hi:i<c.length){l n:L3}{s u:Sp}(el:c[i]=(l,s))(en:c[(i+1)%c.length]'(Nat.mod_lt _ (by omega))=(n,u))(hc:0<ah.cr (ah.aq l) (ah.aq n)) :
  s.b=false/\CJ l n=ef l s.hi/\CK l n=eg l s.hi/\u.a=false/\CJ l n=ef n u.lo/\CK l n=eg n u.lo:=by
 have hx:bz l n≠0:=by
  rw [jK,←gE];have:ah.cr (ah.aq n) (ah.aq l)=-ah.cr (ah.aq l) (ah.aq n):=by unfold ah.cr;grind
  grind
 have sH:=Ko h hk hi (l:=l) (n:=n) (by rw [el]) (by rw [en]) hc
 obtain ⟨v1,v2⟩:=DX hx
 have hlc:(l,s)∈c:=el▸List.getElem_mem hi
 have hnc:(n,u)∈c:=en▸List.getElem_mem _
 obtain ⟨l1,l2,l3⟩:=h.mem _ hlc
 obtain ⟨n1,n2,n3⟩:=h.mem _ hnc
 have hln:l≠n:=fun e=>by rw [e] at hc;unfold ah.cr at hc;grind
 have dn:bj n l<0:=by
  rw [←gE];have:ah.cr (ah.aq n) (ah.aq l)=-ah.cr (ah.aq l) (ah.aq n):=by unfold ah.cr;grind
  grind
 have dl:bj l n>0:=by rw [←gE];exact hc
 obtain ⟨t,t1,t2⟩:=kv (fF (hk _ l1)) v1
 obtain ⟨w,w1,w2⟩:=kv (fF (hk _ n1)) v2
 have A:s.b=false/\s.hi=t:=by
  have z:dv n l+bj n l*t=0:=by rw [←bG,←t1,←t2];exact v2
  have Hu:∀x,s.iN x->x<t:=fun x hx=>by
   have:=(l3 x).1 hx n n1 (fun e=>hln e.symm)
   rw [bG] at this
   by_cases c0:x<t
   ·exact c0
   ·have:=ah.mn (show -bj n l≥0 by grind) (show x-t≥0 by grind);grind
  have hb:s.b=false:=by
   cases hb:s.b
   ·rfl
   ·have:=(va h hk hlc).1 hb n (List.mem_map.2 ⟨_,hnc,rfl⟩)
    dsimp only at this;grind
  obtain ⟨t0,ht0⟩:=eN.1 l2.2
  have XX:=Hu t0 ht0
  have hi0:t0<s.hi:=ht0.2.elim (fun g=>by rw [hb] at g;cases g) id
  refine ⟨hb,?_⟩
  by_cases c1:t<s.hi
  ·exact absurd (Hu t ⟨ht0.1.imp id fun g=>by grind,.inr c1⟩) (by grind)
  by_cases c2:s.hi<t
  ·exfalso
   have:s.iN s.hi:=(l3 _).2 fun m hm e=>by
    have g0:=(l3 t0).1 ht0 m hm e
    have g1:=sH m hm
    rw [t1,t2,bG] at g1
    rw [bG] at g0 ⊢
    by_cases d0:0<=bj m l
    ·have:=ah.mn d0 (show s.hi-t0≥0 by grind);grind
    ·have:=ah.mp (show -bj m l>0 by grind) (show t-s.hi>0 by grind);grind
   exact absurd (this.2.elim (fun g=>by rw [hb] at g;cases g) id) (by grind)
  ·grind
 have B:u.a=false/\u.lo=w:=by
  have z:dv l n+bj l n*w=0:=by rw [←bG,←w1,←w2];exact v1
  have Ht:∀x,u.iN x->w<x:=fun x hx=>by
   have:=(n3 x).1 hx l l1 hln
   rw [bG] at this
   by_cases c0:w<x
   ·exact c0
   ·have:=ah.mn (show bj l n≥0 by grind) (show w-x≥0 by grind);grind
  have ha:u.a=false:=by
   cases ha:u.a
   ·rfl
   ·have:=(C_ h hk hnc).1 ha l (List.mem_map.2 ⟨_,hlc,rfl⟩)
    dsimp only at this;grind
  obtain ⟨t0,ht0⟩:=eN.1 n2.2
  have gt0:=Ht t0 ht0
  have XW:u.lo<t0:=ht0.1.elim (fun g=>by rw [ha] at g;cases g) id
  refine ⟨ha,?_⟩
  by_cases c1:u.lo<w
  ·exact absurd (Ht w ⟨.inr c1,ht0.2.imp id fun g=>by grind⟩) (by grind)
  by_cases c2:w<u.lo
  ·exfalso
   have:u.iN u.lo:=(n3 _).2 fun m hm e=>by
    have g0:=(n3 t0).1 ht0 m hm e
    have g1:=sH m hm
    rw [w1,w2,bG] at g1
    rw [bG] at g0 ⊢
    by_cases d0:bj m n<=0
    ·have:=ah.mn (show -bj m n≥0 by grind) (show t0-u.lo≥0 by grind);grind
    ·have:=ah.mp (show bj m n>0 by grind) (show u.lo-w>0 by grind);grind
   exact absurd (this.1.elim (fun g=>by rw [ha] at g;cases g) id) (by grind)
  ·grind
 rw [A.2,B.2]
 exact ⟨A.1,t1,t2,B.1,w1,w2⟩
end
end Go.Proofs.Tryz
namespace Go.Proofs.Tryz
open Go.bF Go.eK
def kT (l:L3)(t:Rat):ah.V2:=(ef l t,eg l t)
def tw (l:List ah.V2):Rat:=((List.range l.length).map fun i=>ah.cr (l.getD i (0,0)) (l.getD ((i+1)%l.length) (0,0))).sum
def iR (S:List L3):List ah.V2:=(List.range S.length).filterMap fun i=>if 0<ah.cr (ah.aq (S.getD i (0,0,0))) (ah.aq (S.getD ((i+1)%S.length) (0,0,0))) then some (CJ (S.getD i (0,0,0)) (S.getD ((i+1)%S.length) (0,0,0)),CK (S.getD i (0,0,0)) (S.getD ((i+1)%S.length) (0,0,0))) else none
def gS (s:Sd):Rat:=ah.cr (kT s.1 s.2.lo) (kT s.1 s.2.hi)
theorem E4 (f:Nat->Rat)(k:Nat):((List.range k).map fun i=>f ((i+1)%k)).sum=((List.range k).map f).sum:=by
 cases k with
 | zero=>rfl
 | succ k=>
  rw [List.range_succ,List.map_append,List.sum_append]
  have e1:((List.range k).map fun i=>f ((i+1)%(k+1)))=(List.range k).map fun i=>f (i+1):=List.map_congr_left fun i hi=>by
   have:=List.mem_range.1 hi
   rw [Nat.mod_eq_of_lt (by omega)]
  rw [e1]
  have e2:(List.range (k+1)).map f=f 0::(List.range k).map fun i=>f (i+1):=by
   rw [List.range_succ_eq_map,List.map_cons,List.map_map];rfl
  have e3:(List.range k++[k]).map f=f 0::(List.range k).map fun i=>f (i+1):=by rw [←List.range_succ,e2]
  rw [e3]
  simp only [List.map_cons,List.map_nil,List.sum_cons,List.sum_nil,Nat.mod_self]
  grind
theorem Hc {α β:Type}{f:α->Option β}{g:α->β}:∀{l:List α},(∀i∈l,f i=some (g i))->l.filterMap f=l.map g
 | [],_=>rfl
 | x::l,h=>by rw [List.filterMap_cons,h x (List.mem_cons_self ..),Hc fun i hi=>h i (List.mem_cons_of_mem _ hi)];rfl
theorem qt {α:Type}(l:List α)(d:α)(f:α->Rat):((List.range l.length).map fun i=>f (l.getD i d)).sum=(l.map f).sum:=by
 congr 1
 apply List.ext_getElem
 ·simp
 ·intro i h1 h2
  simp at h1
  simp [List.getD_eq_getElem?_getD,h1]
section
variable {M:List L3} {c:List Sd} (h:dS M c) (hk:∀m ∈ M,cE m=true) (hb:∀s ∈ c,s.2.a=false/\s.2.b=false)
include h hk hb
theorem Kq:iR (c.map Prod.fst)=(List.range c.length).map fun i=>kT (c.getD i ((0,0,0),aA)).1 (c.getD i ((0,0,0),aA)).2.hi:=by
 unfold iR
 rw [List.length_map]
 refine Hc fun i hi=>?_
 have hi:=List.mem_range.1 hi
 have hj:(i+1)%c.length<c.length:=Nat.mod_lt _ (by omega)
 have e:∀k,k<c.length->(c.map Prod.fst).getD k (0,0,0)=(c.getD k ((0,0,0),aA)).1:=fun k hk'=>by
  simp [List.getD_eq_getElem?_getD,hk']
 have e':∀k (hk':k<c.length),c.getD k ((0,0,0),aA)=c[k]:=fun k hk'=>by simp [List.getD_eq_getElem?_getD,hk']
 rw [e i hi,e _ hj,e' i hi,e' _ hj]
 have tl:=yx h hk hi (hb _ (List.getElem_mem hi)).2
 rw [if_pos tl]
 obtain ⟨-,a1,a2,-,-,-⟩:=yB h hk hi (l:=(c[i]).1) (s:=(c[i]).2) (n:=(c[(i+1)%c.length]).1) (u:=(c[(i+1)%c.length]).2) rfl rfl tl
 rw [a1,a2]
 rfl
theorem yr {i:Nat}(hi:i<c.length):kT (c[i]).1 (c[i]).2.hi=kT (c[(i+1)%c.length]'(Nat.mod_lt _ (by omega))).1 (c[(i+1)%c.length]'(Nat.mod_lt _ (by omega))).2.lo:=by
 have tl:=yx h hk hi (hb _ (List.getElem_mem hi)).2
 obtain ⟨-,a1,a2,-,a3,a4⟩:=yB h hk hi (l:=(c[i]).1) (s:=(c[i]).2) (n:=(c[(i+1)%c.length]'(Nat.mod_lt _ (by omega))).1) (u:=(c[(i+1)%c.length]'(Nat.mod_lt _ (by omega))).2) rfl rfl tl
 unfold kT
 rw [←a1,←a2,←a3,←a4]
theorem B8:tw (iR (c.map Prod.fst))=(c.map gS).sum:=by
 rw [Kq h hk hb]
 unfold tw
 rw [List.length_map,List.length_range]
 have e':∀k (hk':k<c.length),c.getD k ((0,0,0),aA)=c[k]:=fun k hk'=>by simp [List.getD_eq_getElem?_getD,hk']
 have:((List.range c.length).map fun i=>ah.cr (((List.range c.length).map fun i=>kT (c.getD i ((0,0,0),aA)).1 (c.getD i ((0,0,0),aA)).2.hi).getD i (0,0)) (((List.range c.length).map fun i=>kT (c.getD i ((0,0,0),aA)).1 (c.getD i ((0,0,0),aA)).2.hi).getD ((i+1)%c.length) (0,0))) =
   (List.range c.length).map fun i=>(fun j=>gS (c.getD j ((0,0,0),aA))) ((i+1)%c.length):=List.map_congr_left fun i hi=>by
  have hi:=List.mem_range.1 hi
  have hj:(i+1)%c.length<c.length:=Nat.mod_lt _ (by omega)
  have g:∀k,k<c.length->((List.range c.length).map fun i=>kT (c.getD i ((0,0,0),aA)).1 (c.getD i ((0,0,0),aA)).2.hi).getD k (0,0)=kT (c.getD k ((0,0,0),aA)).1 (c.getD k ((0,0,0),aA)).2.hi:=fun k hk'=>by
   rw [List.getD_eq_getElem?_getD,List.getElem?_map,List.getElem?_range hk'];rfl
  rw [g i hi,g _ hj]
  dsimp only
  rw [e' i hi,e' _ hj,yr h hk hb hi]
  rfl
 rw [this,E4 (fun j=>gS (c.getD j ((0,0,0),aA))),qt]
end
theorem ua (s:Sd):gS s=(s.2.hi-s.2.lo)*ah.cr (kT s.1 0) (ah.aq s.1):=by
 unfold gS kT ah.cr ah.aq ef eg;dsimp only;grind
theorem QF (l:L3)(q:ah.V2):ah.cr ((kT l 0).1-q.1,(kT l 0).2-q.2) (ah.aq l)=au l q.1 q.2-au l (kT l 0).1 (kT l 0).2:=by
 unfold ah.cr ah.aq au;dsimp only;grind
end Go.Proofs.Tryz
namespace Go.Proofs.Tryz
open Go.bF Go.eK
theorem sR {α:Type}{f A B C:α->Rat}:∀{l:List α},(∀s∈l,f s=A s+B s-C s)->(l.map f).sum=(l.map A).sum+(l.map B).sum-(l.map C).sum
 | [],_=>by simp;grind
 | x::l,h=>by
  have:=sR (l:=l) (f:=f) (A:=A) (B:=B) (C:=C) fun s hs=>h s (List.mem_cons_of_mem _ hs)
  simp only [List.map_cons,List.sum_cons]
  rw [h x (List.mem_cons_self ..),this];grind
theorem DT {α:Type}{f:α->Rat}:∀{l:List α},(∀s∈l,0<=f s)->0<=(l.map f).sum/\∀s∈l,f s<=(l.map f).sum
 | [],_=>⟨by simp,fun s hs=>by cases hs⟩
 | x::l,h=>by
  obtain ⟨h1,h2⟩:=DT (l:=l) (f:=f) fun s hs=>h s (List.mem_cons_of_mem _ hs)
  have hx:=h x (List.mem_cons_self ..)
  simp only [List.map_cons,List.sum_cons]
  refine ⟨by grind,List.forall_mem_cons.2 ⟨by grind,fun s hs=>by have:=h2 s hs;grind⟩⟩
section
variable {M:List L3} {c:List Sd} (h:dS M c) (hk:∀m ∈ M,cE m=true) (hb:∀s ∈ c,s.2.a=false/\s.2.b=false)
include h hk hb
theorem OS (F:ah.V2->Rat):(c.map fun s=>F (kT s.1 s.2.hi)).sum=(c.map fun s=>F (kT s.1 s.2.lo)).sum:=by
 rw [←qt c ((0,0,0),aA) (fun s=>F (kT s.1 s.2.hi)),←qt c ((0,0,0),aA) (fun s=>F (kT s.1 s.2.lo)),←E4 (fun i=>F (kT (c.getD i ((0,0,0),aA)).1 (c.getD i ((0,0,0),aA)).2.lo))]
 congr 1
 refine List.map_congr_left fun i hi=>?_
 have hi:=List.mem_range.1 hi
 have hj:(i+1)%c.length<c.length:=Nat.mod_lt _ (by omega)
 have e':∀k (hk':k<c.length),c.getD k ((0,0,0),aA)=c[k]:=fun k hk'=>by simp [List.getD_eq_getElem?_getD,hk']
 rw [e' i hi,e' _ hj,yr h hk hb hi]
omit hk in
theorem lK {s:Sd}(hs:s∈c):0<s.2.hi-s.2.lo:=by
 obtain ⟨a,b⟩:=hb s hs
 have:=(h.mem s hs).2.1.2
 rw [Sp.fw,a,b] at this
 rcases this with g|g|g
 ·cases g
 ·cases g
 ·grind
theorem Mr (h0:c≠[]):0<(c.map gS).sum:=by
 obtain ⟨q,hq⟩:=h.pos
 rw [sR (A:=fun s=>(s.2.hi-s.2.lo)*au s.1 q.1 q.2) (B:=fun s=>ah.cr q (kT s.1 s.2.hi)) (C:=fun s=>ah.cr q (kT s.1 s.2.lo)) fun s hs=>?_,OS h hk hb (ah.cr q)]
 ·obtain ⟨s,hs⟩:=List.exists_mem_of_ne_nil c h0
  obtain ⟨-,g⟩:=DT (l:=c) (f:=fun s=>(s.2.hi-s.2.lo)*au s.1 q.1 q.2) fun s hs=>by
   have:=ah.mp (lK h hb hs) (hq _ (h.mem s hs).1);grind
  have g1:=g s hs
  have g2:=ah.mp (lK h hb hs) (hq _ (h.mem s hs).1)
  exact Std.lt_of_lt_of_le g2 (Std.le_trans g1 (by grind))
 ·have z:=(gC (fF (hk _ (h.mem s hs).1)) 0).1
  have e:ah.cr (kT s.1 0) (ah.aq s.1)=au s.1 q.1 q.2+ah.cr q (ah.aq s.1):=by
   have:=QF s.1 q
   unfold kT at this ⊢
   dsimp only at this ⊢
   rw [z] at this
   unfold ah.cr at this ⊢
   dsimp only at this ⊢
   grind
  rw [ua,e]
  have:ah.cr q (kT s.1 s.2.hi)-ah.cr q (kT s.1 s.2.lo)=(s.2.hi-s.2.lo)*ah.cr q (ah.aq s.1):=by
   unfold ah.cr kT ah.aq ef eg;dsimp only;grind
  grind
theorem H4 (h0:c≠[]){w:ah.V2}(hw:ah.nz w)(hr:∀s∈c,0<=ah.cr (ah.aq s.1) w):False:=by
 have e:(c.map fun s=>(s.2.hi-s.2.lo)*ah.cr (ah.aq s.1) w).sum=0:=by
  rw [sR (A:=fun _=>0) (B:=fun s=>ah.cr (kT s.1 s.2.hi) w) (C:=fun s=>ah.cr (kT s.1 s.2.lo) w) fun s hs=>?_,OS h hk hb fun p=>ah.cr p w]
  ·have z:∀l:List Sd,(l.map fun _=>(0:Rat)).sum=0:=fun l=>by
    induction l with
    | nil=>rfl
    | cons x l ih=>simp only [List.map_cons,List.sum_cons,ih];grind
   rw [z];grind
  ·unfold ah.cr kT ah.aq ef eg;dsimp only;grind
 obtain ⟨-,g⟩:=DT (l:=c) (f:=fun s=>(s.2.hi-s.2.lo)*ah.cr (ah.aq s.1) w) fun s hs=>by
  have a:=lK h hb hs
  have b:=ah.mn (show s.2.hi-s.2.lo≥0 by grind) (hr s hs)
  exact b
 rw [e] at g
 have hz:∀s∈c,ah.cr (ah.aq s.1) w=0:=fun s hs=>by
  have g1:=g s hs
  have g2:=hr s hs
  by_cases c0:ah.cr (ah.aq s.1) w=0
  ·exact c0
  ·have:=ah.mp (lK h hb hs) (show ah.cr (ah.aq s.1) w>0 by grind);grind
 obtain ⟨s,hs⟩:=List.exists_mem_of_ne_nil c h0
 have:s.2.b=true:=(va h hk hs).2 fun l hl=>by
  obtain ⟨u,hu,rfl⟩:=List.mem_map.1 hl
  rw [←gE]
  have e1:=hz s hs
  have e2:=hz u hu
  have p:ah.cr (ah.aq u.1) (ah.aq s.1)=0:=by
   unfold ah.cr ah.nz at *
   rcases hw with hw|hw
   ·have hi:=Rat.mul_inv_cancel _ hw;grind
   ·have hi:=Rat.mul_inv_cancel _ hw;grind
  rw [p];exact Rat.le_refl
 rw [(hb s hs).2] at this;cases this
end
end Go.Proofs.Tryz
namespace Go.Proofs.Tryz
open Go.bF Go.eK
theorem ug (f:Sd->Rat)(x:Sd):∀r:List Sd,((iQ x r).map f).sum=f x+(r.map f).sum
 | []=>by simp [iQ]
 | s::r=>by
  unfold iQ
  split
  ·rw [List.map_cons,List.sum_cons,ug f x r,List.map_cons,List.sum_cons];grind
  ·simp only [List.map_cons,List.sum_cons]
def gJ (l:L3)(s:Sd):Rat:=if cH s.1 s.2 l=true then gS (s.1,cq s.1 s.2 l) else 0
theorem tO (l:L3):∀c:List Sd,((iO c l).map gS).sum=(c.map (gJ l)).sum
 | []=>rfl
 | s::r=>by
  have ih:=tO l r
  unfold iO at ih ⊢
  rw [List.filterMap_cons,List.map_cons,List.sum_cons,←ih]
  unfold gJ
  by_cases hb:cH s.1 s.2 l=true
  ·simp only [if_pos hb,List.map_cons,List.sum_cons]
  ·simp only [if_neg hb];grind
theorem sI (l m:L3):bj (bE l) m=-bj l m:=by unfold bj bE;simp only [Rat.intCast_neg];grind
theorem Eo (l m:L3):dv (bE l) m=-dv l m:=by unfold dv;exact val_rev ..
theorem A5 {l m:L3}(h:bj l m≠0):bS (bE l) m=bS l m:=by
 have h1:=Rat.mul_inv_cancel _ h
 have h2:=Rat.mul_inv_cancel _ (show -bj l m≠0 by grind)
 unfold bS
 rw [sI,Eo]
 grind
theorem EA {m l:L3}{lo hi:Rat}(h:bj l m>0):gJ l (m,⟨lo,hi,false,false⟩)=if kW lo (bS l m)<hi then (hi-kW lo (bS l m))*ah.cr (kT m 0) (ah.aq m) else 0:=by
 have e1:(bj l m).num.sign=1:=ah.IG.2 h
 have cs:cq m ⟨lo,hi,false,false⟩ l=⟨kW lo (bS l m),hi,false,false⟩:=by unfold cq;rw [e1];rfl
 have cb:cH m ⟨lo,hi,false,false⟩ l=!(⟨kW lo (bS l m),hi,false,false⟩:Sp).emp:=by unfold cH;rw [e1,cs];rfl
 unfold gJ
 dsimp only
 rw [cb,cs,ua]
 have:=@Sp.fw ⟨kW lo (bS l m),hi,false,false⟩
 by_cases g:kW lo (bS l m)<hi
 ·rw [this.2 (.inr (.inr g)),if_pos (show (!false)=true from rfl),if_pos g]
 ·rw [if_neg g,if_neg]
  intro h'
  have h':(⟨kW lo (bS l m),hi,false,false⟩:Sp).emp=false:=by simpa using h'
  rcases this.1 h' with k|k|k
  ·cases k
  ·cases k
  ·exact g k
theorem Ez {m l:L3}{lo hi:Rat}(h:bj l m<0):gJ l (m,⟨lo,hi,false,false⟩)=if lo<kX hi (bS l m) then (kX hi (bS l m)-lo)*ah.cr (kT m 0) (ah.aq m) else 0:=by
 have e1:(bj l m).num.sign=-1:=ah.DP.2 h
 have cs:cq m ⟨lo,hi,false,false⟩ l=⟨lo,kX hi (bS l m),false,false⟩:=by unfold cq;rw [e1];rfl
 have cb:cH m ⟨lo,hi,false,false⟩ l=!(⟨lo,kX hi (bS l m),false,false⟩:Sp).emp:=by unfold cH;rw [e1,cs];rfl
 unfold gJ
 dsimp only
 rw [cb,cs,ua]
 have:=@Sp.fw ⟨lo,kX hi (bS l m),false,false⟩
 by_cases g:lo<kX hi (bS l m)
 ·rw [this.2 (.inr (.inr g)),if_pos (show (!false)=true from rfl),if_pos g]
 ·rw [if_neg g,if_neg]
  intro h'
  have h':(⟨lo,kX hi (bS l m),false,false⟩:Sp).emp=false:=by simpa using h'
  rcases this.1 h' with k|k|k
  ·cases k
  ·cases k
  ·exact g k
theorem pieces {s:Sd}{l:L3}(ha:s.2.a=false)(hb:s.2.b=false)(hlt:s.2.lo<s.2.hi)(hne:bj l s.1=0->dv l s.1≠0):gJ l s+gJ (bE l) s=gS s:=by
 obtain ⟨m,lo,hi,a,b⟩:=s
 dsimp only at ha hb hlt hne
 subst ha hb
 have both:∀K:Rat,∀p:Rat,(if kW lo p<hi then (hi-kW lo p)*K else 0)+(if lo<kX hi p then (kX hi p-lo)*K else 0)=(hi-lo)*K:=fun K p=>by
  unfold kW kX
  rcases kn p lo with ⟨g,e⟩|⟨g,e⟩|⟨g,e⟩<;>rcases kn p hi with ⟨g',e'⟩|⟨g',e'⟩|⟨g',e'⟩<;>rw [e,e']<;>simp<;>grind
 rcases kH (bj l m) with ⟨h,e⟩|⟨h,e⟩|⟨h,e⟩
 ·have c1:∀l':L3,bj l' m=0->gJ l' (m,⟨lo,hi,false,false⟩)=if 0<dv l' m then gS (m,⟨lo,hi,false,false⟩) else 0:=fun l' h'=>by
   have e1:(bj l' m).num.sign=0:=ah.mr.2 h'
   have cs:cq m ⟨lo,hi,false,false⟩ l'=⟨lo,hi,false,false⟩:=by unfold cq;rw [e1];rfl
   have cb:cH m ⟨lo,hi,false,false⟩ l'=decide ((dv l' m).num.sign>0):=by unfold cH;rw [e1];rfl
   unfold gJ
   dsimp only
   rw [cb,cs]
   by_cases g:0<dv l' m
   ·rw [if_pos g,if_pos (by rw [decide_eq_true_iff];exact ah.lJ.2 g)]
   ·rw [if_neg g,if_neg (by rw [decide_eq_true_iff];exact fun k=>g (ah.lJ.1 k))]
  rw [c1 l h,c1 (bE l) (by rw [sI,h];grind),Eo]
  have:=hne h
  by_cases g:0<dv l m
  ·rw [if_pos g,if_neg (by grind)];grind
  ·rw [if_neg g,if_pos (by grind)];grind
 ·rw [EA h,Ez (by rw [sI];grind),A5 (by grind),both,ua]
 ·rw [Ez h,EA (by rw [sI];grind),A5 (by grind),ua]
  have:=both (ah.cr (kT m 0) (ah.aq m)) (bS l m)
  dsimp only
  grind
theorem IJ {lo hi lo' hi':Rat}(h:lo<hi)(h':lo'<hi')(e:∀t:Rat,(lo'<t/\t<hi')↔(lo< -t/\-t<hi)):hi'-lo'=hi-lo:=by
 have A:∀{lo hi lo' hi':Rat},lo<hi->lo'<hi'->(∀t:Rat,(lo'<t/\t<hi')->(lo< -t/\-t<hi))->-hi<=lo'/\hi'<=-lo:=fun {lo hi lo' hi'} h h' e=>by
  constructor
  ·by_cases c:-hi<=lo'
   ·exact c
   exfalso
   by_cases d:-hi<hi'
   ·have:=e ((lo'+-hi) / 2) ⟨by grind,by grind⟩;grind
   ·have:=e ((lo'+hi') / 2) ⟨by grind,by grind⟩;grind
  ·by_cases c:hi'<=-lo
   ·exact c
   exfalso
   by_cases d:lo'< -lo
   ·have:=e ((hi'+-lo) / 2) ⟨by grind,by grind⟩;grind
   ·have:=e ((lo'+hi') / 2) ⟨by grind,by grind⟩;grind
 obtain ⟨a1,a2⟩:=A h h' fun t ht=>(e t).1 ht
 obtain ⟨b1,b2⟩:=A h' h fun t ht=>(e (-t)).2 (by rw [Rat.neg_neg];exact ht)
 grind
section
variable {M:List L3} {c:List Sd} (h:dS M c) (hk:∀m ∈ M,cE m=true) (hb:∀s ∈ c,s.2.a=false/\s.2.b=false)
include h hk hb
theorem BK (h0:c≠[]){l:L3}(hl:cE l=true){v:Sp}(e:bD c l aA=some v):v.a=false/\v.b=false/\v.lo<v.hi/\∀t,v.iN t↔∀s∈c,0<au s.1 (ef l t) (eg l t):=by
 obtain ⟨g1,g2⟩:=ml fR e
 have g2:∀t,v.iN t↔∀s∈c,0<au s.1 (ef l t) (eg l t):=fun t=>(g2 t).trans ⟨fun g=>g.2,fun g=>⟨lx t,g⟩⟩
 obtain ⟨t0,ht0⟩:=eN.1 g1.2
 have hb':v.b=false:=by
  cases eb:v.b
  ·rfl
  ·exfalso
   refine H4 h hk hb h0 (w:=ah.aq l) (nF hl) fun s hs=>?_
   rw [gE]
   refine uu (b:=dv s.1 l) (t0:=t0) fun t ht=>?_
   have:=(g2 t).1 ⟨ht0.1.imp id fun g=>by grind,.inl eb⟩ s hs
   rw [bG] at this;grind
 have ha':v.a=false:=by
  cases ea:v.a
  ·rfl
  ·exfalso
   refine H4 h hk hb h0 (w:=(-(ah.aq l).1,-(ah.aq l).2)) (by have:=nF hl;unfold ah.nz;dsimp only;grind) fun s hs=>?_
   have:bj s.1 l<=0:=zB (b:=dv s.1 l) (t0:=t0) fun t ht=>by
    have:=(g2 t).1 ⟨.inl ea,ht0.2.imp id fun g=>by grind⟩ s hs
    rw [bG] at this;grind
   have e:ah.cr (ah.aq s.1) (-(ah.aq l).1,-(ah.aq l).2)=-bj s.1 l:=by rw [←gE];unfold ah.cr;grind
   rw [e];grind
 refine ⟨ha',hb',?_,g2⟩
 have:=Sp.fw.1 g1.2
 rw [ha',hb'] at this
 rcases this with g|g|g
 ·cases g
 ·cases g
 ·exact g
theorem Km (h0:c≠[]){l:L3}(hl:cE l=true){v w:Sp}(e:bD c l aA=some v)(e':bD c (bE l) aA=some w) :
  ((iQ (l,v) (iO c l)).map gS).sum+((iQ (bE l,w) (iO c (bE l))).map gS).sum=(c.map gS).sum:=by
 obtain ⟨v1,v2,v3,v4⟩:=BK h hk hb h0 hl e
 obtain ⟨w1,w2,w3,w4⟩:=BK h hk hb h0 (uF hl) e'
 have Jh:∀t,ef (bE l) t=ef l (-t)/\eg (bE l) t=eg l (-t):=fun t=>by
  unfold ef eg iB bE;simp only [Rat.intCast_neg];constructor<;>grind
 have iN:∀{s:Sp},s.a=false->s.b=false->∀t,s.iN t↔s.lo<t/\t<s.hi:=fun a b t=>by unfold Sp.iN;rw [a,b];simp
 have sp:=IJ v3 w3 fun t=>by
  rw [←iN w1 w2,←iN v1 v2,w4,v4,(Jh t).1,(Jh t).2]
 have gl:gS (bE l,w)=-gS (l,v):=by
  rw [ua,ua]
  dsimp only
  rw [sp]
  have e0:kT (bE l) 0=kT l 0:=by unfold kT;rw [(Jh 0).1,(Jh 0).2];rfl
  rw [e0,zo]
  unfold ah.cr;grind
 rw [ug,ug,tO,tO,gl]
 have hx:=(jS h hk hl).1 (by rw [e];rfl)
 have:=sR (l:=c) (f:=gS) (A:=gJ l) (B:=gJ (bE l)) (C:=fun _=>0) fun s hs=>by
  obtain ⟨s1,s2⟩:=hb s hs
  have:=lK h hb hs
  rw [pieces s1 s2 (by grind) fun hd hz=>?_]
  ·grind
  ·obtain ⟨x,x0,x1⟩:=hx
   have Q7:=(h.mem s hs).1
   have z1:=(gC (fF (hk _ Q7)) 0).1
   have z2:au l (ef s.1 0) (eg s.1 0)=0:=by rw [bG,hd,hz];grind
   have:=x1 s.1 Q7
   rcases IE hl (hk _ Q7) (p:=(ef s.1 0,eg s.1 0)) z2 z1 (by rw [gE];exact hd) with g|g
   ·rw [←g,x0] at this;grind
   ·rw [g,val_rev] at x0;grind
 have z:∀l:List Sd,(l.map fun _=>(0:Rat)).sum=0:=fun l=>by
  induction l with
  | nil=>rfl
  | cons x l ih=>simp only [List.map_cons,List.sum_cons,ih];grind
 rw [z] at this
 grind
end
end Go.Proofs.Tryz
namespace Go.Proofs.Tryz
open Go.bF Go.eK
section
variable {M:List L3} {c:List Sd} (h:dS M c) (hk:∀m ∈ M,cE m=true)
include h hk
theorem uR:∀m∈c.map Prod.fst,cE m=true:=fun m hm=>by
 obtain ⟨s,hs,rfl⟩:=List.mem_map.1 hm
 exact hk _ (h.mem s hs).1
theorem II {l:L3}(hl:l∈c.map Prod.fst):ah.Es (c.map Prod.fst) l:=by
 obtain ⟨s,hs,rfl⟩:=List.mem_map.1 hl
 obtain ⟨e1,e2⟩:=fg h hk hs
 exact ⟨(ef s.1 s.2.cA,eg s.1 s.2.cA),e1,fun m hm hne=>by
  obtain ⟨u,hu,rfl⟩:=List.mem_map.1 hm
  exact e2 _ (h.mem u hu).1 hne⟩
theorem C5:∃c',bB (c.map Prod.fst) [] []=some c'/\dS (c.map Prod.fst).reverse c'/\c'.map Prod.fst=c.map Prod.fst:=by
 have ok:=uR h hk
 obtain ⟨h1,h2⟩:=G2 ok
 obtain ⟨q,hq⟩:=h.pos
 cases e:bB (c.map Prod.fst) [] [] with
 | none=>exact absurd ⟨q,(Gd h hk q).2 hq⟩ (h2 e).2.2
 | some c'=>
  obtain ⟨a1,a2,-⟩:=h1 c' e
  refine ⟨c',rfl,a2,tq (List.pairwise_map.2 a2.jA) (List.pairwise_map.2 h.jA) fun x=>?_⟩
  constructor
  ·intro hx
   obtain ⟨s,hs,rfl⟩:=List.mem_map.1 hx
   exact List.mem_reverse.1 (a2.mem s hs).1
  ·intro hx
   obtain ⟨v,hv⟩:=a2.all x (List.mem_reverse.2 hx) (Es.of (fun y hy=>List.mem_reverse.1 hy) (II h hk hx))
   exact List.mem_map.2 ⟨_,hv,rfl⟩
end
theorem CS {M:List L3}{c:List Sd}(h:dS M c)(hk:∀m∈M,cE m=true)(hq:∀v:ah.V2,(∀m∈M,0<=ah.nv m v)->v.1=0/\v.2=0):∀s∈c,s.2.a=false/\s.2.b=false:=by
 intro s hs
 obtain ⟨m1,m2,m3⟩:=h.mem s hs
 obtain ⟨t0,ht0⟩:=eN.1 m2.2
 have nz:=nF (hk _ m1)
 have Ua:∀m:L3,ah.nv m (ah.aq s.1)=bj m s.1:=fun m=>by unfold ah.nv ah.aq bj;rfl
 constructor
 ·cases ea:s.2.a
  ·rfl
  ·exfalso
   have:=hq (-(ah.aq s.1).1,-(ah.aq s.1).2) fun m hm=>by
    have e:ah.nv m (-(ah.aq s.1).1,-(ah.aq s.1).2)=-bj m s.1:=by rw [←Ua];unfold ah.nv;grind
    rw [e]
    by_cases em:m=s.1
    ·rw [em,oG];grind
    have:=zB (b:=dv m s.1) (d:=bj m s.1) (t0:=t0) fun t ht=>by
     have:=(m3 t).1 ⟨.inl ea,ht0.2.imp id fun g=>by grind⟩ m hm em
     rw [bG] at this;grind
    grind
   dsimp only at this
   rcases nz with g|g
   ·exact g (by grind)
   ·exact g (by grind)
 ·cases eb:s.2.b
  ·rfl
  ·exfalso
   have:=hq (ah.aq s.1) fun m hm=>by
    rw [Ua]
    by_cases em:m=s.1
    ·rw [em,oG];exact Rat.le_refl
    exact uu (b:=dv m s.1) (d:=bj m s.1) (t0:=t0) fun t ht=>by
     have:=(m3 t).1 ⟨ht0.1.imp id fun g=>by grind,.inl eb⟩ m hm em
     rw [bG] at this;grind
   rcases nz with g|g
   ·exact g this.1
   ·exact g this.2
end Go.Proofs.Tryz
namespace Go.Proofs.Tryz
open Go.bF Go.eK
theorem l_.up {k K:Nat}{l:L3}(h:l_ k l)(hk:k<=K):l_ K l:=⟨h.1.mono hk,h.2.1.mono hk,h.2.2.mono hk⟩
theorem E6 {L M:L3}{s:Sp}{k K:Nat}(sl:l_ k L)(sm:l_ k M)(hs:s.sz K)(hk:60*k+60<=K):(cq L s M).sz K:=by
 have z:=KW K (by omega)
 have c:=(zW sl sm).mono hk
 unfold cq
 split
 ·exact hs
 ·split
  ·exact Sp.zD hs ⟨c,z⟩
  ·exact Sp.zD hs ⟨z,c⟩
theorem Jz {k:Nat}(hk:0<k):aA.sz k:=⟨KW k hk,KW k hk⟩
def P1 (s:Sd):Prop:=Bd s.1/\s.2.sz 100000
theorem EG {x:Sd}:∀{r:List Sd} {i:Nat},i<=r.length->(∀k (h:k<r.length),k<i->ah.ee (ah.aq r[k].1) (ah.aq x.1)<0)->(∀h:i<r.length,¬ah.ee (ah.aq r[i].1) (ah.aq x.1)<0)->iQ x r=r.take i++x::r.drop i
 | [],i,hi,_,_=>by simp [iQ]
 | s::r,0,_,_,h=>by
  have:¬ah.ee (ah.aq s.1) (ah.aq x.1)<0:=h (Nat.zero_lt_succ _)
  unfold iQ
  rw [if_neg this]
  rfl
 | s::r,i+1,hi,h1,h2=>by
  have:ah.ee (ah.aq s.1) (ah.aq x.1)<0:=h1 0 (Nat.zero_lt_succ _) (Nat.zero_lt_succ _)
  unfold iQ
  rw [if_pos this,EG (r:=r) (i:=i) (by simpa using hi) (fun k hk hki=>h1 (k+1) (by simpa using hk) (by omega)) fun h=>h2 (by simpa using h)]
  rfl
structure Bs (r:List Sd) (l:L3) (i j:Nat):Prop where
 le:i<=j
 len:j<=r.length
 lo:∀k (h:k<r.length),k<i->ah.ee (ah.aq r[k].1) (ah.aq l)<0
 hi:∀h:j<r.length,¬ah.ee (ah.aq r[j].1) (ah.aq l)<0
theorem Bs.start (r:List Sd)(l:L3):Bs r l 0 r.length:=⟨Nat.zero_le _,Nat.le_refl _,fun k h hk=>absurd hk (Nat.not_lt_zero _),fun h=>absurd h (Nat.lt_irrefl _)⟩
theorem Bs.up {r:List Sd}{l:L3}{i j h:Nat}(b:Bs r l i j)(jA:r.Pairwise fun s u=>ah.ee (ah.aq s.1) (ah.aq u.1)<0)(h2:h<j)(hl:h<r.length)(hc:ah.ee (ah.aq r[h].1) (ah.aq l)<0):Bs r l (h+1) j:=
 ⟨h2,b.len,fun k hk hkh=>by
  by_cases e:k=h
  ·subst e;exact hc
  ·exact yI (List.pairwise_iff_getElem.1 jA k h hk hl (by omega)) hc,b.hi⟩
theorem Bs.down {r:List Sd}{l:L3}{i j h:Nat}(b:Bs r l i j)(h1:i<=h)(hl:h<r.length)(hc:¬ah.ee (ah.aq r[h].1) (ah.aq l)<0):Bs r l i h:=
 ⟨h1,by omega,b.lo,fun _=>hc⟩
theorem Bs.done {r:List Sd}{l:L3}{i:Nat}(b:Bs r l i i)(v:Sp):iQ (l,v) r=r.take i++(l,v)::r.drop i:=EG b.len b.lo b.hi
theorem RR.half (V:View):RR V (.agg #[.int .i64 1,.int .i64 1,.pointer none]) (((2:Int):Rat)⁻¹):=by
 have e1:(((2:Int):Rat)⁻¹).num=1:=by decide +kernel
 have e2:(((2:Int):Rat)⁻¹).den=2:=by decide +kernel
 refine .inl ⟨by rw [e1,e2];rfl,?_⟩
 unfold Wd
 rw [e1,e2];decide
theorem AQ {V:View}{v:Value}{x:Rat}(hx:RR V v x){k:Nat}(hk:Sz k x)(hkm:k+2<1099511627776) :
  ab prog 151 #[v] V fun r V'=>RR V' r (x*((2:Int):Rat)⁻¹):=by
 have hx0:=hx
 obtain ⟨a,b,c,rfl⟩:=hx.shape
 refine vh a b c V _ fun V1 l1=>(eL (hx0.le l1) (RR.half V1) hk (gK zZ) hkm).mono ?_
 rintro r V2 l2 g
 have g0:=g
 obtain ⟨u,v,w,rfl⟩:=g.shape
 exact ⟨_,_,_,rfl,fun V3 l3=>g0.le l3⟩
theorem AO {V:View}{v:Value}{s:Sp}(h:El V v s){k:Nat}(hs:s.sz k)(hk:4*k+8<1099511627776) :
  ab prog 133 #[v] V fun r V'=>RR V' r s.cA:=by
 obtain ⟨x1,x2,p,y1,y2,q,rfl,h1,h2⟩:=h
 have a1:s.a=true->s.b=true->s.cA=0:=fun x y=>by simp [Sp.cA,x,y]
 have a2:s.a=true->s.b=false->s.cA=s.hi-((1:Int):Rat):=fun x y=>by simp [Sp.cA,x,y]
 have a3:s.a=false->s.b=true->s.cA=s.lo+((1:Int):Rat):=fun x y=>by simp [Sp.cA,x,y]
 have a4:s.a=false->s.b=false->s.cA=(s.lo+s.hi)*((2:Int):Rat)⁻¹:=fun x y=>by simp [Sp.cA,x,y]
 have no:∀{P:Prop},s.a=true->s.a=false->P:=fun x y=>by rw [x] at y;cases y
 have XY:∀{P:Prop},s.b=true->s.b=false->P:=fun x y=>by rw [x] at y;cases y
 refine qB x1 x2 p y1 y2 q s.a s.b V _ ⟨fun ha=>⟨fun hb V1 l1=>?_,fun hb=>⟨fun _ V2 l2=>(ie 1 (by decide) (by decide)).mono ?_,fun e=>no ha e⟩⟩,fun ha=>⟨fun e=>no e ha,fun _=>⟨fun hb vO kO=>(ie 1 (by decide) (by decide)).mono ?_,fun hb Mw mV=>(iT (h1.le mV) (h2.le mV) hs.1 hs.2 (by omega)).mono ?_⟩⟩⟩
 ·rw [a1 ha hb];exact RR.zero _
 ·rintro r V3 l3 g
  have g0:=g
  obtain ⟨u,v,w,rfl⟩:=g.shape
  refine ⟨_,_,_,rfl,fun V4 l4=>(oA (h2.le (l2.trans (l3.trans l4))) (g0.le l4) hs.2 gV (by omega)).mono ?_⟩
  rintro r V5 l5 f
  have f0:=f
  obtain ⟨u,v,w,rfl⟩:=f.shape
  exact ⟨_,_,_,rfl,fun V6 l6=>by rw [a2 ha hb];exact f0.le l6⟩
 ·rintro r V3 l3 g
  have g0:=g
  obtain ⟨u,v,w,rfl⟩:=g.shape
  refine ⟨_,_,_,rfl,fun V4 l4=>(iT (h1.le (kO.trans (l3.trans l4))) (g0.le l4) hs.1 gV (by omega)).mono ?_⟩
  rintro r V5 l5 f
  have f0:=f
  obtain ⟨u,v,w,rfl⟩:=f.shape
  exact ⟨_,_,_,rfl,fun V6 l6=>by rw [a3 ha hb];exact f0.le l6⟩
 ·rintro r V3 l3 g
  have g0:=g
  obtain ⟨u,v,w,rfl⟩:=g.shape
  refine ⟨_,_,_,rfl,fun V4 l4=>(AQ (g0.le l4) (hs.1.add hs.2) (by omega)).mono ?_⟩
  rintro r V5 l5 f
  have f0:=f
  obtain ⟨u,v,w,rfl⟩:=f.shape
  exact ⟨_,_,_,rfl,fun V6 l6=>by rw [a4 ha hb];exact f0.le l6⟩
theorem Na {V:View}:ab prog 179 #[] V fun r V'=>r=.agg #[.int .i64 0,.int .i64 0,.pointer none,.int .i64 0,.int .i64 0,.pointer none,.bool true,.bool true]:=
 D0 V _ fun V1 l1=>rfl
def fL (V:View)(v:Value)(s:Sd):Prop:=K6 V v s.1 s.2/\P1 s
theorem fL.le {V V':View}{v:Value}{s:Sd}(h:fL V v s)(l:V.Le V'):fL V' v s:=⟨h.1.le l,h.2⟩
theorem fL.shape {V:View}{v:Value}{s:Sd}(h:fL V v s):∃(x1:Int)(x2:Int)(p:OA)(y1:Int)(y2:Int)(q:OA)(z1:Int)(z2:Int)(r:OA)(u1:Int)(u2:Int)(t:OA)(w1:Int)(w2:Int)(o:OA),v=.agg #[.int .i64 x1,.int .i64 x2,.pointer p,.int .i64 y1,.int .i64 y2,.pointer q,.int .i64 z1,.int .i64 z2,.pointer r,.int .i64 u1,.int .i64 u2,.pointer t,.int .i64 w1,.int .i64 w2,.pointer o,.bool s.2.a,.bool s.2.b]:=by
 obtain ⟨x1,x2,p,y1,y2,q,z1,z2,r,u1,u2,t,w1,w2,o,e,-⟩:=h.1
 exact ⟨x1,x2,p,y1,y2,q,z1,z2,r,u1,u2,t,w1,w2,o,e⟩
theorem Ia {x1:Int}{x2:Int}{p:OA}{y1:Int}{y2:Int}{q:OA}{z1:Int}{z2:Int}{r:OA}{u1:Int}{u2:Int}{t:OA}{w1:Int}{w2:Int}{o:OA}{c d:Bool}:∀v∈([.int .i64 x1,.int .i64 x2,.pointer p,.int .i64 y1,.int .i64 y2,.pointer q,.int .i64 z1,.int .i64 z2,.pointer r,.int .i64 u1,.int .i64 u2,.pointer t,.int .i64 w1,.int .i64 w2,.pointer o,.bool c,.bool d]:List Value),v.oneCell'=true:=by
 intro v hm
 simp only [List.mem_cons,List.not_mem_nil,or_false] at hm
 rcases hm with rfl|rfl|rfl|rfl|rfl|rfl|rfl|rfl|rfl|rfl|rfl|rfl|rfl|rfl|rfl|rfl|rfl<;>rfl
theorem Kd {V:View}{s:Sd}:∀xs,fL V (.agg (List.toArray xs)) s->∀v∈xs,v.oneCell'=true:=by
 intro xs h
 obtain ⟨x1,x2,p,y1,y2,q,z1,z2,r,u1,u2,t,w1,w2,o,e⟩:=h.shape
 have e:=congrArg Array.toList (Value.agg.inj e)
 dsimp only at e
 subst e
 exact Ia
theorem ku {V:View}{c:OA}{n:Nat}{al:List Sd}(h:cP 17 fL V c n al){i:Nat}(hi:i<al.length) :
  c.isSome=true/\∃(x1:Int)(x2:Int)(p:OA)(y1:Int)(y2:Int)(q:OA)(z1:Int)(z2:Int)(r:OA)(u1:Int)(u2:Int)(t:OA)(w1:Int)(w2:Int)(o:OA)(a:Addr),ai c (i*17)=some a/\V.at (a.add 0) (.int .i64 x1)/\V.at (a.add 1) (.int .i64 x2)/\V.at (a.add 2) (.pointer p)/\V.at (a.add 3) (.int .i64 y1)/\V.at (a.add 4) (.int .i64 y2)/\V.at (a.add 5) (.pointer q)/\V.at (a.add 6) (.int .i64 z1)/\V.at (a.add 7) (.int .i64 z2)/\V.at (a.add 8) (.pointer r)/\V.at (a.add 9) (.int .i64 u1)/\V.at (a.add 10) (.int .i64 u2)/\V.at (a.add 11) (.pointer t)/\V.at (a.add 12) (.int .i64 w1)/\V.at (a.add 13) (.int .i64 w2)/\V.at (a.add 14) (.pointer o)/\V.at (a.add 15) (.bool al[i].2.a)/\V.at (a.add 16) (.bool al[i].2.b) /\
   fL V (.agg #[.int .i64 x1,.int .i64 x2,.pointer p,.int .i64 y1,.int .i64 y2,.pointer q,.int .i64 z1,.int .i64 z2,.pointer r,.int .i64 u1,.int .i64 u2,.pointer t,.int .i64 w1,.int .i64 w2,.pointer o,.bool al[i].2.a,.bool al[i].2.b]) al[i]:=by
 obtain ⟨ad,h0,xs,h1,h2,h3⟩:=h.at_ i hi
 have h20:=h2
 obtain ⟨x1,x2,p,y1,y2,q,z1,z2,r,u1,u2,t,w1,w2,o,e⟩:=h2.shape
 have e:=congrArg Array.toList (Value.agg.inj e)
 dsimp only at e
 subst e
 refine ⟨?_,x1,x2,p,y1,y2,q,z1,z2,r,u1,u2,t,w1,w2,o,ad,h0,h3 0 _ rfl,h3 1 _ rfl,h3 2 _ rfl,h3 3 _ rfl,h3 4 _ rfl,h3 5 _ rfl,h3 6 _ rfl,h3 7 _ rfl,h3 8 _ rfl,h3 9 _ rfl,h3 10 _ rfl,h3 11 _ rfl,h3 12 _ rfl,h3 13 _ rfl,h3 14 _ rfl,h3 15 _ rfl,h3 16 _ rfl,h20⟩
 cases c with
 | none=>cases h0
 | some a=>rfl
theorem EV {V:View}{vs:List Value}{al:List Sd}(h:Row 17 fL V vs al){i:Nat}(hi:i<al.length):∃(x1:Int)(x2:Int)(p:OA)(y1:Int)(y2:Int)(q:OA)(z1:Int)(z2:Int)(r:OA)(u1:Int)(u2:Int)(t:OA)(w1:Int)(w2:Int)(o:OA),i*17+17<=vs.length/\(vs.drop (i*17)).take 17=[.int .i64 x1,.int .i64 x2,.pointer p,.int .i64 y1,.int .i64 y2,.pointer q,.int .i64 z1,.int .i64 z2,.pointer r,.int .i64 u1,.int .i64 u2,.pointer t,.int .i64 w1,.int .i64 w2,.pointer o,.bool al[i].2.a,.bool al[i].2.b] /\
  fL V (.agg #[.int .i64 x1,.int .i64 x2,.pointer p,.int .i64 y1,.int .i64 y2,.pointer q,.int .i64 z1,.int .i64 z2,.pointer r,.int .i64 u1,.int .i64 u2,.pointer t,.int .i64 w1,.int .i64 w2,.pointer o,.bool al[i].2.a,.bool al[i].2.b]) al[i]:=by
 obtain ⟨xs,h1,h2,h3⟩:=h.at_ i hi
 have hl:=h.jq (by decide)
 have h20:=h2
 obtain ⟨x1,x2,p,y1,y2,q,z1,z2,r,u1,u2,t,w1,w2,o,e⟩:=h2.shape
 have e:=congrArg Array.toList (Value.agg.inj e)
 dsimp only at e
 subst e
 refine ⟨x1,x2,p,y1,y2,q,z1,z2,r,u1,u2,t,w1,w2,o,by omega,?_,h20⟩
 apply List.ext_getElem?
 intro j
 rw [List.getElem?_take]
 split
 ·rename_i hj
  rw [List.getElem?_drop]
  exact h3 j _ (List.getElem?_eq_getElem (by show j<17;omega))▸(List.getElem?_eq_getElem (by show j<17;omega)).symm
 ·rename_i hj
  rw [List.getElem?_eq_none (by show 17<=j;omega)]
theorem fL.both {V:View}{s:Sd}{x1:Int}{x2:Int}{p:OA}{y1:Int}{y2:Int}{q:OA}{z1:Int}{z2:Int}{r:OA}{u1:Int}{u2:Int}{t:OA}{w1:Int}{w2:Int}{o:OA}{c d:Bool}(h:fL V (.agg #[.int .i64 x1,.int .i64 x2,.pointer p,.int .i64 y1,.int .i64 y2,.pointer q,.int .i64 z1,.int .i64 z2,.pointer r,.int .i64 u1,.int .i64 u2,.pointer t,.int .i64 w1,.int .i64 w2,.pointer o,.bool c,.bool d]) s) :
  sW V (.agg #[.int .i64 x1,.int .i64 x2,.pointer p,.int .i64 y1,.int .i64 y2,.pointer q,.int .i64 z1,.int .i64 z2,.pointer r]) s.1/\El V (.agg #[.int .i64 u1,.int .i64 u2,.pointer t,.int .i64 w1,.int .i64 w2,.pointer o,.bool s.2.a,.bool s.2.b]) s.2/\c=s.2.a/\d=s.2.b:=by
 obtain ⟨YJ,YK,p',y1',y2',q',z1',z2',r',Yb,Yc,t',w1',w2',o',e,h1,h2⟩:=h.1
 have e:=congrArg Array.toList (Value.agg.inj e)
 simp only [List.cons.injEq,Value.bool.injEq,Value.int.injEq,Value.pointer.injEq,true_and,and_true] at e
 obtain ⟨rfl,rfl,rfl,rfl,rfl,rfl,rfl,rfl,rfl,rfl,rfl,rfl,rfl,rfl,rfl,rfl,rfl⟩:=e
 exact ⟨h1,h2,rfl,rfl⟩
theorem kz:∀{c d:List Sd} {l:L3} {v:Sp},bD (c++d) l v=(bD c l v).bind (bD d l)
 | [],_,_,_=>rfl
 | s::c,d,l,v=>by
  rw [List.cons_append]
  unfold bD
  split
  ·exact kz
  ·rfl
theorem qL {V:View}{cp:OA}{cn cc:Nat}{c:List Sd}{lv:Value}{l:L3}(h:cP 17 fL V cp cn c)(hl:sW V lv l)(hb:Bd l)(hn:c.length<=1000000) :
  ab prog 130 #[.slice cp cn cc,lv] V fun r V'=>∃w,r=.tuple #[w,.bool (bD c l aA).isSome]/\El V' w ((bD c l aA).getD Sp.zero)/\((bD c l aA).getD Sp.zero).sz 100000:=by
 have hl0:=hl
 obtain rfl:=h.len
 obtain ⟨_,_,_,_,_,_,_,_,_,rfl,-,-,-⟩:=hl
 have J3:∀{i:Nat} (hi:i<c.length) {s:Sp},bD (c.take i) l aA=some s->bD (c.take (i+1)) l aA=if cH l s c[i].1=true then some (cq l s c[i].1) else none:=fun {i} hi {s} e=>by
  rw [List.take_add_one,List.getElem?_eq_getElem hi,kz,e]
  show bD [c[i]] l s=_
  unfold bD
  rfl
 refine qA cp _ cc _ _ _ _ _ _ _ _ _ V _ fun V1 l1=>Na.mono ?_
 rintro r V2 l2 rfl
 have L2:=l1.trans l2
 refine ⟨_,_,_,_,_,_,_,_,rfl,fun z V'=>∃(i:Nat)(s:Sp),z.1=(i:Int)/\i<=c.length/\bD (c.take i) l aA=some s/\s.sz 100000/\z.2.2.2.2.2.2.2.1=s.a/\z.2.2.2.2.2.2.2.2=s.b/\El V' (.agg #[.int .i64 z.2.1,.int .i64 z.2.2.1,.pointer z.2.2.2.1,.int .i64 z.2.2.2.2.1,.int .i64 z.2.2.2.2.2.1,.pointer z.2.2.2.2.2.2.1,.bool s.a,.bool s.b]) s,
  fun z=>c.length-z.1.toNat,⟨(0,0,0,none,0,0,none,true,true),by and_intros<;>rfl,0,aA,rfl,Nat.zero_le _,rfl,Jz (by omega),rfl,rfl,⟨_,_,_,_,_,_,rfl,RR.zero _,RR.zero _⟩⟩,?_⟩
 rintro ⟨z1,x1,x2,p,y1,y2,q,ba,bb⟩ V3 l3 ⟨i,s,e1,hi,hp,hs,ea,eb,hv⟩
 dsimp only at e1 ea eb hv ⊢
 subst e1 ea eb
 have L3:=L2.trans l3
 refine ⟨rfl,fun hlt=>?_,fun hlt V7 l7=>?_⟩
 ·have hlt:(i:Int)<c.length:=of_decide_eq_true hlt
  have hi':i<c.length:=by omega
  have w:i64.wrap ((i:Int)+1)=((i+1:Nat):Int):=by rw [ay (by omega)];rfl
  rw [Int.toNat_natCast,w]
  obtain ⟨ps,a1,a2,a3,a4,a5,a6,a7,a8,a9,b1,b2,b3,b4,b5,b6,a,ha,h0,h1,h2,h3,h4,h5,h6,h7,h8,h9,h10,h11,h12,MB,Gr,MC,h16,hr⟩:=ku (h.le L3 fun _ _ g=>fL.le g L3) hi'
  obtain ⟨rl,ri,-,-⟩:=hr.both
  have pa:=J3 hi' hp
  have sd:=hr.2
  refine ⟨ps,⟨by omega,by omega⟩,_,_,_,_,_,_,_,_,_,_,_,_,_,_,_,_,_,a,ha,h0,h1,h2,h3,h4,h5,h6,h7,h8,h9,h10,h11,h12,MB,Gr,MC,h16,fun V4 l4=>(AP (hl0.le (L3.trans l4)) (hv.le l4) (rl.le l4) (k:=100000) (hb.rj.up (by omega)) hs (sd.1.rj.up (by omega)) (by omega)).mono ?_⟩
  rintro r V5 l5 ⟨w5,rfl,g⟩
  have g0:=g
  obtain ⟨_,_,_,_,_,_,rfl,-,-⟩:=g
  refine ⟨_,_,_,_,_,_,_,_,_,rfl,fun hf V6 l6=>?_,fun hf=>⟨(((i+1:Nat):Int),_,_,_,_,_,_,_,_),by dsimp only;omega,by and_intros<;>rfl,i+1,cq l s c[i].1,rfl,hi',?_,E6 hb.rj sd.1.rj hs (by omega),rfl,rfl,g0⟩⟩
  ·have hf:cH l s c[i].1=false:=by simpa using hf
   have e:bD c l aA=none:=by
    have:=kz (c:=c.take (i+1)) (d:=c.drop (i+1)) (l:=l) (v:=aA)
    rw [List.take_append_drop,pa,hf] at this
    exact this
   rw [e]
   exact ⟨_,rfl,⟨_,_,_,_,_,_,rfl,RR.zero _,RR.zero _⟩,KW _ (by omega),KW _ (by omega)⟩
  ·have hf:cH l s c[i].1=true:=by simpa using hf
   rw [pa,if_pos hf]
 ·have hlt:¬(i:Int)<c.length:=of_decide_eq_false hlt
  obtain rfl:i=c.length:=by omega
  rw [List.take_length] at hp
  rw [hp]
  exact ⟨_,rfl,hv.le l7,hs⟩
def FZ (c:List Sd)(l:L3):Int:=if (bD c l aA).isSome=true then 0 else cV c l
theorem ou {V:View}{cp:OA}{cn cc:Nat}{c:List Sd}{lv:Value}{l:L3}(h:cP 17 fL V cp cn c)(hl:sW V lv l)(hb:Bd l)(hn:c.length<=1000000) :
  ab prog 78 #[.slice cp cn cc,lv] V fun r V'=>r=.int .i64 (FZ c l):=by
 have hl0:=hl
 obtain rfl:=h.len
 obtain ⟨_,_,_,_,_,_,_,_,_,rfl,-,-,-⟩:=hl
 refine pA cp _ cc _ _ _ _ _ _ _ _ _ V _ fun V1 l1=>(qL (h.le l1 fun _ _ g=>fL.le g l1) (hl0.le l1) hb hn).mono ?_
 rintro r V2 l2 ⟨w,rfl,g,-⟩
 obtain ⟨_,_,_,_,_,_,rfl,-,-⟩:=g
 have L2:=l1.trans l2
 refine ⟨_,_,_,_,_,_,_,_,_,rfl,fun hp V3 l3=>by unfold FZ;rw [if_pos hp],fun hp=>?_⟩
 have hp:(bD c l aA).isSome=false:=hp
 have e0:FZ c l=cV c l:=by unfold FZ;rw [if_neg (by rw [hp];exact Bool.false_ne_true)]
 rw [e0]
 refine ⟨fun z V'=>∃i:Nat,z=(i:Int)/\i<=c.length/\cV c l=cV (c.drop i) l,fun z=>c.length-z.toNat,⟨0,by and_intros<;>rfl,0,rfl,Nat.zero_le _,rfl⟩,?_⟩
 rintro z V4 l4 ⟨i,rfl,hi,hpl⟩
 have L4:=L2.trans l4
 refine ⟨rfl,fun hlt=>?_,fun hlt n_ eZ=>?_⟩
 ·have hlt:(i:Int)<c.length:=of_decide_eq_true hlt
  have hi':i<c.length:=by omega
  have w:i64.wrap ((i:Int)+1)=((i+1:Nat):Int):=by rw [ay (by omega)];rfl
  rw [Int.toNat_natCast,w]
  obtain ⟨ps,a1,a2,a3,a4,a5,a6,a7,a8,a9,b1,b2,b3,b4,b5,b6,a,ha,h0,h1,h2,h3,h4,h5,h6,h7,h8,h9,h10,h11,h12,MB,Gr,MC,h16,hr⟩:=ku (h.le L4 fun _ _ g=>fL.le g L4) hi'
  obtain ⟨rl,ri,-,-⟩:=hr.both
  have sd:=hr.2
  have ed:c.drop i=c[i]::c.drop (i+1):=List.drop_eq_getElem_cons hi'
  rw [ed] at hpl
  have hpl:cV c l=if (au l (ef c[i].1 c[i].2.cA) (eg c[i].1 c[i].2.cA)).num.sign≠0 then (au l (ef c[i].1 c[i].2.cA) (eg c[i].1 c[i].2.cA)).num.sign else if c[i].1=l then 1 else cV (c.drop (i+1)) l:=hpl.trans (by rfl)
  generalize c[i]=S at *
  have Sr:=Kj sd.2
  refine ⟨ps,⟨by omega,by omega⟩,_,_,_,_,_,_,_,_,_,_,_,_,_,_,_,_,_,a,ha,h0,h1,h2,h3,h4,h5,h6,h7,h8,h9,h10,h11,h12,MB,Gr,MC,h16,fun V5 l5=>(AO (ri.le l5) sd.2 (by omega)).mono ?_⟩
  rintro r V6 l6 g
  have g0:=g
  obtain ⟨_,_,_,rfl⟩:=g.shape
  refine ⟨_,_,_,rfl,fun V7 l7=>(Ri (rl.le (l5.trans (l6.trans l7))) (g0.le l7) (k:=300000) (sd.1.rj.up (by omega)) (Sr.mono (by omega)) (by omega)).mono ?_⟩
  rintro r V8 l8 gp
  have Vq:=gp
  obtain ⟨_,_,_,_,_,_,rfl,-,-⟩:=gp
  have sx:=Mn (sd.1.rj.up (show 1000<=300000 by omega)) (Sr.mono (show 2*100000+10<=300000 by omega))
  have sy:=Mo (sd.1.rj.up (show 1000<=300000 by omega)) (Sr.mono (show 2*100000+10<=300000 by omega))
  refine ⟨_,_,_,_,_,_,rfl,fun V9 l9=>(LM (hl0.le (L4.trans (l5.trans (l6.trans (l7.trans (l8.trans l9)))))) (Vq.le l9) (hb.rj.up (by omega)) sx sy (by omega)).mono ?_⟩
  rintro r jm l10 rfl
  refine ⟨_,rfl,fun hs kR bW=>?_,fun hs nZ dh=>(JM (rl.le (l5.trans (l6.trans (l7.trans (l8.trans (l9.trans (l10.trans dh))))))) (hl0.le (L4.trans (l5.trans (l6.trans (l7.trans (l8.trans (l9.trans (l10.trans dh)))))))) (k:=1000) sd.1.rj hb.rj (by omega)).mono ?_⟩
  ·rw [hpl,if_pos (by simpa using hs)]
  ·rintro r sY dL rfl
   rw [if_neg (by simpa using hs)] at hpl
   refine ⟨_,rfl,fun he pF fk=>?_,fun he=>⟨((i+1:Nat):Int),by dsimp only;omega,by and_intros<;>rfl,i+1,rfl,hi',?_⟩⟩
   ·rw [hpl,if_pos (of_decide_eq_true he)]
   ·rw [hpl,if_neg (of_decide_eq_false he)]
 ·have hlt:¬(i:Int)<c.length:=of_decide_eq_false hlt
  obtain rfl:i=c.length:=by omega
  rw [hpl,List.drop_length]
  rfl
end Go.Proofs.Tryz
namespace Go.bF
open Go.Lib
variable {P:Program}
theorem jj (w:World)(dT sT ty elem:TypeId)(sz b o dLen dCap:Nat)(a:Addr)(sLen sCap:Nat)(cs:List Value)
  (hu:P.underlying dT=some (.slice elem))(hs:(P.info? elem).map (·.size)=some sz)(hn:cs.length=Nat.min sLen dLen*sz)
  (hsrc:∀j v,cs[j]?=some v->w.cell? (a.add j)=some v)(hc:∀j,j<cs.length->(w.cell? ⟨b,o+j,none⟩).isSome=true)(hf:∀j,j<cs.length->w.frozen? ⟨b,o+j,none⟩=false)(h1:∀v∈cs,v.oneCell'=true) :
  (Builtin.copy_ #[dT,sT] ty #[.slice (some ⟨b,o,none⟩) dLen dCap,.slice (some a) sLen sCap]).run P w=.ok (goInt (Nat.min sLen dLen)) (w.setCells b o cs):=by
 have hl:=run_loadCells_list (P:=P) w a cs hsrc
 have hst:=run_storeCells_cells (P:=P) b o cs 0 w (by simpa using hc) (by simpa using hf) h1
 cases hq:P.info? elem with
 | none=>simp [hq] at hs
 | some i=>
  have hi:i.size=sz:=by simpa [hq] using hs
  simp [Builtin.copy_,run_underlying hu,Builtin.lenOf,Builtin.firstCells,sizeOf,typeInfo,hq,hi,←hn,hl,hst]
theorem As (w:World){o:Oper}{a:Act}{K:Act->World->Prop}{Q:Exit->Act->World->Prop}(d s:Operand)(t t':TypeId)
  (ho:o.op=.call { callee:=.builtin .copy,args:=#[d,s],argTypes:=#[t,t'] })(v u:Value)(hd:a.eval d=v)(hs:a.eval s=u){v':Value}{w':World}
  (hr:(Builtin.copy_ #[t,t'] o.type #[v,u]).run P w=.ok v' w')(h:K (a.put o.dst v') w'):o.wp P a w K Q:=by
 unfold Oper.wp execOp
 simp only [ho,resolve,invoke,builtin,Sem.run_bind,Sem.run_pure,Result.andThen_ok,List.map_toArray,List.map_cons,List.map_nil,hd,hs,hr]
 exact h
theorem j7 (w:World){ops:Array Oper}{rest:List Oper}{o:Oper}{a:Act}{Q:Exit->Act->World->Prop}(hgd:o.guard=none)(d s:Operand)(t t':TypeId)
  (ho:o.op=.call { callee:=.builtin .copy,args:=#[d,s],argTypes:=#[t,t'] })(v u:Value)(hd:a.eval d=v)(hs:a.eval s=u){v':Value}{w':World}
  (hr:(Builtin.copy_ #[t,t'] o.type #[v,u]).run P w=.ok v' w')(h:wpList P ops Q rest (a.put o.dst v') w'):wpList P ops Q (o::rest) a w:=
 wpList_plain hgd fun _ hK=>As w d s t t' ho v u hd hs hr (hK _ _ h)
theorem lN {ops:Array Oper}{o:Oper}{a:Act}{w:World}{K:Act->World->Prop}{Q:Exit->Act->World->Prop}{E:Prop}
  (hg:o.guard=none)(d x:Operand)(dT sT:TypeId)(hop:o.op=Op.call { callee:=Callee.builtin Builtin.copy,args:=#[d,x],argTypes:=#[dT,sT] })
  (v u:Value)(hd:a.eval d=v)(hx:a.eval x=u){v':Value}{w':World}(hr:(Builtin.copy_ #[dT,sT] o.type #[v,u]).run P w=.ok v' w')(hK:K (a.put o.dst v') w') :
  if Region.wanted o (yielded ops a.tmps)=true then Oper.wp P o a w K Q else E:=by
 have hw:Region.wanted o (yielded ops a.tmps)=true:=by simp [Region.wanted,hg]
 rw [if_pos hw]
 unfold Oper.wp
 simp [execOp,hop,resolve,invoke,builtin,hd,hx,hr,Result.andThen]
 exact hK
theorem eT {w:World}{b o:Nat}{vs:List Value}{ty:TypeId}(h:w.heap[b]?=some (.cells vs.toArray ty (0,0))):w.frozen? ⟨b,o,none⟩=false:=by simp [World.frozen?,h]
theorem yp {w:World}{b:Nat}{vs:List Value}{ty:TypeId}(h:w.heap[b]?=some (.cells vs.toArray ty (0,0))):w.shape? b=some (ty,vs.length):=by simp [World.shape?,h]
theorem bO {w:World}{b o:Nat}{vs:List Value}{ty:TypeId}(h:w.heap[b]?=some (.cells vs.toArray ty (0,0))):w.cell? ⟨b,o,none⟩=vs[o]?:=cell_of_row h
theorem tY (X:Nat->Prop)(w:World):eA X w w.drew:=⟨Nat.le_refl _,fun _ _ _=>rfl,rfl,rfl,rfl⟩
theorem pZ (X:Nat->Prop)(w:World)(o:Obj):eA X w (w.alloc o):=⟨by rw [show (w.alloc o).heap.size=w.heap.size+1 from Array.size_push ..];omega,fun b hb _=>bR w o hb,rfl,rfl,rfl⟩
theorem Db {w:World}{g:Nat}{old cs:Array Value}{ty:TypeId}(h:w.heap[g]?=some (.cells old ty (0,0))):eA (·=g) w (w.setRow g cs):=by
 refine ⟨?_,fun b hb hn=>?_,?_,?_,?_⟩
 ·rw [dQ h,Array.size_setIfInBounds];exact Nat.le_refl _
 ·rw [dQ h,Array.getElem?_setIfInBounds_ne (fun e=>hn e.symm)]
 all_goals simp [World.setRow,h]
theorem cJ {b:Nat}{ty:TypeId}:∀(xs:List Value)(o:Nat)(vs:List Value)(w:World),w.heap[b]?=some (.cells vs.toArray ty (0,0))->o+xs.length<=vs.length ->
  (w.setCells b o xs).heap[b]?=some (.cells (vs.take o++xs++vs.drop (o+xs.length)).toArray ty (0,0))/\eA (·=b) w (w.setCells b o xs)
 | [],o,vs,w,h,hl=>⟨by rw [World.setCells,List.append_nil,List.length_nil,Nat.add_zero,List.take_append_drop];exact h,eA.refl _ _⟩
 | x::xs,o,vs,w,h,hl=>by
  rw [List.length_cons] at hl
  have e1:w.setCell ⟨b,o,none⟩ x=w.setRow b (vs.toArray.setIfInBounds o x):=setCell_eq_setRow w b o vs.toArray ty (0,0) x h
  have e2:vs.toArray.setIfInBounds o x=(vs.set o x).toArray:=by simp
  rw [World.setCells,e1,e2]
  have h2:(w.setRow b (vs.set o x).toArray).heap[b]?=some (.cells (vs.set o x).toArray ty (0,0)):=setRow_heap w b vs.toArray _ ty (0,0) h
  obtain ⟨g1,g2⟩:=cJ xs (o+1) (vs.set o x) _ h2 (by rw [List.length_set];omega)
  refine ⟨?_,(Db h).trans g2⟩
  rw [g1]
  congr 3
  rw [List.take_set,List.take_add_one,List.getElem?_eq_getElem (by omega),List.drop_set_of_lt (by omega),List.length_cons,show o+1+xs.length=o+(xs.length+1) by omega]
  rw [List.set_append_right _ _ (by rw [List.length_take];omega),List.length_take,Nat.min_eq_left (by omega),Nat.sub_self]
  simp
end Go.bF
namespace Go.Proofs.Tryz
open Go.bF Go.RowKit Go.Lib
theorem oO:∃i z,prog.info? 211=some i/\i.zero=some z/\i.size=17/\i.bytes=128/\z.cells.size=17:=by
 have h:=kJ 211 _ rfl
 unfold jR at h
 split at h
 ·rename_i i d e1 e2
  split at h
  ·rename_i z ez
   have h:=Option.some.inj h
   injection h with h1 h2 h3 h4
   refine ⟨i,z,e1,ez,h2,h3,?_⟩
   have:=congrArg List.length h4
   rw [List.length_map,Array.length_toList] at this
   rw [this]
   rfl
  ·cases h
 ·cases h
theorem dH (b o j:Nat):(⟨b,o,none⟩:Addr).add j=⟨b,o+j,none⟩:=by
 unfold Addr.add
 split
 ·rename_i h;subst h;rfl
 ·rfl
theorem KV (w:World){t:TypeId}{i:TypeInfo}(h:prog.info? t=some i):(Go.sizeOf t).run prog w=.ok i.size w:=by
 simp [sizeOf,typeInfo,h]
set_option maxHeartbeats 4000000 in
set_option maxRecDepth 100000 in
theorem FO (b n c i vb:Nat)(cs vs:List Value)(w:World)(hi:i<n)(hroom:n+1<=c)(hn63:n<=1000000)(hvb:vb≠b)(hcl:c*17<=cs.length)(hvl:vs.length=17)
  (hb:w.heap[b]?=some (.cells cs.toArray 211 (0,0)))(hv:w.heap[vb]?=some (.cells vs.toArray 211 (0,0)))
  (h1c:∀v∈(cs.take (n*17)).drop (i*17),v.oneCell'=true)(h1v:∀v∈vs,v.oneCell'=true) :
  Calls prog 164 #[.slice (some ⟨b,0,none⟩) n c,.int .i64 i,.slice (some ⟨vb,0,none⟩) 1 1] w fun e w'=>
   e=.returned (.slice (some ⟨b,0,none⟩) (n+1) c)/\w'=(w.drew.setCells b ((i+1)*17) ((cs.take (n*17)).drop (i*17))).setCells b (i*17) vs:=by
 obtain ⟨ti,z,e1,e2,e3,e4,e5⟩:=oO
 have hz2:¬((i:Int)=(n:Int)):=by omega
 have hsz:(prog.info? 211).map (·.size)=some 17:=by rw [e1];simp [e3]
 have uT:=underlying119
 have uV:=underlying118
 have rz:∀w,(Go.sizeOf 211).run prog w=.ok 17 w:=fun w=>by rw [KV w e1,e3]
 have ru:=run_underlying uT
 have rv:=run_underlying uV
 have hov:∀lb cb,(callFunc 197 #[.slice (some ⟨vb,0,none⟩) 1 1,.slice (some ⟨b,(i+1)*17,none⟩) lb cb]).run prog w=.ok (.value (.bool false)) w:=fun lb cb=>by
  rw [run_callFunc_extern func197 (by kernel_rfl) (by kernel_rfl) (by kernel_rfl) (e:=Extern.SlicesOverlaps.overlaps #[118,118] #[4]) (by kernel_rfl),
   Lib.run_overlaps_apart w 118 4 211 uV 17 rz ⟨vb,0,none⟩ ⟨b,(i+1)*17,none⟩ 1 1 lb cb hvb _ _ _ _ (yp hv) (yp hb) (by omega) (eT hv) (eT hv)]
  rfl
 obtain ⟨mid,hmid⟩:∃mid,mid=(cs.take (n*17)).drop (i*17):=⟨_,rfl⟩
 rw [←hmid] at h1c ⊢
 have hml:mid.length=(n-i)*17:=by rw [hmid,List.length_drop,List.length_take];omega
 have hcell:∀(W:World)(o:Nat),W.heap[b]?=some (.cells cs.toArray 211 (0,0))->o<cs.length->(W.cell? ⟨b,o,none⟩).isSome=true:=fun W o hW ho=>by rw [bO hW,List.getElem?_eq_getElem ho];rfl
 have hbd:(w.drew).heap[b]?=some (.cells cs.toArray 211 (0,0)):=hb
 have hmn:∀x:Nat,Nat.min (n+1-i) (n+1-(i+1))=n-i:=fun _=>by simp only [Nat.min_def];split<;>omega
 have hcp1:∀ty dc sc,(Builtin.copy_ #[119,119] ty #[.slice (some ⟨b,(i+1)*17,none⟩) (n+1-(i+1)) dc,.slice (some ⟨b,i*17,none⟩) (n+1-i) sc]).run prog w.drew=  .ok (goInt ((n-i:Nat):Int)) (w.drew.setCells b ((i+1)*17) mid):=fun ty dc sc=>by
  have:=jj (P:=prog) w.drew 119 119 ty 211 17 b ((i+1)*17) (n+1-(i+1)) dc ⟨b,i*17,none⟩ (n+1-i) sc mid uT hsz (by rw [hmn 0,hml])
   (fun j v hj=>by
    rw [dH b,bO hbd]
    rw [hmid,List.getElem?_drop,List.getElem?_take] at hj
    split at hj
    ·exact hj
    ·cases hj)
   (fun j hj=>hcell _ _ hbd (by rw [hml] at hj;omega)) (fun j hj=>eT hbd) h1c
  rw [hmn 0] at this
  exact this
 obtain ⟨g1,g2⟩:=cJ mid ((i+1)*17) cs w.drew hbd (by rw [hml];omega)
 obtain ⟨W1,hW1⟩:∃W1,W1=w.drew.setCells b ((i+1)*17) mid:=⟨_,rfl⟩
 rw [←hW1] at hcp1 g1 g2 ⊢
 have Nw:Nat.min 1 (n+1-i)=1:=by simp only [Nat.min_def];split<;>omega
 have hvw:vb<w.heap.size:=(Array.getElem?_eq_some_iff.1 hv).1
 have hv1:W1.heap[vb]?=some (.cells vs.toArray 211 (0,0)):=by rw [g2.bC vb hvw hvb];exact hv
 have hcp2:∀ty dc,(Builtin.copy_ #[119,118] ty #[.slice (some ⟨b,i*17,none⟩) (n+1-i) dc,.slice (some ⟨vb,0,none⟩) 1 1]).run prog W1=.ok (goInt 1) (W1.setCells b (i*17) vs):=fun ty dc=>by
  have:=jj (P:=prog) W1 119 118 ty 211 17 b (i*17) (n+1-i) dc ⟨vb,0,none⟩ 1 1 vs uT hsz (by rw [Nw,hvl])
   (fun j v hj=>by rw [dH vb,Nat.zero_add,bO hv1];exact hj)
   (fun j hj=>by rw [bO g1,List.getElem?_eq_getElem (by rw [hvl] at hj;simp only [List.length_append,List.length_take,List.length_drop,hml];omega)];rfl) (fun j hj=>eT g1) h1v
  rw [Nw] at this
  exact this
 clear g1 g2 hmid h1c hW1
 have mixed:=mixed
 have hw1:i64.wrap ((i:Int)+1)=(i:Int)+1:=by rw [IntKind.wrap_i64];omega
 have hb1:(0:Int)<=(i:Int)+1:=by omega
 have hin:i<=n:=by omega
 have htn:((i:Int)+1).toNat=i+1:=by omega
 have hb2:¬(c=i+1):=by omega
 have hb3:(i:Int)<=(n:Int)+1:=by omega
 have hb4:¬(c=i):=by omega
 go_enter func164,ntmps164
 go_wp2_with (simp only [hov])
 go_region_law_o (refine lN rfl _ _ 119 119 rfl (.slice (some ⟨b,(i+1)*17,none⟩) (n+1-(i+1)) (c-(i+1))) (.slice (some ⟨b,i*17,none⟩) (n+1-i) (c-i)) (by simp [Act.eval,Act.put]) (by simp [Act.eval,Act.put]) (hcp1 3 _ _) ?_)
 go_wp2_with (at_builtin;refine j7 _ rfl _ _ 119 118 rfl _ _ rfl rfl (hcp2 _ _) ?_)
 go_ret
 exact ⟨rfl,rfl⟩
set_option maxHeartbeats 4000000 in
set_option maxRecDepth 100000 in
theorem JK (b n c vb:Nat)(cs vs:List Value)(w:World)(hroom:n+1<=c)(hn63:n<=1000000)(hcl:c*17<=cs.length)(hvl:vs.length=17)
  (hb:w.heap[b]?=some (.cells cs.toArray 211 (0,0)))(hv:w.heap[vb]?=some (.cells vs.toArray 211 (0,0)))(h1v:∀v∈vs,v.oneCell'=true) :
  Calls prog 164 #[.slice (some ⟨b,0,none⟩) n c,.int .i64 n,.slice (some ⟨vb,0,none⟩) 1 1] w fun e w'=>
   e=.returned (.slice (some ⟨b,0,none⟩) (n+1) c)/\w'=w.setCells b (0+n*17) vs:=by
 obtain ⟨ti,z,e1,e2,e3,e4,e5⟩:=oO
 have uT:=underlying119
 have uV:=underlying118
 have ru:=run_underlying uT
 have rv:=run_underlying uV
 have mixed:=mixed
 have hsrc:Src prog ti.size 118 (.slice (some ⟨vb,0,none⟩) 1 1) 1 vs w:=Src.ofSlice w uV ⟨vb,0,none⟩ 1 1 vs (by rw [e3,hvl]) (fun j u hj=>by rw [dH vb,Nat.zero_add,bO hv];exact hj) h1v
 have hc:∀j,j<vs.length->(w.cell? ⟨b,0+n*ti.size+j,none⟩).isSome=true:=fun j hj=>by rw [bO hb,e3,List.getElem?_eq_getElem (by rw [hvl] at hj;omega)];rfl
 have hf:∀j,j<vs.length->w.frozen? ⟨b,0+n*ti.size+j,none⟩=false:=fun j hj=>eT hb
 go_enter func164,ntmps164
 go_wp2_with (at_builtin;refine wpList_append_room_src _ rfl _ _ 119 118 rfl 211 ti uT e1 b 0 n c rfl _ rfl 1 vs hsrc hroom hc hf ?_)
 go_ret
 exact ⟨rfl,by rw [Nat.zero_add]⟩
set_option maxHeartbeats 4000000 in
set_option maxRecDepth 100000 in
theorem zz (b n c vb:Nat)(cs vs:List Value)(w:World)(hnc:n<=c)(hroom:c<n+1)(hn63:n<=1000000)(hcl:c*17<=cs.length)(hvl:vs.length=17)
  (hb:w.heap[b]?=some (.cells cs.toArray 211 (0,0)))(hv:w.heap[vb]?=some (.cells vs.toArray 211 (0,0)))(h1v:∀v∈vs,v.oneCell'=true) :
  ∃z:Array Value,z.size=17/\Calls prog 164 #[.slice (some ⟨b,0,none⟩) n c,.int .i64 n,.slice (some ⟨vb,0,none⟩) 1 1] w fun e w'=>
   e=.returned (.slice (some ⟨w.heap.size,0,none⟩) (n+1) (grownCap w (n+1) c 211)) /\
   w'=w.drew.alloc (.cells ((cs.take (n*17)++vs).toArray++Builtin.zeroCells z (grownCap w (n+1) c 211-(n+1))) 211):=by
 obtain ⟨ti,z,e1,e2,e3,e4,e5⟩:=oO
 refine ⟨z.cells,e5,?_⟩
 have uT:=underlying119
 have uV:=underlying118
 have ru:=run_underlying uT
 have rv:=run_underlying uV
 have mixed:=mixed
 have hsrc:Src prog ti.size 118 (.slice (some ⟨vb,0,none⟩) 1 1) 1 vs w:=Src.ofSlice w uV ⟨vb,0,none⟩ 1 1 vs (by rw [e3,hvl]) (fun j u hj=>by rw [dH vb,Nat.zero_add,bO hv];exact hj) h1v
 have hbd:(w.drew).heap[b]?=some (.cells cs.toArray 211 (0,0)):=hb
 have hold:(Builtin.firstCells ti.size n (.slice (some ⟨b,0,none⟩) n c)).run prog w.drew=.ok (cs.take (n*17)).toArray w.drew:=by
  rw [e3]
  exact run_firstCells_some w.drew 17 n ⟨b,0,none⟩ n c (cs.take (n*17)) (by rw [List.length_take];omega) (fun j v hj=>by
   rw [dH b,Nat.zero_add,bO hbd]
   rw [List.getElem?_take] at hj
   split at hj
   ·exact hj
   ·cases hj)
 have hrun:∀ty,(Builtin.append_ #[119,118] ty #[.slice (some ⟨b,0,none⟩) n c,.slice (some ⟨vb,0,none⟩) 1 1]).run prog w=_:=fun ty=>
  run_append_grow_src w 119 118 ty 211 ti z uT e1 e2 (some ⟨b,0,none⟩) n c (cs.take (n*17)) hold _ 1 vs hsrc hroom (by omega) (by rw [e4];exact growslice_fits hroom (by omega))
 obtain ⟨zc,hzc⟩:∃zc,zc=z.cells:=⟨_,rfl⟩
 rw [←hzc] at hrun ⊢
 obtain ⟨ROW,hROW⟩:∃ROW:Array Value,ROW=(cs.take (n*17)++vs).toArray++Builtin.zeroCells zc (grownCap w (n+1) c 211-(n+1)):=⟨_,rfl⟩
 rw [←hROW] at hrun ⊢
 clear hzc e5 hold hROW
 go_enter func164,ntmps164
 go_wp2_with (at_builtin;refine Lib.wpList_append_run _ rfl _ _ _ _ rfl _ _ rfl rfl _ _ (hrun _) ?_)
 all_goals (go_ret;exact ⟨rfl,rfl⟩)
set_option maxHeartbeats 4000000 in
set_option maxRecDepth 100000 in
theorem Hv (b n c i vb:Nat)(cs vs:List Value)(w:World)(hi:i<n)(hnc:n<=c)(hroom:c<n+1)(hn63:n<=1000000)(hvb:vb≠b)(hcl:c*17<=cs.length)(hvl:vs.length=17)
  (hb:w.heap[b]?=some (.cells cs.toArray 211 (0,0)))(hv:w.heap[vb]?=some (.cells vs.toArray 211 (0,0)))
  (h1c:∀v∈(cs.take (n*17)).drop (i*17),v.oneCell'=true)(h1v:∀v∈vs,v.oneCell'=true) :
  ∃z:Array Value,z.size=17/\Calls prog 164 #[.slice (some ⟨b,0,none⟩) n c,.int .i64 i,.slice (some ⟨vb,0,none⟩) 1 1] w fun e w'=>
   e=.returned (.slice (some ⟨w.heap.size,0,none⟩) (n+1) (grownCap w (n+1) c 211)) /\
   w'=(((w.alloc (.cells ((cs.take (i*17)).toArray++Builtin.zeroCells z (n+1-i)++Builtin.zeroCells z (grownCap w (n+1) c 211-(n+1))) 211)).drew.setCells w.heap.size (i*17) vs).drew).setCells w.heap.size ((i+1)*17) ((cs.take (n*17)).drop (i*17)):=by
 obtain ⟨ti,z,e1,e2,e3,e4,e5⟩:=oO
 refine ⟨z.cells,e5,?_⟩
 have uT:=underlying119
 have uV:=underlying118
 have uI:=underlying3
 have ru:=run_underlying uT
 have rv:=run_underlying uV
 have rz:∀w,(Go.sizeOf 211).run prog w=.ok 17 w:=fun w=>by rw [KV w e1,e3]
 have mixed:=mixed
 have hz2:¬((i:Int)=(n:Int)):=by omega
 have hz3:(c:Int)<(n:Int)+1:=by omega
 have hsz:(prog.info? 211).map (·.size)=some 17:=by rw [e1];simp [e3]
 have hbw:b<w.heap.size:=(Array.getElem?_eq_some_iff.1 hb).1
 have hvw:vb<w.heap.size:=(Array.getElem?_eq_some_iff.1 hv).1
 have hkk:(n:Int)+1-(i:Int)=((n+1-i:Nat):Int):=by omega
 have hik:i+(n+1-i)=n+1:=by omega
 have hbd:(w.drew).heap[b]?=some (.cells cs.toArray 211 (0,0)):=hb
 have hold:(Builtin.firstCells ti.size i (.slice (some ⟨b,0,none⟩) i c)).run prog w.drew=.ok (cs.take (i*17)).toArray w.drew:=by
  rw [e3]
  exact run_firstCells_some w.drew 17 i ⟨b,0,none⟩ i c (cs.take (i*17)) (by rw [List.length_take];omega) (fun j v hj=>by
   rw [dH b,Nat.zero_add,bO hbd]
   rw [List.getElem?_take] at hj
   split at hj
   ·exact hj
   ·cases hj)
 obtain ⟨zc,hzc⟩:∃zc,zc=z.cells:=⟨_,rfl⟩
 rw [←hzc] at e5 ⊢
 have hrz:∀ty,(Builtin.append_ #[119,3] ty #[.slice (some ⟨b,0,none⟩) i c,.int .i64 ((n:Int)+1-(i:Int))]).run prog w =
   .ok (.slice (some ⟨w.heap.size,0,none⟩) (n+1) (grownCap w (n+1) c 211)) (w.drew.alloc (.cells ((cs.take (i*17)).toArray++Builtin.zeroCells zc (n+1-i)++Builtin.zeroCells zc (grownCap w (n+1) c 211-(n+1))) 211)):=fun ty=>by
  have h:=Lib.run_append_grow_zeros w 119 3 ty 211 ti z .i64 .i64 uT uI e1 e2 (some ⟨b,0,none⟩) i c (cs.take (i*17)) hold (n+1-i) (by omega) (by omega) (by omega) (by omega) (by rw [e4];omega) (by rw [e4,hik];exact growslice_fits hroom (by omega))
  rw [hik,←hzc] at h
  rw [hkk]
  exact h
 obtain ⟨G,hG⟩:∃G,G=grownCap w (n+1) c 211:=⟨_,rfl⟩
 obtain ⟨ROW,hROW⟩:∃ROW:List Value,ROW.toArray=(cs.take (i*17)).toArray++Builtin.zeroCells zc (n+1-i)++Builtin.zeroCells zc (G-(n+1)):=⟨((cs.take (i*17)).toArray++Builtin.zeroCells zc (n+1-i)++Builtin.zeroCells zc (G-(n+1))).toList,by simp⟩
 rw [←hG] at hrz ⊢
 rw [←hROW] at hrz ⊢
 have hRl:(n+1)*17<=ROW.length:=by
  have:=congrArg Array.size hROW
  simp [Builtin.zeroCells,e5] at this
  omega
 obtain ⟨mid,hmid⟩:∃mid,mid=(cs.take (n*17)).drop (i*17):=⟨_,rfl⟩
 rw [←hmid] at h1c ⊢
 have hml:mid.length=(n-i)*17:=by rw [hmid,List.length_drop,List.length_take];omega
 obtain ⟨W1,hW1⟩:∃W1,W1=w.drew.alloc (.cells ROW.toArray 211):=⟨_,rfl⟩
 rw [←hW1] at hrz
 have hN:W1.heap[w.heap.size]?=some (.cells ROW.toArray 211 (0,0)):=by rw [hW1];exact Array.getElem?_push_size
 have hB:W1.heap[b]?=some (.cells cs.toArray 211 (0,0)):=by rw [hW1];exact (bR w.drew _ hbw).trans hb
 have hV:W1.heap[vb]?=some (.cells vs.toArray 211 (0,0)):=by rw [hW1];exact (bR w.drew _ hvw).trans hv
 have Lx:Nat.min 1 (n+1-i)=1:=by simp only [Nat.min_def];split<;>omega
 have hcpA:∀(W:World),W.heap=W1.heap->∀ty dc,(Builtin.copy_ #[119,118] ty #[.slice (some ⟨w.heap.size,i*17,none⟩) (n+1-i) dc,.slice (some ⟨vb,0,none⟩) 1 1]).run prog W=.ok (goInt 1) (W.setCells w.heap.size (i*17) vs):=fun W hW ty dc=>by
  have:=jj (P:=prog) W 119 118 ty 211 17 w.heap.size (i*17) (n+1-i) dc ⟨vb,0,none⟩ 1 1 vs uT hsz (by rw [Lx,hvl])
   (fun j v hj=>by rw [dH vb,Nat.zero_add,bO (by rw [hW];exact hV)];exact hj)
   (fun j hj=>by rw [bO (by rw [hW];exact hN),List.getElem?_eq_getElem (by omega)];rfl) (fun j hj=>eT (by rw [hW];exact hN)) h1v
  rw [Lx] at this
  exact this
 have hbN:b≠w.heap.size:=by omega
 have Ly:Nat.min (n-i) (n+1-(i+1))=n-i:=by simp only [Nat.min_def];split<;>omega
 have hcpB:∀(W:World),W.heap=W1.heap->∀ty dc sc,(Builtin.copy_ #[119,119] ty #[.slice (some ⟨w.heap.size,(i+1)*17,none⟩) (n+1-(i+1)) dc,.slice (some ⟨b,i*17,none⟩) (n-i) sc]).run prog (W.setCells w.heap.size (i*17) vs).drew=.ok (goInt ((n-i:Nat):Int)) ((W.setCells w.heap.size (i*17) vs).drew.setCells w.heap.size ((i+1)*17) mid):=fun W hW ty dc sc=>by
  obtain ⟨g1,g2⟩:=cJ vs (i*17) ROW W (by rw [hW];exact hN) (by omega)
  have hb2:(W.setCells w.heap.size (i*17) vs).drew.heap[b]?=some (.cells cs.toArray 211 (0,0)):=by
   have:=g2.bC b (by rw [hW];exact (Array.getElem?_eq_some_iff.1 hB).1) hbN
   rw [hW,hB] at this
   exact this
  have hn2:(W.setCells w.heap.size (i*17) vs).drew.heap[w.heap.size]?=_:=g1
  have:=jj (P:=prog) (W.setCells w.heap.size (i*17) vs).drew 119 119 ty 211 17 w.heap.size ((i+1)*17) (n+1-(i+1)) dc ⟨b,i*17,none⟩ (n-i) sc mid uT hsz (by rw [Ly,hml])
   (fun j v hj=>by
    rw [dH b,bO hb2]
    rw [hmid,List.getElem?_drop,List.getElem?_take] at hj
    split at hj
    ·exact hj
    ·cases hj)
   (fun j hj=>by rw [bO hn2,List.getElem?_eq_getElem (by rw [hml] at hj;simp only [List.length_append,List.length_take,List.length_drop,hvl];omega)];rfl) (fun j hj=>eT hn2) h1c
  rw [Ly] at this
  exact this
 have hGn:n+1<=G:=by rw [hG];exact grownCap_ge w _ _ _
 have hG63:G<=9223372036854775807:=by
  have:=grownCap_le_maxLen w (n+1) c 211 (by unfold maxLen;omega)
  rw [←hG] at this
  unfold maxLen at this
  omega
 have hGi:¬(G=i):=by omega
 have hGim:¬(G=i+1):=by omega
 have hci:¬(c=i):=by omega
 have hA:=hcpA ((w.alloc (.cells ROW.toArray 211)).drew) (by rw [hW1];rfl)
 have hA':=hcpA W1 rfl
 have hB':=hcpB ((w.alloc (.cells ROW.toArray 211)).drew) (by rw [hW1];rfl)
 subst hW1
 have hw1:i64.wrap ((i:Int)+1)=(i:Int)+1:=by rw [IntKind.wrap_i64];omega
 have hw2:i64.wrap ((n:Int)+1)=(n:Int)+1:=by rw [IntKind.wrap_i64];omega
 have hb1:(0:Int)<=(i:Int)+1:=by omega
 have hin:i<=n:=by omega
 have htn:((i:Int)+1).toNat=i+1:=by omega
 have hb3:(i:Int)<=(n:Int):=by omega
 clear hkk hik hold hROW hG hRl hcpA hcpB hN hB hV hzc e5 hmid h1c Lx Ly hml
 go_enter func164,ntmps164
 go_wp2_with (first
  | (at_builtin;refine Lib.wpList_append_run _ rfl _ _ _ _ rfl _ _ rfl rfl _ _ (hrz _) ?_)
  | (at_builtin;refine j7 _ rfl _ _ 119 118 rfl _ _ rfl rfl (hA _ _) ?_))
 go_region_law_o (refine lN rfl _ _ 119 119 rfl (.slice (some ⟨w.heap.size,(i+1)*17,none⟩) (n+1-(i+1)) (G-(i+1))) (.slice (some ⟨b,i*17,none⟩) (n-i) (c-i)) (by simp [Act.eval,Act.put]) (by simp [Act.eval,Act.put]) (hB' 3 (G-(i+1)) (c-i)) ?_)
 go_wp2
 go_ret
 exact ⟨rfl,rfl⟩
end Go.Proofs.Tryz
namespace Go.Proofs.Tryz
open Go.bF
theorem Mq {α:Type}{A B:List α}{k:Nat}(h:k<=A.length):(A.take k++B).drop k=B:=by
 rw [List.drop_append_of_le_length (by rw [List.length_take];omega),List.drop_eq_nil_of_le (by rw [List.length_take];omega),List.nil_append]
theorem OT {α:Type}{A B:List α}{j k:Nat}(hj:j<=k)(h:k<=A.length):(A.take k++B).take j=A.take j:=by
 rw [List.take_append_of_le_length (by rw [List.length_take];omega),List.take_take,Nat.min_eq_left hj]
theorem GZ {V:View}{ob vb n c i:Nat}{vs xs:List Value}(hs:V.w.heap[ob]?=some (.cells vs.toArray 211 (0,0)))(hx:V.X ob)(hv:V.w.heap[vb]?=some (.cells xs.toArray 211 (0,0)))
  (hne:ob≠vb)(hi:i<=n)(hnc:n<=c)(hc:n<=1000000)(hcl:c*17<=vs.length)(hl:xs.length=17)(h1c:∀v∈(vs.take (n*17)).drop (i*17),v.oneCell'=true)(h1v:∀v∈xs,v.oneCell'=true) :
  ab prog 164 #[.slice (some ⟨ob,0,none⟩) n c,.int .i64 i,.slice (some ⟨vb,0,none⟩) 1 1] V fun r V'=>∃(q c':Nat)(sp:List Value),r=.slice (some ⟨q,0,none⟩) (n+1) c' /\
   V'.w.heap[q]?=some (.cells (vs.take (i*17)++(xs++(vs.take (n*17)).drop (i*17))++sp).toArray 211 (0,0))/\(V.w.heap.size<=q\/q=ob)/\n+1<=c'/\c'*17<=(n+1)*17+sp.length /\
   V'.w.heap[vb]?=some (.cells xs.toArray 211 (0,0)):=by
 refine ⟨⟨f164,func164,rfl,by kernel_rfl⟩,?_⟩
 have hbw:ob<V.w.heap.size:=(Array.getElem?_eq_some_iff.1 hs).1
 have hvw:vb<V.w.heap.size:=(Array.getElem?_eq_some_iff.1 hv).1
 have hml:((vs.take (n*17)).drop (i*17)).length=(n-i)*17:=by rw [List.length_drop,List.length_take];omega
 by_cases hr:n+1<=c
 ·by_cases hin:i<n
  ·refine (FO ob n c i vb vs xs V.w hin hr hc (fun e=>hne e.symm) hcl hl hs hv h1c h1v).mono ?_
   rintro e w' ⟨e1,rfl⟩
   obtain ⟨g1,g2⟩:=cJ ((vs.take (n*17)).drop (i*17)) ((i+1)*17) vs V.w.drew hs (by rw [hml];omega)
   have tl:(vs.take ((i+1)*17)).length=(i+1)*17:=by rw [List.length_take];omega
   obtain ⟨g3,g4⟩:=cJ xs (i*17) _ _ g1 (by simp only [List.length_append,tl,hml];omega)
   have ex:=((tY (·=ob) V.w).trans g2).trans g4
   refine ⟨_,e1,ex.mono fun b e=>e▸hx,ob,c,vs.drop ((i+1)*17+((vs.take (n*17)).drop (i*17)).length),rfl,?_,.inr rfl,hr,?_,?_⟩
   ·refine g3.trans ?_
    congr 3
    rw [List.append_assoc,hl,List.append_assoc (vs.take ((i+1)*17)),OT (by omega) (by omega),show i*17+17=(i+1)*17 by omega,Mq (by omega)]
    simp only [List.append_assoc]
   ·rw [List.length_drop,hml];omega
   ·exact (ex.bC vb hvw fun e=>hne e.symm).trans hv
  ·obtain rfl:i=n:=by omega
   refine (JK ob i c vb vs xs V.w hr hc hcl hl hs hv h1v).mono ?_
   rintro e w' ⟨e1,rfl⟩
   obtain ⟨g3,g4⟩:=cJ xs (0+i*17) vs V.w hs (by omega)
   refine ⟨_,e1,g4.mono fun b e=>e▸hx,ob,c,vs.drop (0+i*17+xs.length),rfl,?_,.inr rfl,hr,?_,?_⟩
   ·refine g3.trans ?_
    congr 3
    rw [show (vs.take (i*17)).drop (i*17)=[] from List.drop_eq_nil_of_le (by rw [List.length_take];omega),Nat.zero_add,List.append_nil]
   ·rw [List.length_drop];omega
   ·exact (g4.bC vb hvw fun e=>hne e.symm).trans hv
 ·by_cases hin:i<n
  ·obtain ⟨z,hz,cY⟩:=Hv ob n c i vb vs xs V.w hin hnc (by omega) hc (fun e=>hne e.symm) hcl hl hs hv h1c h1v
   refine cY.mono ?_
   rintro e w' ⟨e1,rfl⟩
   have hG:=Go.grownCap_ge V.w (n+1) c 211
   generalize Go.grownCap V.w (n+1) c 211=G at *
   obtain ⟨ROW,hROW⟩:∃ROW:List Value,ROW.toArray=(vs.take (i*17)).toArray++Builtin.zeroCells z (n+1-i)++Builtin.zeroCells z (G-(n+1)):=⟨((vs.take (i*17)).toArray++Builtin.zeroCells z (n+1-i)++Builtin.zeroCells z (G-(n+1))).toList,by simp⟩
   have TF:ROW=vs.take (i*17)++((Builtin.zeroCells z (n+1-i)).toList++(Builtin.zeroCells z (G-(n+1))).toList):=by
    have:=congrArg Array.toList hROW
    simpa using this
   have hzl:∀k,(Builtin.zeroCells z k).toList.length=k*17:=fun k=>by simp [Builtin.zeroCells,hz]
   have PK:(vs.take (i*17)).length=i*17:=by rw [List.length_take];omega
   have hRl:ROW.length=i*17+(n+1-i)*17+(G-(n+1))*17:=by rw [TF];simp only [List.length_append,hzl,PK];omega
   rw [←hROW]
   have hN:(V.w.alloc (.cells ROW.toArray 211)).drew.heap[V.w.heap.size]?=some (.cells ROW.toArray 211 (0,0)):=Array.getElem?_push_size
   have x1:eA (·=ob) V.w (V.w.alloc (.cells ROW.toArray 211)).drew:=(pZ _ _ _).trans (tY _ _)
   obtain ⟨g1,g2⟩:=cJ xs (i*17) ROW _ hN (by omega)
   obtain ⟨g3,g4⟩:=cJ ((vs.take (n*17)).drop (i*17)) ((i+1)*17) _ (World.drew _) g1 (by simp only [List.length_append,List.length_take,List.length_drop,hml];omega)
   have Ss:V.w.heap.size<=_:=x1.size
   have Tk:∀{X:Nat->Prop},eA X V.w _:=fun {X}=>by
    refine ⟨Nat.le_trans Ss (Nat.le_trans g2.size g4.size),fun b hb _=>?_,?_,?_,?_⟩
    ·exact (g4.bC b (Nat.lt_of_lt_of_le hb (Nat.le_trans Ss g2.size)) (by omega)).trans ((g2.bC b (Nat.lt_of_lt_of_le hb Ss) (by omega)).trans ((pZ (fun _=>False) V.w (.cells ROW.toArray 211)).bC b hb id))
    ·exact g4.os.trans (g2.os.trans x1.os)
    ·exact g4.tape.trans (g2.tape.trans x1.tape)
    ·exact g4.out.trans (g2.out.trans x1.out)
   refine ⟨_,e1,Tk,V.w.heap.size,G,(ROW.drop ((n+1)*17)),rfl,?_,.inl (Nat.le_refl _),hG,?_,?_⟩
   ·refine g3.trans ?_
    have e2:ROW.take (i*17)=vs.take (i*17):=by rw [TF,List.take_append_of_le_length (by rw [PK];exact Nat.le_refl _),List.take_of_length_le (by rw [PK];exact Nat.le_refl _)]
    have l1:(ROW.take (i*17)++xs).length=(i+1)*17:=by rw [List.length_append,e2,PK,hl];omega
    have e3:(ROW.take (i*17)++xs++ROW.drop (i*17+xs.length)).take ((i+1)*17)=ROW.take (i*17)++xs:=by rw [←l1,List.take_left'];rfl
    have e4:(ROW.take (i*17)++xs++ROW.drop (i*17+xs.length)).drop ((i+1)*17+((vs.take (n*17)).drop (i*17)).length)=ROW.drop ((n+1)*17):=by
     rw [List.drop_append,List.drop_eq_nil_of_le (by rw [l1];omega),List.nil_append,List.drop_drop,l1,hml,hl]
     congr 1;omega
    rw [e3,e4,e2]
    simp only [List.append_assoc]
   ·rw [List.length_drop,hRl];omega
   ·exact (@Tk fun _=>False).bC vb hvw id |>.trans hv
  ·obtain rfl:i=n:=by omega
   obtain ⟨z,hz,cY⟩:=zz ob i c vb vs xs V.w hnc (by omega) hc hcl hl hs hv h1v
   refine cY.mono ?_
   rintro e w' ⟨e1,rfl⟩
   have hG:=Go.grownCap_ge V.w (i+1) c 211
   generalize Go.grownCap V.w (i+1) c 211=G at *
   have hzl:∀k,(Builtin.zeroCells z k).toList.length=k*17:=fun k=>by simp [Builtin.zeroCells,hz]
   have ex:∀{X:Nat->Prop} {o:Obj},eA X V.w (V.w.drew.alloc o):=(tY _ _).trans (pZ _ _ _)
   refine ⟨_,e1,ex,V.w.heap.size,G,(Builtin.zeroCells z (G-(i+1))).toList,rfl,?_,.inl (Nat.le_refl _),hG,?_,?_⟩
   ·refine (Array.getElem?_push_size (xs:=V.w.heap)).trans ?_
    congr 2
    rw [show (vs.take (i*17)).drop (i*17)=[] from List.drop_eq_nil_of_le (by rw [List.length_take];omega),List.append_nil]
    apply Array.ext'
    simp
   ·rw [hzl];omega
   ·exact ((ex (X:=fun _=>False)).bC vb hvw id).trans hv
end Go.Proofs.Tryz
namespace Go.Proofs.Tryz
open Go.bF Go.eK
theorem xA {V:View}{v:Value}{p:Rat×Rat}(h:nY V v p.1 p.2){k:Nat}(s1:Sz k p.1)(s2:Sz k p.2)(hk:k<=1099511627776) :
  ab prog 196 #[v] V fun r V'=>r=.int .i64 (ah.half p):=by
 obtain ⟨x1,x2,q,y1,y2,q',rfl,hx,hy⟩:=h
 refine vx x1 x2 q y1 y2 q' V _ fun V1 l1=>(eE (hy.le l1) s2 hk).mono ?_
 rintro r V2 l2 rfl
 have dh:=l1.trans l2
 refine ⟨_,rfl,fun h1 V3 l3=>?_,fun h1=>⟨fun h2 V4 l4=>(eE (hx.le (dh.trans l4)) s1 hk).mono ?_,fun h2=>⟨fun h3 nZ Wl=>?_,fun h3 sY dL=>(eE (hx.le (dh.trans dL)) s1 hk).mono ?_⟩⟩⟩
 ·have h1:p.2.num.sign>0:=of_decide_eq_true h1
  unfold ah.half;rw [if_pos (.inl h1)]
 ·have h1:¬p.2.num.sign>0:=of_decide_eq_false h1
  have h2:p.2.num.sign=0:=by simpa using h2
  rintro r V5 l5 rfl
  refine ⟨_,rfl,fun h3 V6 l6=>?_,fun h3=>⟨fun h4 V7 l7=>?_,fun h4 V8 l8=>(eE (hx.le (dh.trans (l4.trans (l5.trans l8)))) s1 hk).mono ?_⟩⟩
  ·have h3:p.1.num.sign>0:=of_decide_eq_true h3
   unfold ah.half;rw [if_pos (.inr ⟨h2,h3⟩)]
  ·have h4:p.2.num.sign<0:=of_decide_eq_true h4
   omega
  ·have h3:¬p.1.num.sign>0:=of_decide_eq_false h3
   have hn:¬(p.2.num.sign>0\/p.2.num.sign=0/\p.1.num.sign>0):=by omega
   rintro r V9 l9 rfl
   refine ⟨_,rfl,fun h5 jm l10=>?_,fun h5 kR bW=>?_⟩
   ·have h5:p.1.num.sign<0:=of_decide_eq_true h5
    unfold ah.half;rw [if_neg hn,if_pos (.inr h5)]
   ·have h5:¬p.1.num.sign<0:=of_decide_eq_false h5
    unfold ah.half;rw [if_neg hn,if_neg (by omega)]
 ·have h1:¬p.2.num.sign>0:=of_decide_eq_false h1
  have h2:¬p.2.num.sign=0:=by simpa using h2
  have h3:p.2.num.sign<0:=of_decide_eq_true h3
  unfold ah.half;rw [if_neg (by omega),if_pos (.inl h3)]
 ·have h1:¬p.2.num.sign>0:=of_decide_eq_false h1
  have h2:¬p.2.num.sign=0:=by simpa using h2
  have h3:¬p.2.num.sign<0:=of_decide_eq_false h3
  omega
theorem Ke (q:Rat):-1<=q.num.sign/\q.num.sign<=1:=by
 rcases Int.lt_trichotomy q.num 0 with h|h|h
 ·rw [Int.sign_eq_neg_one_of_neg h];omega
 ·rw [h];decide
 ·rw [Int.sign_eq_one_of_pos h];omega
theorem AR {V:View}{v w:Value}{a b:Rat×Rat}(h:nY V v a.1 a.2)(h':nY V w b.1 b.2){k:Nat}(s1:Sz k a.1)(s2:Sz k a.2)(s3:Sz k b.1)(s4:Sz k b.2)(hk:4*k+3<274877906944) :
  ab prog 163 #[v,w] V fun r V'=>r=.int .i64 (ah.ee a b):=by
 have h0:=h
 have h0':=h'
 obtain ⟨x1,x2,q,y1,y2,q',rfl,-⟩:=h
 obtain ⟨u1,u2,t,w1,w2,t',rfl,-⟩:=h'
 refine Ac x1 x2 q y1 y2 q' u1 u2 t w1 w2 t' V _ fun V1 l1=>(xA (h0.le l1) s1 s2 (by omega)).mono ?_
 rintro r V2 l2 rfl
 refine ⟨_,rfl,fun V3 l3=>(xA (h0'.le (l1.trans (l2.trans l3))) s3 s4 (by omega)).mono ?_⟩
 rintro r V4 l4 rfl
 have fk:=l1.trans (l2.trans (l3.trans l4))
 refine ⟨_,rfl,fun g V5 l5=>?_,fun g=>⟨fun g' V6 l6=>?_,fun g' V7 l7=>(fu (h0.le (fk.trans l7)) (h0'.le (fk.trans l7)) s1 s2 s3 s4 hk).mono ?_⟩⟩
 ·unfold ah.ee;rw [if_pos (of_decide_eq_true g)]
 ·unfold ah.ee;rw [if_neg (of_decide_eq_false g),if_pos (of_decide_eq_true g')]
 ·rintro r V8 l8 gc
  have Vk:=gc
  obtain ⟨c0,c1,c2,rfl⟩:=gc.shape
  refine ⟨_,_,_,rfl,fun V9 l9=>(eE (Vk.le l9) (j9 s1 s2 s3 s4) (by omega)).mono ?_⟩
  rintro r jm l10 rfl
  refine ⟨_,rfl,fun kR bW=>?_⟩
  have bd:=Ke (a.1*b.2-a.2*b.1)
  rw [ay (by omega)]
  unfold ah.ee;rw [if_neg (of_decide_eq_false g),if_neg (of_decide_eq_false g')]
  show _=Value.int .i64 (-(a.1*b.2-a.2*b.1).num.sign)
  congr 1;omega
def MO (V:View)(v:Value)(c:Rat×Rat):Prop:=nY V v c.1 c.2/\Sz 100000 c.1/\Sz 100000 c.2
theorem MO.le {V V':View}{v:Value}{c:Rat×Rat}(h:MO V v c)(l:V.Le V'):MO V' v c:=⟨h.1.le l,h.2⟩
theorem MO.shape {V:View}{v:Value}{c:Rat×Rat}(h:MO V v c):∃(x y:Int)(p:OA)(xb yb:Int)(pb:OA),v=.agg #[.int .i64 x,.int .i64 y,.pointer p,.int .i64 xb,.int .i64 yb,.pointer pb]:=by
 obtain ⟨⟨x1,x2,p,y1,y2,q,e,-⟩,-⟩:=h;exact ⟨_,_,_,_,_,_,e⟩
end Go.Proofs.Tryz
