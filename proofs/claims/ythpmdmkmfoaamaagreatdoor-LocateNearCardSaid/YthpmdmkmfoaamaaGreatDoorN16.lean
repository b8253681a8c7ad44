import Derived.Test.YthpmdmkmfoaamaaGreatDoorN10
import Derived.Test.YthpmdmkmfoaamaaGreatDoorN15
import Derived.Test.YthpmdmkmfoaamaaGreatDoorN14
import Derived.Test.YthpmdmkmfoaamaaGreatDoorN7
import Derived.Test.YthpmdmkmfoaamaaGreatDoorN13
set_option linter.unusedVariables false
open Go.IntKind (i64 u64 u32)
namespace Go.Proofs.Tryz.aw
open Go.bL Go.fN
def nv (l:L3)(v:V2):Rat:=(l.1:Rat)*v.1+(l.2.1:Rat)*v.2
def cF (l:L3):V2:=((l.2.1:Rat),-(l.1:Rat))
theorem OR (l:L3)(v:V2):nv l v=cr (cF l) v:=by unfold nv cr cF;grind
def wX (l:L3)(p v:V2):Int:=if (aT l p.1 p.2).num.sign=0 then (nv l v).num.sign else (aT l p.1 p.2).num.sign
def jo:Tr->V2->V2->Bool×Bool
 | .leaf i,_,_=>(i,true)
 | .node l a b,p,v=>if wX l p v=1 then jo a p v else if wX l p v=-1 then jo b p v else (false,false)
def cq:Tr->V2->List L3
 | .leaf _,_=>[]
 | .node l a b,p=>(if aT l p.1 p.2=0 then [l] else [])++((if aT l p.1 p.2≥0 then cq a p else [])++(if aT l p.1 p.2<=0 then cq b p else []))
theorem mI:∀{t:Tr} {p:V2} {l:L3},l∈cq t p->aT l p.1 p.2=0/\l∈t.mq
 | .leaf _,_,_,h=>by cases h
 | .node m a b,p,l,h=>by
  unfold cq at h
  simp only [List.mem_append] at h
  rcases h with h|h|h
  ·split at h
   ·rename_i e;rcases List.mem_singleton.1 h with rfl;exact ⟨e,List.mem_cons_self ..⟩
   ·cases h
  ·split at h
   ·have:=mI h;exact ⟨this.1,List.mem_cons_of_mem _ (List.mem_append_left _ this.2)⟩
   ·cases h
  ·split at h
   ·have:=mI h;exact ⟨this.1,List.mem_cons_of_mem _ (List.mem_append_right _ this.2)⟩
   ·cases h
theorem jg {q:Rat}:q.num.sign=-1↔q<0:=by
 rw [Int.sign_eq_neg_one_iff_neg,←Int.not_le,←Rat.not_le,Rat.num_nonneg]
theorem j9 {q:Rat}:q.num.sign=1↔q>0:=by
 have h:=@jg (-q)
 rw [Rat.neg_num,Int.sign_neg] at h
 constructor
 ·intro e;have:=h.1 (by rw [e]);grind
 ·intro e;have:=h.2 (by grind);omega
theorem cu {q:Rat}:q.num.sign=0↔q=0:=by rw [Int.sign_eq_zero_iff_zero,Rat.num_eq_zero]
theorem mU:∀{t:Tr} {p v x:V2},(∀l∈cq t p,nv l v≠0)->(∀l∈cq t p,(nv l v>0->nv l x>0)/\(nv l v<0->nv l x<0)) ->
  jo t p x=jo t p v/\(jo t p v).2=true
 | .leaf _,_,_,_,_,_=>⟨rfl,rfl⟩
 | .node l a b,p,v,x,h0,h1=>by
  have ha:aT l p.1 p.2≥0->jo a p x=jo a p v/\(jo a p v).2=true:=fun e=>by
   have sub:∀m∈cq a p,m∈cq (.node l a b) p:=fun m hm=>by
    unfold cq
    rw [if_pos e]
    exact List.mem_append_right _ (List.mem_append_left _ hm)
   exact mU (fun m hm=>h0 m (sub m hm)) (fun m hm=>h1 m (sub m hm))
  have hb:aT l p.1 p.2<=0->jo b p x=jo b p v/\(jo b p v).2=true:=fun e=>by
   have sub:∀m∈cq b p,m∈cq (.node l a b) p:=fun m hm=>by
    unfold cq
    rw [if_pos e]
    exact List.mem_append_right _ (List.mem_append_right _ hm)
   exact mU (fun m hm=>h0 m (sub m hm)) (fun m hm=>h1 m (sub m hm))
  have hl:aT l p.1 p.2=0->l∈cq (.node l a b) p:=fun e=>by
   unfold cq
   rw [if_pos e]
   exact List.mem_append_left _ (List.mem_singleton.2 rfl)
  have key:wX l p x=wX l p v/\(wX l p v=1/\aT l p.1 p.2≥0\/wX l p v=-1/\aT l p.1 p.2<=0):=by
   unfold wX
   by_cases e:aT l p.1 p.2=0
   ·have hm:=hl e
    rw [if_pos (cu.2 e),if_pos (cu.2 e)]
    obtain ⟨q1,q2⟩:=h1 l hm
    have q0:=h0 l hm
    by_cases q:nv l v>0
    ·rw [j9.2 q,j9.2 (q1 q)];exact ⟨rfl,.inl ⟨rfl,by grind⟩⟩
    ·have q':nv l v<0:=by grind
     rw [jg.2 q',jg.2 (q2 q')];exact ⟨rfl,.inr ⟨rfl,by grind⟩⟩
   ·have e':¬(aT l p.1 p.2).num.sign=0:=fun h=>e (cu.1 h)
    rw [if_neg e',if_neg e']
    refine ⟨rfl,?_⟩
    by_cases q:aT l p.1 p.2>0
    ·exact .inl ⟨j9.2 q,by grind⟩
    ·exact .inr ⟨jg.2 (by grind),by grind⟩
  obtain ⟨k1,k2⟩:=key
  simp only [jo,k1]
  rcases k2 with ⟨e,g⟩|⟨e,g⟩
  ·rw [e,if_pos rfl,if_pos rfl];exact ha g
  ·rw [e,if_neg (by decide),if_pos rfl,if_neg (by decide),if_pos rfl];exact hb g
def EF (D:List V2)(M:List L3):Prop:=∀l∈M,∃r∈D,∃c:Rat,c>0/\r=(c*(cF l).1,c*(cF l).2)
theorem C2 {l:L3}{r:V2}{c:Rat}(c0:c>0)(e:r=(c*(cF l).1,c*(cF l).2))(v:V2):cr r v=c*nv l v:=by
 rw [OR,e];unfold cr;grind
theorem En {c x:Rat}(c0:c>0):(c*x>0↔x>0)/\(c*x<0↔x<0)/\(c*x=0↔x=0):=by
 have p:x>0->c*x>0:=fun h=>mp c0 h
 have n:x<0->c*x<0:=fun h=>by have:=mp c0 (show -x>0 by grind);grind
 have z:x=0->c*x=0:=fun h=>by rw [h];grind
 refine ⟨⟨fun h=>?_,p⟩,⟨fun h=>?_,n⟩,⟨fun h=>?_,z⟩⟩
 ·by_cases q:x>0
  ·exact q
  ·by_cases q':x<0
   ·have:=n q';grind
   ·have:=z (by grind);grind
 ·by_cases q:x<0
  ·exact q
  ·by_cases q':x>0
   ·have:=p q';grind
   ·have:=z (by grind);grind
 ·rcases Rat.mul_eq_zero.1 h with h|h
  ·grind
  ·exact h
theorem EF.gen {D:List V2}{M:List L3}(h:EF D M){v:V2}(hv:∀r∈D,cr r v≠0):∀l∈M,nv l v≠0:=by
 intro l hl e
 obtain ⟨r,hr,c,c0,e'⟩:=h l hl
 exact hv r hr (by rw [C2 c0 e',e];grind)
theorem EF.same {D:List V2}{M:List L3}(h:EF D M){v x:V2}(hv:∀r∈D,(cr r v>0->cr r x>0)/\(cr r v<0->cr r x<0)) :
  ∀l∈M,(nv l v>0->nv l x>0)/\(nv l v<0->nv l x<0):=by
 intro l hl
 obtain ⟨r,hr,c,c0,e'⟩:=h l hl
 have:=hv r hr
 rw [C2 c0 e',C2 c0 e'] at this
 obtain ⟨a1,a2,_⟩:=@En c (nv l v) c0
 obtain ⟨b1,b2,_⟩:=@En c (nv l x) c0
 exact ⟨fun h=>b1.1 (this.1 (a1.2 h)),fun h=>b2.1 (this.2 (a2.2 h))⟩
theorem HN {D S:List V2}(h:AD D)(hS:EJ D S):∀x∈S,nz x:=by
 intro x hx
 have g:=qt h hS x hx
 rcases hS with ⟨rfl,rfl⟩|⟨h0,_,_⟩
 ·rcases List.mem_singleton.1 hx with rfl;exact .inl (by decide)
 ·obtain ⟨d,hd⟩:=List.exists_mem_of_ne_nil D h0
  have:=g d hd
  unfold nz
  by_cases e:x.1=0
  ·right;intro e';exact this (by unfold cr;rw [e,e'];grind)
  ·exact .inl e
theorem Oo {D E S':List V2}(hD:∀r∈D,nz r)(hE:AD E)(hS':EJ E S'){t:Tr}{p x:V2}(nx:nz x)(hx:∀r∈D,cr r x≠0)(c1:EF D (cq t p))(c2:EF E (cq t p)) :
  ∃y∈S',jo t p y=jo t p x/\(jo t p x).2=true:=by
 obtain ⟨z,hz⟩:=Mf x nx (D++E) fun r hr=>by
  rcases List.mem_append.1 hr with h|h
  ·exact hD r h
  ·exact hE.nz r h
 have z1:∀r∈D,(cr r x>0->cr r z>0)/\(cr r x<0->cr r z<0):=fun r hr=>⟨(hz r (List.mem_append_left _ hr)).1,(hz r (List.mem_append_left _ hr)).2.1⟩
 have z2:∀r∈E,cr r z≠0:=fun r hr=>(hz r (List.mem_append_right _ hr)).2.2
 obtain ⟨y,hy,y1⟩:=JD hE hS' z2
 have t1:=mU (c1.gen hx) (c1.same z1)
 have t2:=mU (c2.gen z2) (c2.same y1)
 exact ⟨y,hy,t2.1.trans t1.1,t1.2⟩
def anyS (t:Tr)(p:V2)(S:List V2):Bool:=S.any fun v=>(jo t p v).1
def iK (t:Tr)(p:V2)(S:List V2):Bool:=S.all fun v=>(jo t p v).1
theorem LX {D S E S':List V2}(hD:AD D)(hS:EJ D S)(hE:AD E)(hS':EJ E S'){t:Tr}{p:V2}(c1:EF D (cq t p))(c2:EF E (cq t p)) :
  anyS t p S=anyS t p S'/\iK t p S=iK t p S':=by
 have a:∀x∈S,∃y∈S',jo t p y=jo t p x:=fun x hx=>by
  obtain ⟨y,hy,e,_⟩:=Oo hD.nz hE hS' (HN hD hS x hx) (qt hD hS x hx) c1 c2
  exact ⟨y,hy,e⟩
 have b:∀x∈S',∃y∈S,jo t p y=jo t p x:=fun x hx=>by
  obtain ⟨y,hy,e,_⟩:=Oo hE.nz hD hS (HN hE hS' x hx) (qt hE hS' x hx) c2 c1
  exact ⟨y,hy,e⟩
 unfold anyS iK
 constructor
 ·rw [Bool.eq_iff_iff,List.any_eq_true,List.any_eq_true]
  constructor
  ·rintro ⟨x,hx,h⟩;obtain ⟨y,hy,e⟩:=a x hx;exact ⟨y,hy,by rw [e];exact h⟩
  ·rintro ⟨x,hx,h⟩;obtain ⟨y,hy,e⟩:=b x hx;exact ⟨y,hy,by rw [e];exact h⟩
 ·rw [Bool.eq_iff_iff,List.all_eq_true,List.all_eq_true]
  constructor
  ·intro h x hx;obtain ⟨y,hy,e⟩:=b x hx;rw [←e];exact h y hy
  ·intro h x hx;obtain ⟨y,hy,e⟩:=a x hx;rw [←e];exact h y hy
theorem EC (l:L3)(p v:V2)(s:Rat):aT l (p.1+s*v.1) (p.2+s*v.2)=aT l p.1 p.2+s*nv l v:=by unfold aT nv;grind
def qK (p v:V2)(s:Rat)(l:L3):Rat:=
 if nv l v=0\/aT l p.1 p.2=0 then s
 else if -(aT l p.1 p.2*(nv l v)⁻¹)>0/\-(aT l p.1 p.2*(nv l v)⁻¹)*(1 / 2)<s then -(aT l p.1 p.2*(nv l v)⁻¹)*(1 / 2) else s
def EG (l:L3)(p v:V2)(s:Rat):Prop:=aT l p.1 p.2≠0->(aT l p.1 p.2+s*nv l v).num.sign=(aT l p.1 p.2).num.sign
theorem inv_mul {c:Rat}(h:c≠0)(a:Rat):a*c⁻¹*c=a:=by rw [Rat.mul_assoc,Rat.inv_mul_cancel _ h,Rat.mul_one]
theorem zD {l:L3}{p v:V2}{s:Rat}(s0:s>0)(h:nv l v=0\/aT l p.1 p.2=0\/¬-(aT l p.1 p.2*(nv l v)⁻¹)>0\/s<=-(aT l p.1 p.2*(nv l v)⁻¹)*(1 / 2)):EG l p v s:=by
 intro h0
 generalize ex:aT l p.1 p.2=x at *
 generalize ec:nv l v=c at *
 have key:(x>0->x+s*c>0)/\(x<0->x+s*c<0):=by
  rcases h with h|h|h|h
  ·rw [h];exact ⟨fun _=>by grind,fun _=>by grind⟩
  ·exact absurd h h0
  ·by_cases hc:c=0
   ·rw [hc];exact ⟨fun _=>by grind,fun _=>by grind⟩
   have e:=inv_mul hc x
   generalize x*c⁻¹=t at *
   have t0:t≥0:=by grind
   by_cases hp:c>0
   ·have m1:=mn t0 (show c≥0 by grind)
    have m2:=mp s0 hp
    exact ⟨fun _=>by grind,fun _=>by grind⟩
   ·have m1:=mn t0 (show -c≥0 by grind)
    have m2:=mp s0 (show -c>0 by grind)
    exact ⟨fun _=>by grind,fun _=>by grind⟩
  ·by_cases hc:c=0
   ·rw [hc];exact ⟨fun _=>by grind,fun _=>by grind⟩
   have e:=inv_mul hc x
   generalize x*c⁻¹=t at *
   by_cases hp:c>0
   ·have m1:=mn (show -t*(1 / 2)-s≥0 by grind) (show c≥0 by grind)
    have m2:=mp s0 hp
    exact ⟨fun _=>by grind,fun _=>by grind⟩
   ·have m1:=mn (show -t*(1 / 2)-s≥0 by grind) (show -c≥0 by grind)
    have m2:=mp s0 (show -c>0 by grind)
    exact ⟨fun _=>by grind,fun _=>by grind⟩
 by_cases hx:x>0
 ·rw [j9.2 hx,j9.2 (key.1 hx)]
 ·have hx':x<0:=by grind
  rw [jg.2 hx',jg.2 (key.2 hx')]
theorem Ha {p v:V2}{s:Rat}{l:L3}(s0:s>0):qK p v s l>0/\qK p v s l<=s/\∀z:Rat,z>0->z<=qK p v s l->EG l p v z:=by
 unfold qK
 split
 ·rename_i h
  exact ⟨s0,by grind,fun z z0 _=>zD z0 (by rcases h with h|h<;>simp [h])⟩
 ·split
  ·rename_i h
   exact ⟨by grind,by grind,fun z z0 hz=>zD z0 (.inr (.inr (.inr hz)))⟩
  ·rename_i h
   refine ⟨s0,by grind,fun z z0 hz=>zD z0 ?_⟩
   by_cases q:-(aT l p.1 p.2*(nv l v)⁻¹)>0
   ·exact .inr (.inr (.inr (by grind)))
   ·exact .inr (.inr (.inl q))
theorem yu {p v:V2}:∀{ls:List L3} {s:Rat},s>0->ls.foldl (qK p v) s>0/\ls.foldl (qK p v) s<=s/\∀l∈ls,∀z:Rat,z>0->z<=ls.foldl (qK p v) s->EG l p v z
 | [],s,h=>⟨h,by simp only [List.foldl_nil];grind,fun l hl=>by cases hl⟩
 | a::ls,s,h=>by
  obtain ⟨n1,n2,n3⟩:=Ha (p:=p) (v:=v) (l:=a) h
  obtain ⟨h1,h2,h3⟩:=yu (p:=p) (v:=v) (ls:=ls) n1
  simp only [List.foldl_cons]
  refine ⟨h1,by grind,fun l hl z z0 hz=>?_⟩
  rcases List.mem_cons.1 hl with rfl|hl
  ·exact n3 z z0 (by grind)
  ·exact h3 l hl z z0 hz
theorem vI:∀{t:Tr} {p v q w:V2},(∀l∈t.mq,(aT l p.1 p.2≠0->(aT l q.1 q.2).num.sign=(aT l p.1 p.2).num.sign)/\(aT l p.1 p.2=0->(aT l q.1 q.2).num.sign=(nv l v).num.sign)) ->
  (∀l∈cq t p,nv l v≠0)->jo t q w=jo t p v/\cq t q=[]
 | .leaf _,_,_,_,_,_,_=>⟨rfl,rfl⟩
 | .node l a b,p,v,q,w,h,h0=>by
  obtain ⟨g1,g2⟩:=h l (List.mem_cons_self ..)
  have ha:aT l p.1 p.2≥0->jo a q w=jo a p v/\cq a q=[]:=fun e=>by
   refine vI (fun m hm=>h m (List.mem_cons_of_mem _ (List.mem_append_left _ hm))) fun m hm=>h0 m ?_
   unfold cq
   rw [if_pos e]
   exact List.mem_append_right _ (List.mem_append_left _ hm)
  have hb:aT l p.1 p.2<=0->jo b q w=jo b p v/\cq b q=[]:=fun e=>by
   refine vI (fun m hm=>h m (List.mem_cons_of_mem _ (List.mem_append_right _ hm))) fun m hm=>h0 m ?_
   unfold cq
   rw [if_pos e]
   exact List.mem_append_right _ (List.mem_append_right _ hm)
  have key:wX l q w=wX l p v/\(aT l q.1 q.2).num.sign=wX l p v/\(wX l p v=1/\aT l p.1 p.2≥0\/wX l p v=-1/\aT l p.1 p.2<=0):=by
   unfold wX
   by_cases e:aT l p.1 p.2=0
   ·have hm:l∈cq (.node l a b) p:=by
     unfold cq;rw [if_pos e];exact List.mem_append_left _ (List.mem_singleton.2 rfl)
    have n0:=h0 l hm
    have g:=g2 e
    rw [if_pos (cu.2 e),g,if_neg (fun h=>n0 (cu.1 h))]
    refine ⟨rfl,rfl,?_⟩
    by_cases c:nv l v>0
    ·exact .inl ⟨j9.2 c,by grind⟩
    ·exact .inr ⟨jg.2 (by grind),by grind⟩
   ·have g:=g1 e
    have e':¬(aT l p.1 p.2).num.sign=0:=fun h=>e (cu.1 h)
    rw [g,if_neg e',if_neg e']
    refine ⟨rfl,rfl,?_⟩
    by_cases c:aT l p.1 p.2>0
    ·exact .inl ⟨j9.2 c,by grind⟩
    ·exact .inr ⟨jg.2 (by grind),by grind⟩
  obtain ⟨k1,k2,k3⟩:=key
  simp only [jo,k1,cq]
  rcases k3 with ⟨e,g⟩|⟨e,g⟩
  ·rw [e] at k2 ⊢
   have hq:=j9.1 k2
   rw [if_pos rfl,if_pos rfl,if_neg (by grind),if_pos (by grind),if_neg (by grind),(ha g).2]
   exact ⟨(ha g).1,rfl⟩
  ·rw [e] at k2 ⊢
   have hq:=jg.1 k2
   rw [if_neg (by decide),if_pos rfl,if_neg (by decide),if_pos rfl,if_neg (by grind),if_neg (by grind),if_pos (by grind),(hb g).2]
   exact ⟨(hb g).1,rfl⟩
def half (u:V2):Int:=if u.2.num.sign>0\/u.2.num.sign=0/\u.1.num.sign>0 then 1 else if u.2.num.sign<0\/u.1.num.sign<0 then 2 else 0
def fF (u v:V2):Int:=if half u<half v then -1 else if half u>half v then 1 else -(cr u v).num.sign
theorem mP {q:Rat}:q.num.sign>0↔q>0:=by
 have:=Rat.num_nonneg (q:=-q)
 rw [Rat.neg_num] at this
 rw [gt_iff_lt,Int.sign_pos_iff]
 have h2:(0<=-q)↔¬q>0:=by constructor<;>intro h<;>grind
 rw [h2] at this
 by_cases h:q>0
 ·exact ⟨fun _=>h,fun _=>by
   have:¬0<=-q.num:=fun g=>this.1 g h
   omega⟩
 ·exact ⟨fun g=>by have:=this.2 h;omega,fun g=>absurd g h⟩
theorem B1 {q:Rat}:q.num.sign<0↔q<0:=by
 have:=@mP (-q)
 rw [Rat.neg_num,Int.sign_neg] at this
 constructor
 ·intro h;have:=this.1 (by omega);grind
 ·intro h;have:=this.2 (by grind);omega
theorem bH (u:V2):half u=1/\up u\/half u=2/\dn u\/half u=0/\u.1=0/\u.2=0:=by
 unfold half up dn
 split
 ·rename_i h;rw [mP,mP,cu] at h;exact .inl ⟨rfl,h⟩
 ·rename_i h
  rw [mP,mP,cu] at h
  split
  ·rename_i h';rw [B1,B1] at h';exact .inr (.inl ⟨rfl,by grind⟩)
  ·rename_i h';rw [B1,B1] at h';exact .inr (.inr ⟨rfl,by grind,by grind⟩)
theorem oA {u v:V2}:fF u v<0↔half u<half v\/half u=half v/\cr u v>0:=by
 have:=@mP (cr u v)
 unfold fF
 by_cases h1:half u<half v
 ·simp [h1]
 ·by_cases h2:half u>half v
  ·rw [if_neg h1,if_pos h2];omega
  ·rw [if_neg h1,if_neg h2];constructor
   ·intro h;exact .inr ⟨by omega,this.1 (by omega)⟩
   ·rintro (h|⟨h,h'⟩)
    ·omega
    ·have:=this.2 h';omega
theorem fj {u v:V2}:fF u v=0↔half u=half v/\cr u v=0:=by
 have:=@cu (cr u v)
 unfold fF
 by_cases h1:half u<half v
 ·rw [if_pos h1];constructor
  ·intro h;omega
  ·rintro ⟨h,_⟩;omega
 ·by_cases h2:half u>half v
  ·rw [if_neg h1,if_pos h2];constructor
   ·intro h;omega
   ·rintro ⟨h,_⟩;omega
  ·rw [if_neg h1,if_neg h2];constructor
   ·intro h;exact ⟨by omega,this.1 (by omega)⟩
   ·rintro ⟨_,h⟩;have:=this.2 h;omega
theorem tX (u v:V2):fF u v<0\/fF u v=0\/fF v u<0:=by
 rw [oA,fj,oA]
 have:=ck u v
 rcases Int.lt_trichotomy (half u) (half v) with h|h|h
 ·exact .inl (.inl h)
 ·by_cases p:cr u v>0
  ·exact .inl (.inr ⟨h,p⟩)
  ·by_cases q:cr u v=0
   ·exact .inr (.inl ⟨h,q⟩)
   ·exact .inr (.inr (.inr ⟨h.symm,by grind⟩))
 ·exact .inr (.inr (.inl h))
theorem yP (u v:V2)(h:fF u v<0):¬fF v u<0:=by
 rw [oA] at *
 have:=ck u v
 rintro (h'|⟨h',g'⟩)<;>rcases h with h|⟨h,g⟩
 ·omega
 ·omega
 ·omega
 ·grind
theorem IH {a b d:V2}(nE:half a=half b)(hbd:half b=half d)(h1:cr a b<=0)(h2:cr b d<=0):cr a d<=0:=by
 by_cases h:cr a d<=0
 ·exact h
 exfalso
 have c:cr a d>0:=by grind
 have j1:=GH a d b
 have j2:=zH a d b
 rcases bH b with ⟨e,hb⟩|⟨e,hb⟩|⟨e,hb⟩
 ·have ha:up a:=by rcases bH a with ⟨e',h⟩|⟨e',h⟩|⟨e',h⟩<;>first|exact h|omega
  have hd:up d:=by rcases bH d with ⟨e',h⟩|⟨e',h⟩|⟨e',h⟩<;>first|exact h|omega
  unfold up at ha hb hd
  have m1:=mn (show -(cr a b)≥0 by grind) (show d.2≥0 by grind)
  have m2:=mn (show -(cr b d)≥0 by grind) (show a.2≥0 by grind)
  have m3:=mn (show cr a d≥0 by grind) (show b.2≥0 by grind)
  have z3:cr a d*b.2=0:=by grind
  have b2:b.2=0:=by rcases Rat.mul_eq_zero.1 z3 with h|h<;>grind
  have b1:b.1>0:=by grind
  have d2:d.2=0:=by
   by_cases q:d.2>0
   ·have:=mp b1 q;unfold cr at h2;rw [b2] at h2;grind
   ·grind
  have d1:d.1>0:=by grind
  have:=mn (show a.2≥0 by grind) (show d.1≥0 by grind)
  unfold cr at c
  rw [d2] at c
  grind
 ·have ha:dn a:=by rcases bH a with ⟨e',h⟩|⟨e',h⟩|⟨e',h⟩<;>first|exact h|omega
  have hd:dn d:=by rcases bH d with ⟨e',h⟩|⟨e',h⟩|⟨e',h⟩<;>first|exact h|omega
  unfold dn at ha hb hd
  have m1:=mn (show -(cr a b)≥0 by grind) (show -d.2≥0 by grind)
  have m2:=mn (show -(cr b d)≥0 by grind) (show -a.2≥0 by grind)
  have m3:=mn (show cr a d≥0 by grind) (show -b.2≥0 by grind)
  have z3:cr a d*b.2=0:=by grind
  have b2:b.2=0:=by rcases Rat.mul_eq_zero.1 z3 with h|h<;>grind
  have b1:-b.1>0:=by grind
  have d2:d.2=0:=by
   by_cases q:-d.2>0
   ·have:=mp b1 q;unfold cr at h2;rw [b2] at h2;grind
   ·grind
  have d1:d.1<0:=by grind
  have:=mn (show -a.2≥0 by grind) (show -d.1≥0 by grind)
  unfold cr at c
  rw [d2] at c
  grind
 ·have ha:a.1=0/\a.2=0:=by rcases bH a with ⟨e',h⟩|⟨e',h⟩|⟨e',h⟩<;>first|exact h|omega
  unfold cr at c
  rw [ha.1,ha.2] at c
  grind
theorem KO {u v:V2}:¬fF u v<0↔half v<half u\/half u=half v/\cr u v<=0:=by
 rw [oA]
 constructor
 ·intro h
  rcases Int.lt_trichotomy (half u) (half v) with g|g|g
  ·exact absurd (.inl g) h
  ·exact .inr ⟨g,by by_cases p:cr u v>0;exact absurd (.inr ⟨g,p⟩) h;grind⟩
  ·exact .inl g
 ·rintro (h|⟨h,g⟩) (h'|⟨h',g'⟩)
  ·omega
  ·omega
  ·omega
  ·grind
theorem tZ (a b d:V2)(h:¬fF a b<0)(h':¬fF b d<0):¬fF a d<0:=by
 rw [KO] at *
 rcases h with h|⟨h,g⟩<;>rcases h' with h'|⟨h',g'⟩
 ·exact .inl (by omega)
 ·exact .inl (by omega)
 ·exact .inl (by omega)
 ·exact .inr ⟨by omega,IH h h' g g'⟩
theorem yQ {u v:V2}(hu:nz u)(hv:nz v):fF u v<0↔oz u v:=by
 have h0:∀{w:V2},nz w->¬(w.1=0/\w.2=0):=fun h g=>by unfold nz at h;rcases h with h|h;exact h g.1;exact h g.2
 rw [oA]
 unfold oz
 rcases bH u with ⟨e,h⟩|⟨e,h⟩|⟨e,h⟩
 ·rcases bH v with ⟨e',h'⟩|⟨e',h'⟩|⟨e',h'⟩
  ·rw [e,e'];constructor
   ·rintro (g|⟨_,g⟩)
    ·omega
    ·exact .inr ⟨.inl ⟨h,h'⟩,g⟩
   ·rintro (⟨_,g⟩|⟨_,g⟩)
    ·exact (eA h' g).elim
    ·exact .inr ⟨rfl,g⟩
  ·rw [e,e'];exact ⟨fun _=>.inl ⟨h,h'⟩,fun _=>.inl (by decide)⟩
  ·exact absurd h' (h0 hv)
 ·rcases bH v with ⟨e',h'⟩|⟨e',h'⟩|⟨e',h'⟩
  ·rw [e,e'];constructor
   ·rintro (g|⟨g,_⟩)<;>omega
   ·rintro (⟨g,_⟩|⟨⟨g,_⟩|⟨_,g⟩,_⟩)
    ·exact (eA g h).elim
    ·exact (eA g h).elim
    ·exact (eA h' g).elim
  ·rw [e,e'];constructor
   ·rintro (g|⟨_,g⟩)
    ·omega
    ·exact .inr ⟨.inr ⟨h,h'⟩,g⟩
   ·rintro (⟨g,_⟩|⟨_,g⟩)
    ·exact (eA g h).elim
    ·exact .inr ⟨rfl,g⟩
  ·exact absurd h' (h0 hv)
 ·exact absurd h (h0 hu)
theorem FY {u v:V2}(hu:nz u)(h:fF u v=0):∃c:Rat,c>0/\u=(c*v.1,c*v.2):=by
 rw [fj] at h
 obtain ⟨e,c⟩:=h
 have fin:∀k:Rat,k>0->u.1=k*v.1->u.2=k*v.2->∃c:Rat,c>0/\u=(c*v.1,c*v.2):=fun k h0 h1 h2=>⟨k,h0,Prod.ext h1 h2⟩
 have pos:∀x y:Rat,y≠0->x*y>0->x*y⁻¹>0:=fun x y hy h=>by
  have e:=inv_mul hy x
  generalize x*y⁻¹=t at *
  have e2:t*(y*y)=x*y:=by grind
  have:=sq_pos (u:=(y,0)) (.inl hy)
  unfold dt at this
  by_cases q:t>0
  ·exact q
  ·have:=mn (show -t≥0 by grind) (show y*y≥0 by grind);grind
 unfold cr at c
 have two:v.2≠0->u.2*v.2>0->∃c:Rat,c>0/\u=(c*v.1,c*v.2):=fun h0 h1=>by
  refine fin (u.2*v.2⁻¹) (pos _ _ h0 h1) ?_ (inv_mul h0 _).symm
  have:=inv_mul h0 u.1
  have:u.1*v.2*v.2⁻¹=u.2*v.1*v.2⁻¹:=by rw [show u.1*v.2=u.2*v.1 by grind]
  grind
 have one:v.1≠0->u.1*v.1>0->v.2=0->u.2=0->∃c:Rat,c>0/\u=(c*v.1,c*v.2):=fun h0 h1 h2 h3=>
  fin (u.1*v.1⁻¹) (pos _ _ h0 h1) (inv_mul h0 _).symm (by rw [h2,h3];grind)
 rcases bH u with ⟨e1,h⟩|⟨e1,h⟩|⟨e1,h⟩
 ·have h':up v:=by rcases bH v with ⟨e',h⟩|⟨e',h⟩|⟨e',h⟩<;>first|exact h|omega
  unfold up at h h'
  by_cases q:v.2>0
  ·refine two (by grind) ?_
   by_cases q':u.2>0
   ·exact mp q' q
   ·have u2:u.2=0:=by grind
    have:=mp (show u.1>0 by grind) q
    rw [u2] at c;grind
  ·have v2:v.2=0:=by grind
   have v1:v.1>0:=by grind
   by_cases q':u.2>0
   ·have:=mp q' v1;rw [v2] at c;grind
   ·exact one (by grind) (mp (by grind) v1) v2 (by grind)
 ·have h':dn v:=by rcases bH v with ⟨e',h⟩|⟨e',h⟩|⟨e',h⟩<;>first|exact h|omega
  unfold dn at h h'
  by_cases q:v.2<0
  ·refine two (by grind) ?_
   by_cases q':u.2<0
   ·have:=mp (show -u.2>0 by grind) (show -v.2>0 by grind);grind
   ·have u2:u.2=0:=by grind
    have:=mp (show -u.1>0 by grind) (show -v.2>0 by grind)
    rw [u2] at c;grind
  ·have v2:v.2=0:=by grind
   have v1:-v.1>0:=by grind
   by_cases q':u.2<0
   ·have:=mp (show -u.2>0 by grind) v1;rw [v2] at c;grind
   ·refine one (by grind) ?_ v2 (by grind)
    have:=mp (show -u.1>0 by grind) v1;grind
 ·unfold nz at hu;grind
theorem Ip {a b d:V2}(h:fF a b=0)(h':fF b d=0):fF a d=0:=by
 have z:∀{u v:V2},fF u v=0↔¬fF u v<0/\¬fF v u<0:=by
  intro u v
  constructor
  ·intro e
   refine ⟨by omega,?_⟩
   rw [fj] at e
   have:=ck u v
   rw [oA]
   rintro (g|⟨_,g⟩)
   ·omega
   ·grind
  ·rintro ⟨g,g'⟩
   rcases tX u v with e|e|e
   ·exact absurd e g
   ·exact e
   ·exact absurd e g'
 rw [z] at *
 exact ⟨tZ _ _ _ h.1 h'.1,tZ _ _ _ h'.2 h.2⟩
theorem tY (a:V2):fF a a=0:=fj.2 ⟨rfl,by unfold cr;grind⟩
theorem D6 {a b d:V2}(h:¬fF b a<0)(h':fF b d<0):fF a d<0:=by
 by_cases q:fF a d<0
 ·exact q
 ·exact absurd h' (tZ _ _ _ h q)
def eP (u v:V2):Bool:=decide (fF u v=0)
theorem A_:∀{r:List V2} {p:V2},(p::r).Pairwise (fun x y=>¬fF y x<0) ->
  (oI eP p r).Pairwise (fun x y=>fF x y<0)/\(∀x∈oI eP p r,fF p x<0)/\∀x∈p::r,∃y∈p::oI eP p r,fF y x=0
 | [],p,_=>⟨List.Pairwise.nil,(fun x h=>by cases h),fun x h=>⟨x,h,tY x⟩⟩
 | a::r,p,h=>by
  obtain ⟨h1,h2⟩:=List.pairwise_cons.1 h
  obtain ⟨i1,i2,i3⟩:=A_ h2
  have pa:¬fF a p<0:=h1 a (List.mem_cons_self ..)
  unfold oI
  by_cases e:fF a p=0
  ·have:eP a p=true:=decide_eq_true e
   rw [if_pos this]
   have pa':¬fF p a<0:=fun g=>by
    rcases fj.1 e with ⟨e1,e2⟩
    rw [oA] at g
    have:=ck a p
    rcases g with g|⟨_,g⟩
    ·omega
    ·grind
   refine ⟨i1,fun x hx=>D6 pa (i2 x hx),fun x hx=>?_⟩
   rcases List.mem_cons.1 hx with rfl|hx
   ·exact ⟨x,List.mem_cons_self ..,tY x⟩
   ·obtain ⟨y,hy,g⟩:=i3 x hx
    rcases List.mem_cons.1 hy with rfl|hy
    ·refine ⟨p,List.mem_cons_self ..,Ip (b:=y) ?_ g⟩
     rcases tX p y with q|q|q
     ·exact absurd q pa'
     ·exact q
     ·exact absurd q pa
    ·exact ⟨y,List.mem_cons_of_mem _ hy,g⟩
  ·have:eP a p=false:=decide_eq_false e
   rw [this]
   have lt:fF p a<0:=by
    rcases tX p a with q|q|q
    ·exact q
    ·exfalso;apply e
     rw [fj] at *
     have:=ck a p
     exact ⟨q.1.symm,by grind⟩
    ·exact absurd q pa
   refine ⟨List.pairwise_cons.2 ⟨i2,i1⟩,fun x hx=>?_,fun x hx=>?_⟩
   ·rcases List.mem_cons.1 hx with rfl|hx
    ·exact lt
    ·exact D6 (b:=a) pa (i2 x hx)
   ·rcases List.mem_cons.1 hx with rfl|hx
    ·exact ⟨x,List.mem_cons_self ..,tY x⟩
    ·obtain ⟨y,hy,g⟩:=i3 x hx
     exact ⟨y,List.mem_cons_of_mem _ hy,g⟩
theorem Gf {m:List V2}(h:m.Pairwise (fun x y=>¬fF y x<0)):(fq eP m).Pairwise (fun x y=>fF x y<0)/\∀x∈m,∃y∈fq eP m,fF y x=0:=by
 cases m with
 | nil=>exact ⟨List.Pairwise.nil,fun x h=>by cases h⟩
 | cons p r=>
  obtain ⟨h1,h2,h3⟩:=A_ h
  exact ⟨List.pairwise_cons.2 ⟨h2,h1⟩,h3⟩
theorem LS {m:List V2}(h:m.Pairwise (fun x y=>¬fF y x<0))(hn:∀r∈m,nz r)(ho:∀r∈m,∃s∈m,Qh s r):AD (fq eP m)/\∀x∈m,∃y∈fq eP m,∃c:Rat,c>0/\y=(c*x.1,c*x.2):=by
 obtain ⟨h1,h2⟩:=Gf h
 have sub:∀x∈fq eP m,x∈m:=Gg
 have mem:∀x∈m,∃y∈fq eP m,∃c:Rat,c>0/\y=(c*x.1,c*x.2):=fun x hx=>by
  obtain ⟨y,hy,e⟩:=h2 x hx
  exact ⟨y,hy,FY (hn y (sub y hy)) e⟩
 refine ⟨⟨fun r hr=>hn r (sub r hr),fun r hr=>?_,?_⟩,mem⟩
 ·obtain ⟨s,hs,k,k0,e1,e2⟩:=ho r (sub r hr)
  obtain ⟨y,hy,c,c0,e⟩:=mem s hs
  refine ⟨y,hy,c*k,mp c0 k0,?_,?_⟩
  ·rw [e];show c*s.1=_;rw [e1];grind
  ·rw [e];show c*s.2=_;rw [e2];grind
 ·refine List.Pairwise.imp_of_mem ?_ h1
  intro a b ha hb g
  exact (yQ (hn a (sub a ha)) (hn b (sub b hb))).1 g
theorem Jp {m:List V2}(h:m.Pairwise (fun x y=>¬fF y x<0))(hn:∀r∈m,nz r)(ho:∀r∈m,∃s∈m,Qh s r)(hd:m.Pairwise (fun x y=>¬fF x y=0)):AD m:=by
 refine ⟨hn,ho,?_⟩
 have:=h.and hd
 refine List.Pairwise.imp_of_mem ?_ this
 intro a b ha hb ⟨g,g'⟩
 refine (yQ (hn a ha) (hn b hb)).1 ?_
 rcases tX a b with q|q|q
 ·exact q
 ·exact absurd q g'
 ·exact absurd q g
section
variable {D:List V2} (h:AD D)
include h
theorem Hf {i:Nat}{u w:V2}(hi:D[i]?=some u)(hw:D[(i+1)%D.length]?=some w):cr u w≥0:=by
 by_cases q:cr u w≥0
 ·exact q
 exfalso
 have N0:w∈D:=List.mem_of_getElem? hw
 have hu:u∈D:=List.mem_of_getElem? hi
 obtain ⟨s,hs,ho⟩:=h.cl w N0
 obtain ⟨k,k0,_,e2⟩:=jY ho u
 have p:cr u s>0:=by rw [e2];have:=mp k0 (show -(cr u w)>0 by grind);grind
 obtain ⟨j,hj⟩:=List.getElem?_of_mem hs
 refine JW (h.nz u hu) (h.nz w N0) (h.nz s hs) (QV h hi hw hj (fun e=>?_) (fun e=>?_)) p (by grind)
 ·rw [e,hi] at hj;cases hj;unfold cr at p;grind
 ·rw [e,hw] at hj;cases hj;grind
omit h in
def HI (f:V2->V2->V2)(D:List V2):List V2:=(List.range D.length).map fun i=>f (D.getD i (0,0)) (D.getD ((i+1)%D.length) (0,0))
theorem Jz {f:V2->V2->V2}(hf:∀u∈D,∀w∈D,cr u w≥0->qL u w (f u w))(hD:D≠[]):EJ D (HI f D):=by
 have hl:0<D.length:=List.length_pos_iff.2 hD
 have key:∀i u w,D[i]?=some u->D[(i+1)%D.length]?=some w->D.getD i (0,0)=u/\D.getD ((i+1)%D.length) (0,0)=w/\qL u w (f u w):=fun i u w hi hw=>
  ⟨by rw [List.getD_eq_getElem?_getD,hi];rfl,by rw [List.getD_eq_getElem?_getD,hw];rfl,hf u (List.mem_of_getElem? hi) w (List.mem_of_getElem? hw) (Hf h hi hw)⟩
 refine .inr ⟨hD,fun x hx=>?_,fun i u w hi hw=>?_⟩
 ·obtain ⟨i,hi,rfl⟩:=List.mem_map.1 hx
  have hi:=List.mem_range.1 hi
  have e1:D[i]?=some D[i]:=List.getElem?_eq_getElem hi
  have e2:D[(i+1)%D.length]?=some (D[(i+1)%D.length]'(Nat.mod_lt _ hl)):=List.getElem?_eq_getElem _
  obtain ⟨k1,k2,k3⟩:=key i _ _ e1 e2
  exact ⟨i,_,_,e1,e2,by rw [k1,k2];exact k3⟩
 ·obtain ⟨k1,k2,k3⟩:=key i u w hi hw
  refine ⟨_,List.mem_map.2 ⟨i,List.mem_range.2 (List.getElem?_eq_some_iff.1 hi).1,rfl⟩,?_⟩
  rw [k1,k2];exact k3
end
theorem tF {a b c x y z:Int}(h1:a*y=b*x)(h2:a*z=c*x)(g:Nat.gcd (Nat.gcd x.natAbs y.natAbs) z.natAbs=1):x.natAbs∣a.natAbs:=by
 have e1:a.natAbs*y.natAbs=b.natAbs*x.natAbs:=by rw [←Int.natAbs_mul,←Int.natAbs_mul,h1]
 have e2:a.natAbs*z.natAbs=c.natAbs*x.natAbs:=by rw [←Int.natAbs_mul,←Int.natAbs_mul,h2]
 have d1:x.natAbs∣a.natAbs*Nat.gcd (Nat.gcd x.natAbs y.natAbs) z.natAbs:=by
  rw [←Nat.gcd_mul_left,←Nat.gcd_mul_left]
  exact Nat.dvd_gcd (Nat.dvd_gcd ⟨a.natAbs,by rw [Nat.mul_comm]⟩ ⟨b.natAbs,by rw [e1,Nat.mul_comm]⟩) ⟨c.natAbs,by rw [e2,Nat.mul_comm]⟩
 rwa [g,Nat.mul_one] at d1
theorem Ft {l m:L3}(ol:kk l=true)(om:kk m=true)(cl:cJ l=l)(cm:cJ m=m){x y:Rat}(hl:aT l x y=0)(hm:aT m x y=0)
  (hc:cr (cF l) (cF m)=0):l=m:=by
 unfold kk at ol om
 rw [Bool.and_eq_true,decide_eq_true_iff,decide_eq_true_iff] at ol om
 have c12:l.1*m.2.1=l.2.1*m.1:=by
  unfold cr cF at hc
  have:(l.1:Rat)*(m.2.1:Rat)=(l.2.1:Rat)*(m.1:Rat):=by grind
  exact_mod_cast this
 unfold aT at hl hm
 have ZL:(l.1:Rat)*(m.2.1:Rat)=(l.2.1:Rat)*(m.1:Rat):=by exact_mod_cast c12
 have c13:l.1*m.2.2=l.2.2*m.1:=by
  have:(l.1:Rat)*(m.2.2:Rat)=(l.2.2:Rat)*(m.1:Rat):=by grind
  exact_mod_cast this
 have c23:l.2.1*m.2.2=l.2.2*m.2.1:=by
  have:(l.2.1:Rat)*(m.2.2:Rat)=(l.2.2:Rat)*(m.2.1:Rat):=by grind
  exact_mod_cast this
 obtain ⟨X4,SQ⟩:=ol
 obtain ⟨ZF,SR⟩:=om
 unfold js at SQ SR
 have US:Nat.gcd (Nat.gcd l.2.1.natAbs l.1.natAbs) l.2.2.natAbs=1:=by rw [Nat.gcd_comm l.2.1.natAbs];exact SQ
 have Rg:Nat.gcd (Nat.gcd m.2.1.natAbs m.1.natAbs) m.2.2.natAbs=1:=by rw [Nat.gcd_comm m.2.1.natAbs];exact SR
 have a1:l.1.natAbs=m.1.natAbs:=Nat.dvd_antisymm (tF (a:=m.1) (b:=m.2.1) (c:=m.2.2) (by rw [Int.mul_comm,←c12,Int.mul_comm]) (by rw [Int.mul_comm,←c13,Int.mul_comm]) SQ) (tF c12 c13 SR)
 have a2:l.2.1.natAbs=m.2.1.natAbs:=Nat.dvd_antisymm (tF (a:=m.2.1) (b:=m.1) (c:=m.2.2) (by rw [Int.mul_comm,c12,Int.mul_comm]) (by rw [Int.mul_comm,←c23,Int.mul_comm]) US) (tF (b:=l.1) (c:=l.2.2) c12.symm c23 Rg)
 have sl:¬(l.1<0\/l.1=0/\l.2.1<0):=fun h=>by
  unfold cJ at cl
  rw [if_pos h] at cl
  have e1:-l.1=l.1:=congrArg (fun x:L3=>x.1) cl
  have e2:-l.2.1=l.2.1:=congrArg (fun x:L3=>x.2.1) cl
  omega
 have sm:¬(m.1<0\/m.1=0/\m.2.1<0):=fun h=>by
  unfold cJ at cm
  rw [if_pos h] at cm
  have e1:-m.1=m.1:=congrArg (fun x:L3=>x.1) cm
  have e2:-m.2.1=m.2.1:=congrArg (fun x:L3=>x.2.1) cm
  omega
 have e1:l.1=m.1:=by omega
 by_cases z:l.1=0
 ·have e2:l.2.1=m.2.1:=by omega
  have n2:l.2.1≠0:=fun h=>X4 ⟨z,h⟩
  have e3:m.2.2=l.2.2:=Int.eq_of_mul_eq_mul_left n2 (by rw [c23,e2,Int.mul_comm])
  exact Prod.ext e1 (Prod.ext e2 e3.symm)
 ·have e2:m.2.1=l.2.1:=Int.eq_of_mul_eq_mul_left z (by rw [c12,e1,Int.mul_comm])
  have e3:m.2.2=l.2.2:=Int.eq_of_mul_eq_mul_left z (by rw [c13,e1,Int.mul_comm])
  exact Prod.ext e1 (Prod.ext e2.symm e3.symm)
end Go.Proofs.Tryz.aw
namespace Go.Proofs.Tryz
open Go.bL Go.fN
theorem xQ {V:View}{v:Value}{p:Rat×Rat}(h:mb V v p.1 p.2){k:Nat}(s1:Sz k p.1)(s2:Sz k p.2)(hk:k<=1099511627776) :
  ab prog 188 #[v] V fun r V'=>r=.int .i64 (aw.half p):=by
 obtain ⟨x1,x2,q,y1,y2,q',rfl,hx,hy⟩:=h
 refine vQ x1 x2 q y1 y2 q' V _ fun V1 l1=>(fk (hy.le l1) s2 hk).mono ?_
 rintro r V2 l2 rfl
 have cg:=l1.trans l2
 refine ⟨_,rfl,fun h1 V3 l3=>?_,fun h1=>⟨fun h2 V4 l4=>(fk (hx.le (cg.trans l4)) s1 hk).mono ?_,fun h2=>⟨fun h3 lO XS=>?_,fun h3 me cp=>(fk (hx.le (cg.trans cp)) s1 hk).mono ?_⟩⟩⟩
 ·have h1:p.2.num.sign>0:=of_decide_eq_true h1
  unfold aw.half;rw [if_pos (.inl h1)]
 ·have h1:¬p.2.num.sign>0:=of_decide_eq_false h1
  have h2:p.2.num.sign=0:=by simpa using h2
  rintro r V5 l5 rfl
  refine ⟨_,rfl,fun h3 V6 l6=>?_,fun h3=>⟨fun h4 V7 l7=>?_,fun h4 V8 l8=>(fk (hx.le (cg.trans (l4.trans (l5.trans l8)))) s1 hk).mono ?_⟩⟩
  ·have h3:p.1.num.sign>0:=of_decide_eq_true h3
   unfold aw.half;rw [if_pos (.inr ⟨h2,h3⟩)]
  ·have h4:p.2.num.sign<0:=of_decide_eq_true h4
   omega
  ·have h3:¬p.1.num.sign>0:=of_decide_eq_false h3
   have hn:¬(p.2.num.sign>0\/p.2.num.sign=0/\p.1.num.sign>0):=by omega
   rintro r V9 l9 rfl
   refine ⟨_,rfl,fun h5 ie l10=>?_,fun h5 gV bI=>?_⟩
   ·have h5:p.1.num.sign<0:=of_decide_eq_true h5
    unfold aw.half;rw [if_neg hn,if_pos (.inr h5)]
   ·have h5:¬p.1.num.sign<0:=of_decide_eq_false h5
    unfold aw.half;rw [if_neg hn,if_neg (by omega)]
 ·have h1:¬p.2.num.sign>0:=of_decide_eq_false h1
  have h2:¬p.2.num.sign=0:=by simpa using h2
  have h3:p.2.num.sign<0:=of_decide_eq_true h3
  unfold aw.half;rw [if_neg (by omega),if_pos (.inl h3)]
 ·have h1:¬p.2.num.sign>0:=of_decide_eq_false h1
  have h2:¬p.2.num.sign=0:=by simpa using h2
  have h3:¬p.2.num.sign<0:=of_decide_eq_false h3
  omega
theorem JB (q:Rat):-1<=q.num.sign/\q.num.sign<=1:=by
 rcases Int.lt_trichotomy q.num 0 with h|h|h
 ·rw [Int.sign_eq_neg_one_of_neg h];omega
 ·rw [h];decide
 ·rw [Int.sign_eq_one_of_pos h];omega
theorem AY {V:View}{v w:Value}{a b:Rat×Rat}(h:mb V v a.1 a.2)(h':mb V w b.1 b.2){k:Nat}(s1:Sz k a.1)(s2:Sz k a.2)(s3:Sz k b.1)(s4:Sz k b.2)(hk:4*k+3<274877906944) :
  ab prog 151 #[v,w] V fun r V'=>r=.int .i64 (aw.fF a b):=by
 have h0:=h
 have h0':=h'
 obtain ⟨x1,x2,q,y1,y2,q',rfl,-⟩:=h
 obtain ⟨u1,u2,t,w1,w2,t',rfl,-⟩:=h'
 refine Aj x1 x2 q y1 y2 q' u1 u2 t w1 w2 t' V _ fun V1 l1=>(xQ (h0.le l1) s1 s2 (by omega)).mono ?_
 rintro r V2 l2 rfl
 refine ⟨_,rfl,fun V3 l3=>(xQ (h0'.le (l1.trans (l2.trans l3))) s3 s4 (by omega)).mono ?_⟩
 rintro r V4 l4 rfl
 have dz:=l1.trans (l2.trans (l3.trans l4))
 refine ⟨_,rfl,fun g V5 l5=>?_,fun g=>⟨fun g' V6 l6=>?_,fun g' V7 l7=>(my (h0.le (dz.trans l7)) (h0'.le (dz.trans l7)) s1 s2 s3 s4 hk).mono ?_⟩⟩
 ·unfold aw.fF;rw [if_pos (of_decide_eq_true g)]
 ·unfold aw.fF;rw [if_neg (of_decide_eq_false g),if_pos (of_decide_eq_true g')]
 ·rintro r V8 l8 gc
  have Ib:=gc
  obtain ⟨c0,c1,c2,rfl⟩:=gc.shape
  refine ⟨_,_,_,rfl,fun V9 l9=>(fk (Ib.le l9) (kQ s1 s2 s3 s4) (by omega)).mono ?_⟩
  rintro r ie l10 rfl
  refine ⟨_,rfl,fun gV bI=>?_⟩
  have bd:=JB (a.1*b.2-a.2*b.1)
  rw [ar (by omega)]
  unfold aw.fF;rw [if_neg (of_decide_eq_false g),if_neg (of_decide_eq_false g')]
  show _=Value.int .i64 (-(a.1*b.2-a.2*b.1).num.sign)
  congr 1;omega
def bq:Rat×Rat:=(0,0)
def dv (a b:Rat×Rat):Int:=aw.fF a b
theorem fJ:Ord dv:=⟨aw.yP,aw.tZ⟩
def kR (V:View)(v:Value)(c:Rat×Rat):Prop:=mb V v c.1 c.2/\Sz 100000 c.1/\Sz 100000 c.2
theorem kR.le {V V':View}{v:Value}{c:Rat×Rat}(h:kR V v c)(l:V.Le V'):kR V' v c:=⟨h.1.le l,h.2⟩
theorem kR.shape {V:View}{v:Value}{c:Rat×Rat}(h:kR V v c):∃(x y:Int)(p:OA)(xb yb:Int)(pb:OA),v=.agg #[.int .i64 x,.int .i64 y,.pointer p,.int .i64 xb,.int .i64 yb,.pointer pb]:=by
 obtain ⟨⟨x1,x2,p,y1,y2,q,e,-⟩,-⟩:=h;exact ⟨_,_,_,_,_,_,e⟩
theorem bU {V:View}{v w:Value}{a b:Rat×Rat}(h:kR V v a)(h':kR V w b):ab prog 151 #[v,w] V fun r V'=>r=.int .i64 (dv a b):=
 AY h.1 h'.1 h.2.1 h.2.2 h'.2.1 h'.2.2 (by omega)
def eP (a b:Rat×Rat):Bool:=aw.eP a b
theorem Gd {V:View}{v w:Value}{a b:Rat×Rat}(h:kR V v a)(h':kR V w b):ab prog 153 #[v,w] V fun r V'=>r=.bool (eP a b):=by
 have h0:=h
 have h0':=h'
 obtain ⟨_,_,_,_,_,_,rfl⟩:=h.shape
 obtain ⟨_,_,_,_,_,_,rfl⟩:=h'.shape
 refine nQ _ _ _ _ _ _ _ _ _ _ _ _ V _ fun V1 l1=>(bU (h0.le l1) (h0'.le l1)).mono ?_
 rintro r V2 l2 rfl
 refine ⟨_,rfl,fun V3 l3=>?_⟩
 unfold eP aw.eP dv
 congr 1
theorem Gb {V:View}{v:Value}{p:Rat×Rat}(h:mb V v p.1 p.2){k:Nat}(s1:Sz k p.1)(s2:Sz k p.2)(hk:k<=1099511627776) :
  ab prog 156 #[v] V fun r V'=>mb V' r (-p.1) (-p.2):=by
 obtain ⟨x1,x2,q,y1,y2,q',rfl,hx,hy⟩:=h
 refine xj x1 x2 q y1 y2 q' V _ fun V1 l1=>(pL (hx.le l1) s1 hk).mono ?_
 rintro r V2 l2 g
 have g0:=g
 obtain ⟨a,b,c,rfl⟩:=g.shape
 refine ⟨_,_,_,rfl,fun V3 l3=>(pL (hy.le (l1.trans (l2.trans l3))) s2 hk).mono ?_⟩
 rintro r V4 l4 g'
 have g0':=g'
 obtain ⟨a',b',c',rfl⟩:=g'.shape
 exact ⟨_,_,_,rfl,fun V5 l5=>⟨_,_,_,_,_,_,rfl,g0.le (l3.trans (l4.trans l5)),g0'.le l5⟩⟩
def jK (p:Rat×Rat):Rat×Rat:=(p.1*(gY p.1 p.2)⁻¹,p.2*(gY p.1 p.2)⁻¹)
theorem uh {V:View}{v:Value}{p:Rat×Rat}(h:mb V v p.1 p.2){k:Nat}(s1:Sz k p.1)(s2:Sz k p.2)(hk:8*k+8<274877906944) :
  ab prog 155 #[v] V fun r V'=>mb V' r (jK p).1 (jK p).2:=by
 have h0:=h
 obtain ⟨x1,x2,q,y1,y2,q',rfl,hx,hy⟩:=h
 refine nR x1 x2 q y1 y2 q' V _ fun V1 l1=>(iN (hx.le l1) (hy.le l1) s1 s2 (by omega)).mono ?_
 rintro r V2 l2 g
 have g0:=g
 obtain ⟨a,b,c,rfl⟩:=g.shape
 refine ⟨_,_,_,rfl,fun V3 l3=>(IB (g0.le l3) (gi s1 s2) (by omega)).mono ?_⟩
 rintro r V4 l4 g'
 have g0':=g'
 obtain ⟨a',b',c',rfl⟩:=g'.shape
 refine ⟨_,_,_,rfl,fun V5 l5=>(uo (h0.le (l1.trans (l2.trans (l3.trans (l4.trans l5))))) (g0'.le l5) (k:=k+k+1) (s1.mono (by omega)) (s2.mono (by omega)) (fX (gi s1 s2)) (by omega)).mono ?_⟩
 rintro r V6 l6 gs
 have gs0:=gs
 obtain ⟨_,_,_,_,_,_,rfl,-⟩:=gs
 exact ⟨_,_,_,_,_,_,rfl,fun V7 l7=>gs0.le l7⟩
theorem GR.Kx {α:Type}{sz:Nat}{R:View->Value->α->Prop}{V:View}{n c:Nat}{vs:List Value}{l:List α}(h:GR sz R V n c vs l){xs ys:List Value}{a b:α}(hx:xs.length=sz)(hy:ys.length=sz)(ha:R V (.agg xs.toArray) a)(hb:R V (.agg ys.toArray) b)(h0:0<sz){sp:List Value}{c':Nat}(h1:n+2<=c')(h2:c'*sz<=(n+2)*sz+sp.length) :
  GR sz R V (n+2) c' (vs.take (n*sz)++(xs++ys)++sp) (l++[a,b]):=by
 have hl:=h.row.fu h0
 have hn:=h.len
 have hc:=h.cap
 have hm:n*sz<=c*sz:=Nat.mul_le_mul_right _ h.le
 have r1:=h.row.snoc (sp:=ys++sp) hx ha h0
 have r2:=r1.snoc (sp:=sp) hy hb h0
 have ht:(vs.take (l.length*sz)).length=l.length*sz:=by rw [List.length_take];omega
 have e:(vs.take (l.length*sz)++xs++(ys++sp)).take ((l++[a]).length*sz)=vs.take (l.length*sz)++xs:=by
  have:(vs.take (l.length*sz)++xs).length=(l++[a]).length*sz:=by
   rw [List.length_append,ht,hx,List.length_append,Nat.add_mul];simp
  rw [←this,List.take_left' rfl]
 rw [e] at r2
 refine ⟨by rw [List.length_append,hn];rfl,h1,?_,?_⟩
 ·rw [←hn] at ht
  simp only [List.length_append,ht,hx,hy]
  rw [Nat.add_mul] at h2
  omega
 ·rw [hn]
  simpa using r2
def Dl (p:Rat×Rat):Rat×Rat:=(-p.1,-p.2)
def Jo (l:L3):List (Rat×Rat):=[jK (aw.cF l),Dl (jK (aw.cF l))]
def jd (M:List L3):List (Rat×Rat):=M.flatMap Jo
theorem qf (M N:List L3):jd (M++N)=jd M++jd N:=List.flatMap_append ..
theorem HV {p:Rat×Rat}{k:Nat}(s1:Sz k p.1)(s2:Sz k p.2):Sz (3*k+3) (jK p).1/\Sz (3*k+3) (jK p).2:=
 ⟨(Sz.mul s1 (fX (gi s1 s2))).mono (by omega),(Sz.mul s2 (fX (gi s1 s2))).mono (by omega)⟩
theorem OS {a b:Int}{p:OA}{c d:Int}{q:OA}{e f:Int}{r:OA}{g h:Int}{s:OA}:∀v∈([.int .i64 a,.int .i64 b,.pointer p,.int .i64 c,.int .i64 d,.pointer q,.int .i64 e,.int .i64 f,.pointer r,.int .i64 g,.int .i64 h,.pointer s]:List Value),v.oneCell'=true:=by
 intro v hm
 simp only [List.mem_cons,List.not_mem_nil,or_false] at hm
 rcases hm with rfl|rfl|rfl|rfl|rfl|rfl|rfl|rfl|rfl|rfl|rfl|rfl<;>rfl
theorem HK {q:Rat}:q.num.sign≥0↔q≥0:=by
 have:=@aw.B1 q
 constructor
 ·intro h;by_cases g:q≥0
  ·exact g
  ·have:=this.2 (by grind);omega
 ·intro h;by_cases g:q.num.sign≥0
  ·exact g
  ·have:=this.1 (by omega);grind
theorem HL {q:Rat}:q.num.sign<=0↔q<=0:=by
 have:=@aw.mP q
 constructor
 ·intro h;by_cases g:q<=0
  ·exact g
  ·have:=this.2 (by grind);omega
 ·intro h;by_cases g:q.num.sign<=0
  ·exact g
  ·have:=this.1 (by omega);grind
theorem CQ {pv:Value}{p:Rat×Rat}(s1:Sz 1000000 p.1)(s2:Sz 1000000 p.2):∀(t:Tr) {V:View} {q:OA} {lb n c:Nat} {vs:List Value} {o:List (Rat×Rat)},RT V q t->t.lN Bd->mb V pv p.1 p.2 ->
  (vs≠[]->V.w.heap[lb]?=some (.cells vs.toArray 108 (0,0)))->(vs≠[]->V.X lb)->GR 6 kR V n c vs o->(vs≠[]->0<n)->n+2*t.size<=1000000 ->
  ab prog 101 #[.pointer q,pv,.slice (mA lb c) n c] V fun r V'=>∃(bm:Nat)(vm:List Value)(n' c':Nat),(vm≠[]->V'.w.heap[bm]?=some (.cells vm.toArray 108 (0,0)))/\(vm≠[]->V.w.heap.size<=bm\/(vs≠[]/\bm=lb)) /\
   r=.slice (mA bm c') n' c'/\GR 6 kR (V'.cf (vm≠[]) bm) n' c' vm (o++jd (aw.cq t p))/\(vm≠[]->0<n')/\n'<=n+2*t.size:=by
 intro t
 induction t with
 | leaf i=>
  intro V q lb n c vs o h ha hp hw hx hg hpos hn
  obtain ⟨x1,x2,x3,y1,y2,y3,rfl,-⟩:=hp
  refine oo q x1 x2 x3 y1 y2 y3 lb n c vs V _ hw hx fun V1 l1=>(kV (h.le l1)).mono ?_
  rintro r V2 l2 rfl
  have ME:∀{A B:Prop},A\/B\/False->A\/B:=fun h=>h.imp id fun h=>h.elim id False.elim
  refine ⟨_,rfl,fun hl V3 bk hle e2 e3=>⟨bk,vs,n,c,e2,fun h=>ME (e3 h),rfl,?_,hpos,by omega⟩,fun hl=>by cases hl⟩
  show GR 6 kR _ n c vs (o++[])
  rw [List.append_nil]
  exact hg.mono fun _ _ g=>kR.le g ((l1.trans l2).trans hle)
 | node ln a b iha ihb=>
  intro V q lb n c vs o h ha hp hw hx hg hpos hn
  have hp0:=hp
  obtain ⟨x1,x2,x3,y1,y2,y3,rfl,-⟩:=hp
  refine oo q x1 x2 x3 y1 y2 y3 lb n c vs V _ hw hx fun V1 l1=>(kV (h.le l1)).mono ?_
  rintro r V2 l2 rfl
  have ME:∀{A B:Prop},A\/B\/False->A\/B:=fun h=>h.imp id fun h=>h.elim id False.elim
  refine ⟨_,rfl,(fun hl=>by cases hl),fun _=>?_⟩
  obtain ⟨bb,u1,u2,u3,v1,v2,v3,w1,w2,w3,pl,pr,i,rfl,hb,hln,ha',hbb⟩:=h.le (l1.trans l2)
  obtain ⟨hbd,RO,nE⟩:=ha
  simp only [Tr.size] at hn
  have hat:∀{W:View},V2.Le W->∀j v,([.int .i64 u1,.int .i64 u2,.pointer u3,.int .i64 v1,.int .i64 v2,.pointer v3,.int .i64 w1,.int .i64 w2,.pointer w3,.pointer pl,.pointer pr,.bool i]:List Value)[j]?=some v->W.at ((⟨bb,0,none⟩:Addr).add j) v:=by
   intro W hW j v hv;rw [add_zero'];exact cW (xs:=[_,_,_,_,_,_,_,_,_,_,_,_]) (hW _ _ hb) hv
  have h0:=View.Le.refl V2
  have sl:=hbd.HY
  refine ⟨rfl,rfl,_,_,_,_,_,_,_,_,_,⟨bb,0,none⟩,rfl,hat h0 0 _ rfl,hat h0 1 _ rfl,hat h0 2 _ rfl,hat h0 3 _ rfl,hat h0 4 _ rfl,hat h0 5 _ rfl,hat h0 6 _ rfl,hat h0 7 _ rfl,hat h0 8 _ rfl,fun V4 l4=>(GJ (L:=ln) (hln.le l4) (hp0.le (l1.trans (l2.trans l4))) (k:=1000000) ⟨sl.1.mono (by omega),sl.2.1.mono (by omega),sl.2.2.mono (by omega)⟩ s1 s2 (by omega)).mono ?_⟩
  rintro r V5 l5 rfl
  have gE:=l4.trans l5
  have L5:=l1.trans (l2.trans gE)
  have hg5:GR 6 kR V5 n c vs o:=hg.mono fun _ _ g=>kR.le g L5
  refine ⟨_,rfl,fun z V'=>GR 6 kR V' z.1 z.2.1 z.2.2 (o++jd (if aT ln p.1 p.2=0 then [ln] else []))/\(z.2.2≠[]->0<z.1)/\z.1<=n+2,⟨fun e0=>?_,fun e0=>?_⟩,?_⟩
  ·have e0:aT ln p.1 p.2=0:=aw.cu.1 (by simpa using e0)
   refine ⟨rfl,rfl,_,_,_,_,_,_,_,_,_,⟨bb,0,none⟩,rfl,hat gE 0 _ rfl,hat gE 1 _ rfl,hat gE 2 _ rfl,hat gE 3 _ rfl,hat gE 4 _ rfl,hat gE 5 _ rfl,hat gE 6 _ rfl,hat gE 7 _ rfl,hat gE 8 _ rfl,fun V6 l6=>(y_ (hln.le (gE.trans l6)) sl.1 sl.2.1 sl.2.2 (by omega)).mono ?_⟩
   rintro r V7 l7 gd
   have Ns:mb V7 r (aw.cF ln).1 (aw.cF ln).2:=gd
   obtain ⟨d1,d2,d3,d4,d5,d6,rfl,-⟩:=gd
   have VI:Sz 1000 (aw.cF ln).1:=sl.2.1
   have VJ:Sz 1000 (aw.cF ln).2:=sl.1.neg
   refine ⟨_,_,_,_,_,_,rfl,fun V8 l8=>(uh (p:=aw.cF ln) (Ns.le l8) VI VJ (by omega)).mono ?_⟩
   rintro r V9 l9 ge
   have PZ:=ge
   obtain ⟨e1,e2,e3,e4,e5,e6,rfl,-⟩:=ge
   obtain ⟨sp1,sp2⟩:=HV VI VJ
   refine ⟨_,_,_,_,_,_,rfl,fun ie l10=>(Gb (p:=jK (aw.cF ln)) (PZ.le l10) sp1 sp2 (by omega)).mono ?_⟩
   rintro r gV bI gf
   have Rf:=gf
   obtain ⟨f1,f2,f3,f4,f5,f6,rfl,-⟩:=gf
   refine ⟨_,_,_,_,_,_,rfl,by omega,hg.le,hg.cap,rfl,OS,fun sp c' g1 g2=>⟨(n+2,c',_),by and_intros<;>rfl,?_,fun _=>Nat.succ_pos _,Nat.le_refl _⟩⟩
   rw [if_pos e0]
   have Wc:=l6.trans (l7.trans (l8.trans (l9.trans (l10.trans bI))))
   exact (hg5.mono fun _ _ g=>kR.le g Wc).Kx (xs:=[_,_,_,_,_,_]) (ys:=[_,_,_,_,_,_]) rfl rfl ⟨PZ.le (l10.trans bI),sp1.mono (by omega),sp2.mono (by omega)⟩ ⟨Rf,sp1.neg.mono (by omega),sp2.neg.mono (by omega)⟩ (by decide) g1 g2
  ·have e0:¬aT ln p.1 p.2=0:=fun h=>by rw [aw.cu.2 h] at e0;cases e0
   refine ⟨(n,c,vs),by and_intros<;>rfl,?_,hpos,by dsimp only;omega⟩
   rw [if_neg e0]
   show GR 6 kR _ n c vs (o++[])
   rw [List.append_nil]
   exact hg5
  ·rintro ⟨n1,c1,vs1⟩ lO cg ⟨g1,Ri,Xa⟩
   dsimp only at g1 Ri Xa ⊢
   have Lu:=gE.trans cg
   refine ⟨rfl,fun z V'=>GR 6 kR V' z.1 z.2.1 z.2.2 (o++jd ((if aT ln p.1 p.2=0 then [ln] else [])++(if aT ln p.1 p.2≥0 then aw.cq a p else [])))/\(z.2.2≠[]->0<z.1)/\z.1<=n+2+2*a.size,⟨fun e1=>?_,fun e1=>?_⟩,?_⟩
   ·have e1:aT ln p.1 p.2≥0:=HK.1 (of_decide_eq_true e1)
    refine ⟨rfl,rfl,pl,BS (Lu _ _ hb) 9 rfl,fun me cp bk f1 f2=>?_⟩
    refine (iha (V:=me.au [vb vs1 me.w.heap.size bk]) (lb:=bk) (RT.le (V:=V2) (V':=me.au _) (fun b o h=>(Lu.trans cp) b o h) ha') RO (mb.le (V:=V) (V':=me.au _) hp0 fun b o h=>(L5.trans (cg.trans cp)) b o h) f1 (fun h=>⟨by simp [vJ h],f2 h⟩) (g1.mono (V':=me.au _) fun _ _ g=>kR.le g fun b o h=>cp b o h) Ri (by omega)).mono ?_
    rintro r pC dz ⟨bm,vm,n2,c2,a1,a2,rfl,a3,a4,a5⟩
    refine ⟨bm,vm,a1,a2,none,n2,c2,rfl,(n2,c2,vm),by and_intros<;>rfl,?_,a4,by dsimp only;omega⟩
    rw [qf,if_pos e1,←List.append_assoc]
    exact a3.mono fun _ _ g=>kR.le g fun b o h=>h
   ·have e1:¬aT ln p.1 p.2≥0:=fun h=>(of_decide_eq_false e1) (HK.2 h)
    refine ⟨(n1,c1,vs1),by and_intros<;>rfl,?_,Ri,by dsimp only;omega⟩
    rw [if_neg e1,List.append_nil]
    exact g1
   ·rintro ⟨n2,c2,vs2⟩ nh dm ⟨g2,Rj,Xb⟩
    dsimp only at g2 Rj Xb ⊢
    have Oc:=Lu.trans dm
    refine ⟨rfl,fun e2=>?_,fun e2 rP bk hle k1 k2=>⟨bk,vs2,n2,c2,k1,fun h=>ME (k2 h),rfl,?_,Rj,by simp only [Tr.size];omega⟩⟩
    ·have e2:aT ln p.1 p.2<=0:=HL.1 (of_decide_eq_true e2)
     refine ⟨rfl,rfl,pr,BS (Oc _ _ hb) 10 rfl,fun mr cS bk f1 f2=>?_⟩
     refine (ihb (V:=mr.au [vb vs2 mr.w.heap.size bk]) (lb:=bk) (RT.le (V:=V2) (V':=mr.au _) (fun b o h=>(Oc.trans cS) b o h) hbb) nE (mb.le (V:=V) (V':=mr.au _) hp0 fun b o h=>(L5.trans (cg.trans (dm.trans cS))) b o h) f1 (fun h=>⟨by simp [vJ h],f2 h⟩) (g2.mono (V':=mr.au _) fun _ _ g=>kR.le g fun b o h=>cS b o h) Rj (by omega)).mono ?_
     rintro r nN cP ⟨bm,vm,n3,c3,a1,a2,rfl,a3,a4,a5⟩
     refine ⟨bm,vm,a1,a2,none,n3,c3,rfl,fun pH bk2 hle k1 k2=>⟨bk2,vm,n3,c3,k1,fun h=>ME (k2 h),rfl,?_,a4,by simp only [Tr.size];omega⟩⟩
     simp only [aw.cq]
     rw [if_pos e2,←List.append_assoc,qf,←List.append_assoc]
     exact a3.mono fun _ _ g=>kR.le g fun b o h=>hle b o h
    ·have e2:¬aT ln p.1 p.2<=0:=fun h=>(of_decide_eq_false e2) (HL.2 h)
     simp only [aw.cq]
     rw [if_neg e2,List.append_nil]
     exact g2.mono fun _ _ g=>kR.le g hle
end Go.Proofs.Tryz
